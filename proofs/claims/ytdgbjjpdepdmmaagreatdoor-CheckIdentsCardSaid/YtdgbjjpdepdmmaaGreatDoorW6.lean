/-
  Which texts are identifiers that may be declared: recheck.Ident and the document's are the same predicate of any text.: part 6 of what the proof rests on (a value semantics for a part of the language, sound against the model; the walks).
-/
import Derived.Lib.Bytealg
import Derived.Shelf.Small.Strs
import Derived.Shelf.Pu.ToError
import Derived.Shelf.Pu.ToErrorRange
import Derived.Test.YtdgbjjpdepdmmaaGreatDoorProg
import Derived.WalkKit
import Derived.ProofKit
import Derived.OpenShut
import Derived.Carry
import Derived.ChangeSame
import Derived.RowKit
import Derived.Lib.LaidTab
import Derived.Test.YtdgbjjpdepdmmaaGreatDoorCards
import Derived.Test.YtdgbjjpdepdmmaaGreatDoorTie
import Derived.Deep.DeepHandedRow
import Derived.Deep.DeepWitnessRowRef
import Derived.Lay
import Derived.Test.YtdgbjjpdepdmmaaGreatDoorW5
set_option linter.unusedSimpArgs false
set_option linter.unusedVariables false
open Bool renaming false_eq_true → qBZ, and_eq_true → qB0, cond_eq_ite → qB5, and_self → qB7, or_true → qCb, or_self → qCh, not_true → qCl
open List renaming getElem?_cons_zero → qB1, map_cons → qB4, getElem?_cons_succ → qB6, length_cons → qCd, map_nil → qCe, length_nil → qCf, set_cons_zero → qCi, set_cons_succ → qCk
open Nat renaming le_refl → qB2, zero_add → qB9, beq → qCa, eq_of_beq_eq_true → qCg
open Option renaming map_some → qB3, bind_eq_some_iff → qB8, bind_eq_bind → qCc, pure_def → qCj
namespace W
open Go (IntKind BinOp UnOp)
set_option maxRecDepth 20000
theorem qyv : ∀ (n deep frm a : Nat) (l : List Nat) (j : Nat), l.length ≤ n → sk deep frm a l = (true, j) → a ≤ j ∧ j ≤ a + l.length := by
  intro n
  induction n with
  | zero =>
    intro deep frm a l j hn h
    have : l = [] := List.length_eq_zero_iff.1 (by omega)
    subst this
    simp only [sk] at h
    split at h
    · cases h; simp
    · cases h
  | succ n ih =>
    intro deep frm a l j hn h
    match l, hn, h with
    | [], hn, h =>
      simp only [sk] at h
      split at h
      · cases h; simp
      · cases h
    | [c], hn, h =>
      simp only [sk] at h
      split at h
      · split at h
        · cases h; simp
        · cases h; simp
      · cases h
    | c :: d :: l, hn, h =>
      simp only [qCd] at hn ⊢
      rw [sk] at h
      split at h
      · have := ih _ _ _ _ _ (by omega) h; omega
      · split at h
        · have := ih _ _ _ _ _ (by omega) h; omega
        · split at h
          · have := ih _ _ _ _ _ (by simp only [qCd]; omega) h
            simp only [qCd] at this; omega
          · cases h; omega
def qpZ (s : List Nat) (j : Nat) : Sy := match s.drop j with
  | [] => .bad 0
  | c :: _ => if cLt c = true then qmd s j else if cDg c = true then qui s j else if c = 34 then qn7 s j else qof s j c
inductive Nx where
  | ok (k : Int) (p e : Nat) (t : List Nat) (n : Int)
  | bad (p : Nat) (e : Int)
def quU (j : Nat) : Sy → Nx
  | .ok k t n a' => .ok k j a' t n
  | .bad e => .bad j e
def qht (s : List Nat) (a : Nat) : Nx := match sk 0 a a (s.drop a) with
  | (false, p) => .bad p 30
  | (true, j) => if j = s.length then .ok 0 j j [] 0 else quU j (qpZ s j)
def NRes (id : Nat) (s : List Nat) (a : Nat) (H : List Obj) (r : Nx) (X : Option Cr) : Prop :=
  match r with
  | .ok k p e t n => ∃ sm lo, id ≤ lo ∧ lo ≤ H.length ∧ (e = a ∨ lo ≤ id) ∧ X = some ⟨false, sm, .d (tok k p e t n), q9 H id (sc s e), lo⟩
  | .bad p x => ∃ sm lo a', id ≤ lo ∧ lo ≤ H.length ∧ (a' = a ∨ lo ≤ id) ∧ X = some ⟨true, sm, .ifc 157 (.d (.agg [.i .i64 (p : Nat), .i .i64 x])), q9 H id (sc s a'), lo⟩
theorem NRes.good {id : Nat} {s : List Nat} {a p a' : Nat} {H : List Obj} {k n : Int} {t : List Nat} {e : Env} {lo : Nat} {X : Option Cr} (hid : id < H.length) (hH : H[id]? = some (sc s a)) (h1 : id ≤ lo) (h2 : lo ≤ H.length) (h3 : a' = a ∨ lo ≤ id)
    (h : X = leave H false (.d (tok k p a' t n)) ⟨e, q9 H id (sc s a'), lo⟩) : NRes id s a H (.ok k p a' t n) X := by
  obtain ⟨sm, hlv⟩ := qfw (pan := false) (v := .d (tok k p a' t n)) (e := e) (lo := lo) (o := sc s a') rfl rfl (fun _ => rfl) (by
      rcases h3 with h | h
      · left; rw [h]; exact yB hH
      · right; exact h) hid
  exact ⟨sm, lo, h1, h2, h3, h.trans hlv⟩
theorem NRes.worse {id p : Nat} {s : List Nat} {a a' : Nat} {H : List Obj} {x : Int} {e : Env} {lo : Nat} {X : Option Cr} (hid : id < H.length) (hH : H[id]? = some (sc s a)) (h1 : id ≤ lo) (h2 : lo ≤ H.length) (h3 : a' = a ∨ lo ≤ id)
    (h : X = leave H true (.ifc 157 (.d (.agg [.i .i64 (p : Nat), .i .i64 x]))) ⟨e, q9 H id (sc s a'), lo⟩) : NRes id s a H (.bad p x) X := by
  obtain ⟨sm, hlv⟩ := qfw (pan := true) (v := .ifc 157 (.d (.agg [.i .i64 (p : Nat), .i .i64 x]))) (e := e) (lo := lo) (o := sc s a') rfl rfl (fun _ => rfl) (by
      rcases h3 with h | h
      · left; rw [h]; exact yB hH
      · right; exact h) hid
  exact ⟨sm, lo, a', h1, h2, h3, h.trans hlv⟩
theorem quq {s : List Nat} (hs : ∀ c ∈ s, c < 256) (hz : s.length ≤ 1000000000000) {id a : Nat} {H : List Obj} (ha : a ≤ s.length) (hH : H[id]? = some (sc s a)) : NRes id s a H (qht s a) (kl pg 83 [.ptr id 0] H) := by
  have hid : id < H.length := (List.getElem?_eq_some_iff.1 hH).1
  have hsk := quj hs hz ha hH
  rw [zA (fn := f_scan_scanner_next) rfl rfl]
  unfold qht
  have hjl := fun j => qyv (s.drop a).length 0 a a (s.drop a) j (qB2 _)
  generalize sk 0 a a (s.drop a) = r at hsk hjl
  obtain ⟨b, j⟩ := r
  cases b with
  | false =>
    obtain ⟨sm, lo, a', g1, g2, g3, hsk⟩ := hsk
    have hm1 : min H.length lo = lo := by omega
    refine NRes.worse hid hH g1 g2 g3 ?_ (e := ?_)
    rotate_left
    · simp only [f_scan_scanner_next, qn, qB9, qq, qp, qs, qj, qZ, qB4, qCe, qE, zQ, kh, kM, kr, qa, qc, qb, kN, reduceCtorEq, qC, qz, qN, qt, kJ, qw, qe, kc, qh, qB7, qV, hsk, qx, qd, qi, hm1, qaQ, yx, qae]
      rfl
  | true =>
    obtain ⟨sm, lo, g1, g2, g3, hsk⟩ := hsk
    have hjr := hjl j rfl
    simp only [List.length_drop] at hjr
    have hm1 : min H.length lo = lo := by omega
    have hm2 : min lo H.length = lo := by omega
    have hH1 : (q9 H id (sc s j))[id]? = some (sc s j) := zV hH
    simp only
    by_cases hj : j = s.length
    · have e1 : ((j : Int) = (s.length : Int)) = True := by rw [eq_iff_iff]; simp; omega
      rw [if_pos hj]
      refine NRes.good hid hH g1 g2 g3 ?_ (e := ?_)
      rotate_left
      · simp only [f_scan_scanner_next, qn, qB9, qq, qp, qs, qj, qZ, qB4, qCe, qE, zQ, kh, kM, kr, qa, qc, qb, kN, reduceCtorEq, qC, qz, qN, qt, kJ, qw, qe, kc, qh, qB7, qV, hsk, qx, qd, qi, hm1, ko, qy, qk, ql, kP, qD, qT, hH1, kG, qB6, qB1, qB3, kA, qX, qu, qbW, qaM, qbd, qB, zS, zr, zo, z1, zq, yz, Nat.add_zero, qJ, kZ, qf, ke, qCh, Nat.reduceEqDiff, jf, e1, decide_true, kE, kF, qA, qI, ↓reduceIte, z6, kW, yO, zc, jx, qCd, qCf, Nat.reduceAdd, Nat.reduceLT, qaT, qCi, jK, jO, jp, qac, jr, zk, zK, ki, jm, jl, z8, kI, qbY, ze, zH, zf, zn, zi, qQ, qg, kO, jn, qP, qm, qgo, qf1, qb6, qk8, qcD, kH, qCk, qcl, qcC, Nat.reduceLeDiff, qaZ, List.drop_zero, List.take_succ_cons, List.take_zero, qS, qW, qo, k9, yp, qr, qG, kn, tok]
        rfl
    · have e1 : ((j : Int) = (s.length : Int)) = False := by rw [eq_iff_iff]; simp; omega
      rw [if_neg hj]
      have hjlt : j < s.length := by omega
      have hL : s.drop j = s[j] :: s.drop (j + 1) := qik hjlt
      have hix : ixV (.d (.s s)) (.d (.i .i64 (j : Int))) = some (.d (.i .u8 ((s[j] : Nat) : Int))) := qqp (by omega) (by simp)
      generalize s[j] = c at hL hix
      have hlc := qk1 (c := c) (H := q9 H id (sc s j))
      have hdc := qiV (c := c) (H := q9 H id (sc s j))
      have hq := qfy (t := [34]) hH1 (by omega)
      rw [hL, qBz] at hq
      have fin : ∀ (r : Sy) (f : Nat), MRes id s j (q9 H id (sc s j)) r (kl pg f [.ptr id 0] (q9 H id (sc s j))) →
          (∀ sm2 lo2 k t n a', kl pg f [.ptr id 0] (q9 H id (sc s j)) = some ⟨false, sm2, .d (tok k 0 0 t n), q9 H id (sc s a'), lo2⟩ → r = .ok k t n a' → ∃ e, qj6 H true [.cell 2 ⟨5, true⟩] (exL pg f_scan_scanner_next.body ⟨jh 0 [.ptr id 0], H, H.length⟩) = leave H false (.d (tok k j a' t n)) ⟨e, q9 H id (sc s a'), min lo lo2⟩) →
          (∀ sm2 lo2 x a', kl pg f [.ptr id 0] (q9 H id (sc s j)) = some ⟨true, sm2, .ifc 157 (.d (.agg [.i .i64 (j : Nat), .i .i64 x])), q9 H id (sc s a'), lo2⟩ → r = .bad x → ∃ e, qj6 H true [.cell 2 ⟨5, true⟩] (exL pg f_scan_scanner_next.body ⟨jh 0 [.ptr id 0], H, H.length⟩) = leave H true (.ifc 157 (.d (.agg [.i .i64 (j : Nat), .i .i64 x]))) ⟨e, q9 H id (sc s a'), min lo lo2⟩) →
          NRes id s a H (quU j r) (qj6 H true [.cell 2 ⟨5, true⟩] (exL pg f_scan_scanner_next.body ⟨jh 0 [.ptr id 0], H, H.length⟩)) := by
        intro r f hm hgood hbad
        cases r with
        | ok k t n a' =>
          obtain ⟨sm2, lo2, q1, q2, q3, hc⟩ := hm
          rw [jy] at hc
          rw [kg] at q2
          obtain ⟨e, he⟩ := hgood sm2 lo2 k t n a' hc rfl
          exact NRes.good hid hH (by omega) (by omega) (by omega) he
        | bad x =>
          obtain ⟨sm2, lo2, a', q1, q2, q3, hc⟩ := hm
          rw [jy] at hc
          rw [kg] at q2
          obtain ⟨e, he⟩ := hbad sm2 lo2 x a' hc rfl
          exact NRes.worse hid hH (by omega) (by omega) (by omega) he
      have hsym : qpZ s j = if cLt c = true then qmd s j else if cDg c = true then qui s j else if c = 34 then qn7 s j else qof s j c := by
        unfold qpZ; rw [hL]
      rw [hsym]
      cases hlt : cLt c with
      | true =>
        rw [hlt] at hlc
        rw [if_pos rfl]
        refine fin _ 175 (qup hz (by omega) hH1) ?_ ?_
        · intro sm2 lo2 k t n a' hc _
          have hH2 : (q9 H id (sc s a'))[id]? = some (sc s a') := zV hH
          simp only [tok] at hc
          simp only [f_scan_scanner_next, qn, qB9, qq, qp, qs, qj, qZ, qB4, qCe, qE, zQ, kh, kM, kr, qa, qc, qb, kN, reduceCtorEq, qC, qz, qN, qt, kJ, qw, qe, kc, qh, qB7, qV, hsk, qx, qd, qi, hm1, ko, qy, qk, ql, kP, qD, qT, hH1, kG, qB6, qB1, qB3, kA, qX, qu, qbW, qaM, qbd, qB, zS, zr, zo, z1, zq, yz, Nat.add_zero, qJ, kZ, qf, ke, qCh, Nat.reduceEqDiff, jf, e1, decide_false, kE, kF, qA, qI, qBZ, ↓reduceIte, ky, hix, qH, hlc, kg, hm2, ji, kL, kf, hc, ki, jm, jl, z8, qCd, qCf, Nat.reduceAdd, kI, jx, yO, qbY, ze, zH, zf, zn, zi, qQ, qg, kO, jn, qP, qm, hH2, qgo, qf1, qb6, qk8, qcD, zc, Nat.reduceLT, kH, qCk, qCi, qcl, qcC, Nat.reduceLeDiff, qaZ, List.drop_zero, List.take_succ_cons, List.take_zero, jp, qac, jr, zk, zK, qS, qW, qo, k9, yp, qr, qG, kn, tok]
          exact ⟨_, rfl⟩
        · intro sm2 lo2 x a' hc _
          simp only [f_scan_scanner_next, qn, qB9, qq, qp, qs, qj, qZ, qB4, qCe, qE, zQ, kh, kM, kr, qa, qc, qb, kN, reduceCtorEq, qC, qz, qN, qt, kJ, qw, qe, kc, qh, qB7, qV, hsk, qx, qd, qi, hm1, ko, qy, qk, ql, kP, qD, qT, hH1, kG, qB6, qB1, qB3, kA, qX, qu, qbW, qaM, qbd, qB, zS, zr, zo, z1, zq, yz, Nat.add_zero, qJ, kZ, qf, ke, qCh, Nat.reduceEqDiff, jf, e1, decide_false, kE, kF, qA, qI, qBZ, ↓reduceIte, ky, hix, qH, hlc, kg, hm2, ji, kL, kf, hc, qaQ, qa0, yx, qae]
          exact ⟨_, rfl⟩
      | false =>
        rw [hlt] at hlc
        rw [if_neg (by simp)]
        cases hdt : cDg c with
        | true =>
          rw [hdt] at hdc
          rw [if_pos rfl]
          refine fin _ 177 (qqR hz hL hdt hH1) ?_ ?_
          · intro sm2 lo2 k t n a' hc _
            have hH2 : (q9 H id (sc s a'))[id]? = some (sc s a') := zV hH
            simp only [tok] at hc
            simp only [f_scan_scanner_next, qn, qB9, qq, qp, qs, qj, qZ, qB4, qCe, qE, zQ, kh, kM, kr, qa, qc, qb, kN, reduceCtorEq, qC, qz, qN, qt, kJ, qw, qe, kc, qh, qB7, qV, hsk, qx, qd, qi, hm1, ko, qy, qk, ql, kP, qD, qT, hH1, kG, qB6, qB1, qB3, kA, qX, qu, qbW, qaM, qbd, qB, zS, zr, zo, z1, zq, yz, Nat.add_zero, qJ, kZ, qf, ke, qCh, Nat.reduceEqDiff, jf, e1, decide_false, kE, kF, qA, qI, qBZ, ↓reduceIte, ky, hix, qH, hlc, kg, hm2, ji, kL, kf, hdc, hc, ki, jm, jl, z8, qCd, qCf, Nat.reduceAdd, kI, jx, yO, qbY, ze, zH, zf, zn, zi, qQ, qg, kO, jn, qP, qm, hH2, qgo, qf1, qb6, qk8, qcD, zc, Nat.reduceLT, kH, qCk, qCi, qcl, qcC, Nat.reduceLeDiff, qaZ, List.drop_zero, List.take_succ_cons, List.take_zero, jp, qac, jr, zk, zK, qS, qW, qo, k9, yp, qr, qG, kn, tok]
            exact ⟨_, rfl⟩
          · intro sm2 lo2 x a' hc _
            simp only [f_scan_scanner_next, qn, qB9, qq, qp, qs, qj, qZ, qB4, qCe, qE, zQ, kh, kM, kr, qa, qc, qb, kN, reduceCtorEq, qC, qz, qN, qt, kJ, qw, qe, kc, qh, qB7, qV, hsk, qx, qd, qi, hm1, ko, qy, qk, ql, kP, qD, qT, hH1, kG, qB6, qB1, qB3, kA, qX, qu, qbW, qaM, qbd, qB, zS, zr, zo, z1, zq, yz, Nat.add_zero, qJ, kZ, qf, ke, qCh, Nat.reduceEqDiff, jf, e1, decide_false, kE, kF, qA, qI, qBZ, ↓reduceIte, ky, hix, qH, hlc, kg, hm2, ji, kL, kf, hdc, hc, qaQ, qa0, yx, qae]
            exact ⟨_, rfl⟩
        | false =>
          rw [hdt] at hdc
          rw [if_neg (by simp)]
          by_cases h34 : c = 34
          · rw [if_pos h34]
            rw [decide_eq_true h34] at hq
            refine fin _ 179 (quH hz (by omega) hH1) ?_ ?_
            · intro sm2 lo2 k t n a' hc _
              have hH2 : (q9 H id (sc s a'))[id]? = some (sc s a') := zV hH
              simp only [tok] at hc
              simp only [f_scan_scanner_next, qn, qB9, qq, qp, qs, qj, qZ, qB4, qCe, qE, zQ, kh, kM, kr, qa, qc, qb, kN, reduceCtorEq, qC, qz, qN, qt, kJ, qw, qe, kc, qh, qB7, qV, hsk, qx, qd, qi, hm1, ko, qy, qk, ql, kP, qD, qT, hH1, kG, qB6, qB1, qB3, kA, qX, qu, qbW, qaM, qbd, qB, zS, zr, zo, z1, zq, yz, Nat.add_zero, qJ, kZ, qf, ke, qCh, Nat.reduceEqDiff, jf, e1, decide_false, kE, kF, qA, qI, qBZ, ↓reduceIte, ky, hix, qH, hlc, kg, hm2, ji, kL, kf, hdc, kW, hq, qF, hc, ki, jm, jl, z8, qCd, qCf, Nat.reduceAdd, kI, jx, yO, qbY, ze, zH, zf, zn, zi, qQ, qg, kO, jn, qP, qm, hH2, qgo, qf1, qb6, qk8, qcD, zc, Nat.reduceLT, kH, qCk, qCi, qcl, qcC, Nat.reduceLeDiff, qaZ, List.drop_zero, List.take_succ_cons, List.take_zero, jp, qac, jr, zk, zK, qS, qW, qo, k9, yp, qr, qG, kn, tok]
              exact ⟨_, rfl⟩
            · intro sm2 lo2 x a' hc _
              simp only [f_scan_scanner_next, qn, qB9, qq, qp, qs, qj, qZ, qB4, qCe, qE, zQ, kh, kM, kr, qa, qc, qb, kN, reduceCtorEq, qC, qz, qN, qt, kJ, qw, qe, kc, qh, qB7, qV, hsk, qx, qd, qi, hm1, ko, qy, qk, ql, kP, qD, qT, hH1, kG, qB6, qB1, qB3, kA, qX, qu, qbW, qaM, qbd, qB, zS, zr, zo, z1, zq, yz, Nat.add_zero, qJ, kZ, qf, ke, qCh, Nat.reduceEqDiff, jf, e1, decide_false, kE, kF, qA, qI, qBZ, ↓reduceIte, ky, hix, qH, hlc, kg, hm2, ji, kL, kf, hdc, kW, hq, qF, hc, qaQ, qa0, yx, qae]
              exact ⟨_, rfl⟩
          · rw [if_neg h34]
            rw [decide_eq_false h34] at hq
            refine fin _ 180 (quD hs hz hL hH1) ?_ ?_
            · intro sm2 lo2 k t n a' hc _
              have hH2 : (q9 H id (sc s a'))[id]? = some (sc s a') := zV hH
              simp only [tok] at hc
              simp only [f_scan_scanner_next, qn, qB9, qq, qp, qs, qj, qZ, qB4, qCe, qE, zQ, kh, kM, kr, qa, qc, qb, kN, reduceCtorEq, qC, qz, qN, qt, kJ, qw, qe, kc, qh, qB7, qV, hsk, qx, qd, qi, hm1, ko, qy, qk, ql, kP, qD, qT, hH1, kG, qB6, qB1, qB3, kA, qX, qu, qbW, qaM, qbd, qB, zS, zr, zo, z1, zq, yz, Nat.add_zero, qJ, kZ, qf, ke, qCh, Nat.reduceEqDiff, jf, e1, decide_false, kE, kF, qA, qI, qBZ, ↓reduceIte, ky, hix, qH, hlc, kg, hm2, ji, kL, kf, hdc, kW, hq, qF, hc, ki, jm, jl, z8, qCd, qCf, Nat.reduceAdd, kI, jx, yO, qbY, ze, zH, zf, zn, zi, qQ, qg, kO, jn, qP, qm, hH2, qgo, qf1, qb6, qk8, qcD, zc, Nat.reduceLT, kH, qCk, qCi, qcl, qcC, Nat.reduceLeDiff, qaZ, List.drop_zero, List.take_succ_cons, List.take_zero, jp, qac, jr, zk, zK, qS, qW, qo, k9, yp, qr, qG, kn, tok]
              exact ⟨_, rfl⟩
            · intro sm2 lo2 x a' hc _
              simp only [f_scan_scanner_next, qn, qB9, qq, qp, qs, qj, qZ, qB4, qCe, qE, zQ, kh, kM, kr, qa, qc, qb, kN, reduceCtorEq, qC, qz, qN, qt, kJ, qw, qe, kc, qh, qB7, qV, hsk, qx, qd, qi, hm1, ko, qy, qk, ql, kP, qD, qT, hH1, kG, qB6, qB1, qB3, kA, qX, qu, qbW, qaM, qbd, qB, zS, zr, zo, z1, zq, yz, Nat.add_zero, qJ, kZ, qf, ke, qCh, Nat.reduceEqDiff, jf, e1, decide_false, kE, kF, qA, qI, qBZ, ↓reduceIte, ky, hix, qH, hlc, kg, hm2, ji, kL, kf, hdc, kW, hq, qF, hc, qaQ, qa0, yx, qae]
              exact ⟨_, rfl⟩
end W

set_option linter.unusedSimpArgs false
set_option linter.unusedVariables false
namespace W
open Go (IntKind BinOp UnOp)
set_option maxRecDepth 20000
structure Tk where
  k : Int
  p : Nat
  e : Nat
  t : List Nat
  n : Int
  deriving DecidableEq
def eTk (x : Tk) : D := .agg [.i .i64 x.k, .i .i64 x.p, .i .i64 x.e, .s x.t, .i .i32 x.n]
def qeD (s : List Nat) : Nat → Nat → List Tk → Sum (Nat × Int) (List Tk)
  | 0, _, _ => .inl (0, 0)
  | f + 1, a, acc => match qht s a with
    | .bad p e => .inl (p, e)
    | .ok k p e t n => if k = 0 then .inr (acc ++ [⟨k, p, e, t, n⟩]) else qeD s f e (acc ++ [⟨k, p, e, t, n⟩])
noncomputable def qxO (pg : Pg) (fn : Fn) (H : List Obj) (t : Nat) (rest : C) (r : Option (Ex × St)) : Option Cr :=
  match r with
  | some (.nrm, st) => deferred pg (exL pg) fn H t rest st
  | some (.ret, st) => yH fn H st
  | some (.pan v, st) => leave H true v st
  | _ => none
theorem qu2 {pg : Pg} {f : Nat} {fn : Fn} {vs : List V} {H : List Obj} {t : Nat} {rest : C} (hf : pg.fn f = some fn) (hn : fn.np = vs.length) (hd : fn.dfr = some (t, rest)) (hr : fn.rcv = none) :
    kl pg f vs H = qxO pg fn H t rest (exL pg fn.body { env := jh 0 vs, H, lo := H.length }) := by
  rw [qec]
  simp only [kQ, hf, hn, hd, hr, and_self, if_true, qxO]
  all_goals rfl
theorem qvS {pg : Pg} {fn : Fn} {H : List Obj} {t : Nat} {rest : C} {st : St} : qxO pg fn H t rest (some (.nrm, st)) = deferred pg (exL pg) fn H t rest st := rfl
theorem qhX {fn : Fn} {H : List Obj} {st : St} : yH fn H st = qj6 H fn.own fn.res (some (.ret, st)) := rfl
theorem qwA {pg : Pg} {fn : Fn} {H : List Obj} {t : Nat} {rest : C} {st : St} : qxO pg fn H t rest (some (.ret, st)) = yH fn H st := rfl
theorem qx8 {i0 i1 : Nat} {H : List Obj} {lo : Nat} : ∃ e, exL pg f_scan_All_1.body ⟨(5, .d .ni) :: jh 0 [.ptr i0 0, .ptr i1 0], H, lo⟩ = some (.nrm, ⟨e, H, lo⟩) := by
  simp only [f_scan_All_1, qn, qB9, Nat.reduceAdd, qq, qp, qs, qj, qb, kN, qz, qu, qt, qE, qX, qa, qc, qf, ke, kD, qCb, kW, qjn, qk, qA, qI, qBZ, ↓reduceIte, qO]
  exact ⟨_, rfl⟩
theorem qw5 {i0 i1 : Nat} {H : List Obj} {lo : Nat} {p e : Int} {v : V} (h0 : H[i0]? = some (.cells [v])) (h1 : H[i1]? = some (.cells [.d .nil])) (hne : (i1 = i0) = False) : ∃ en lo', min lo (min i0 i1) ≤ lo' ∧
    exL pg f_scan_All_1.body ⟨(5, .ifc 157 (.d (.agg [.i .i64 p, .i .i64 e]))) :: jh 0 [.ptr i0 0, .ptr i1 0], H, lo⟩ = some (.nrm, ⟨en, q9 (q9 H i0 (.cells [.d .nil])) i1 (.cells [.osl [.agg [.i .i64 p, .i .i64 e]]]), lo'⟩) := by
  have h2 : (q9 H i0 (.cells [.d .nil]))[i1]? = some (.cells [.d .nil]) := by rw [qaR hne]; exact h1
  simp only [f_scan_All_1, qn, qB9, Nat.reduceAdd, qq, qp, qs, qj, qb, kN, qz, qaL, qt, qE, qcN, qa, qc, qf, ke, kD, qCb, kW, qgS, qk, qX, qA, qu, qI, ↓reduceIte, Nat.reduceEqDiff, qC, qfb, qho, ko, qU, zh, qbR, qbP, qbQ, qZ, qB4, qCe, zQ, kh, qbW, qaM, qkM, kM, kr, ki, jm, jl, z8, qCd, qCf, kI, jx, yO, ze, qB7, zH, Nat.reduceLT, qjp, qCi, qCk, zn, zi, jD, qaJ, qCl, qB3, qBZ, qO, zS, zr, ql, qgo, Nat.add_zero, zo, qf1, qb6, qk8, zq, qD, qcD, qcC, Nat.reduceLeDiff, qaZ, List.drop_zero, List.take_succ_cons, List.take_zero, kA, jp, qac, jr, zk, zK, yz, zg, qdT, List.reduceReplicate, j9, y4, qaS, qkv, qcT, qdP, qbZ, qaU, qm0, reduceCtorEq, qN, qF, jg, h0, qjH, zc, kB, kH, kz, kE, qcl, ji, qgy, kf, h2, qin, qj0, kF]
  refine ⟨_, _, ?_, rfl⟩
  omega
theorem qlR {x y a : Nat} {s : List Nat} (h : pre [x, y] (s.drop a) = true) : a + 2 ≤ s.length := by
  simp only [pre, decide_eq_true_eq] at h
  have := congrArg List.length h
  simp only [List.length_take, List.length_drop, qCd, qCf] at this
  omega
theorem qvG {s : List Nat} {j : Nat} {k : Int} {t : List Nat} {n : Int} {a' : Nat} (h : qpZ s j = .ok k t n a') : j < a' ∧ a' ≤ s.length ∧ k ≠ 0 := by
  unfold qpZ at h
  split at h
  · cases h
  · rename_i c l hL
    obtain ⟨hget, hdr, hlt⟩ := ql1 hL
    split at h
    · rename_i hc
      have hle := qgU cNm (s.drop j)
      have hk : 0 < run cNm (s.drop j) := by rw [hL]; simp [run, cNm, hc]
      simp only [List.length_drop] at hle
      unfold qmd at h
      split at h
      · cases h
      · split at h
        · cases h; exact ⟨by omega, by omega, by decide⟩
        · cases h; exact ⟨by omega, by omega, by decide⟩
    · split at h
      · rename_i hc
        have hle := qgU cHx (s.drop j)
        have hk : 0 < run cHx (s.drop j) := by rw [hL]; simp [run, cHx, hc]
        simp only [List.length_drop] at hle
        unfold qui at h
        split at h
        · rename_i hp
          have := qis hp
          unfold qlD at h
          split at h
          · cases h
          · cases h; exact ⟨by omega, by omega, by decide⟩
        · split at h
          · rename_i hp
            have := qis hp
            unfold qlD at h
            split at h
            · cases h
            · cases h; exact ⟨by omega, by omega, by decide⟩
          · unfold qlD at h
            split at h
            · cases h
            · cases h; exact ⟨by omega, by omega, by decide⟩
      · split at h
        · unfold qn7 at h
          split at h
          · rename_i hp
            have := qis hp
            split at h
            · cases h
            · cases h; exact ⟨by omega, by omega, by decide⟩
          · cases h
        · unfold qof at h
          split at h
          · rename_i hp
            have := qlR hp
            cases h; exact ⟨by omega, by omega, by decide⟩
          · split at h
            · rename_i hp
              have := qlR hp
              cases h; exact ⟨by omega, by omega, by decide⟩
            · split at h
              · rename_i hp
                have := qlR hp
                cases h; exact ⟨by omega, by omega, by decide⟩
              · split at h
                · rename_i hp
                  have := qlR hp
                  cases h; exact ⟨by omega, by omega, by decide⟩
                · split at h
                  · cases h
                  · cases h; exact ⟨by omega, by omega, by decide⟩
theorem quJ {s : List Nat} {a : Nat} (ha : a ≤ s.length) {k : Int} {p e : Nat} {t : List Nat} {n : Int} (h : qht s a = .ok k p e t n) : a ≤ p ∧ p ≤ e ∧ e ≤ s.length ∧ (k ≠ 0 → a < e) := by
  unfold qht at h
  split at h
  · cases h
  · rename_i j hj
    have hjl := qyv (s.drop a).length 0 a a (s.drop a) j (qB2 _) hj
    simp only [List.length_drop] at hjl
    split at h
    · cases h
      exact ⟨by omega, by omega, by omega, fun h => absurd rfl h⟩
    · generalize hr : qpZ s j = r at h
      cases r with
      | ok k' t' n' a' =>
        have := qvG hr
        simp only [quU] at h
        cases h
        exact ⟨by omega, by omega, by omega, fun _ => by omega⟩
      | bad e => simp only [quU] at h; cases h
def ARes (b : Nat) (r : Sum (Nat × Int) (List Tk)) (X : Option (Ex × St)) : Prop :=
  match r with
  | .inr L' => ∃ e H' lo', b ≤ lo' ∧ get 2 e = .ptr b 0 ∧ get 3 e = .ptr (b + 1) 0 ∧ H'[b]? = some (.cells [.d (slD eTk L')]) ∧ H'[b + 1]? = some (.cells [.d .nil]) ∧ X = some (.ret, ⟨e, H', lo'⟩)
  | .inl (p, x) => ∃ e H' lo' v, b ≤ lo' ∧ get 2 e = .ptr b 0 ∧ get 3 e = .ptr (b + 1) 0 ∧ H'[b]? = some (.cells [v]) ∧ H'[b + 1]? = some (.cells [.d .nil]) ∧ X = some (.pan (.ifc 157 (.d (.agg [.i .i64 (p : Nat), .i .i64 x]))), ⟨e, H', lo'⟩)
theorem ARes.good {b : Nat} {L' : List Tk} {e : Env} {H' : List Obj} {lo' : Nat} {X : Option (Ex × St)} (h5 : X = some (.ret, ⟨e, H', lo'⟩)) (h1 : b ≤ lo') (h2 : get 2 e = .ptr b 0) (h3 : get 3 e = .ptr (b + 1) 0) (h4 : H'[b]? = some (.cells [.d (slD eTk L')])) (h6 : H'[b + 1]? = some (.cells [.d .nil])) : ARes b (.inr L') X :=
  ⟨e, H', lo', h1, h2, h3, h4, h6, h5⟩
theorem ARes.bad {b p : Nat} {x : Int} {e : Env} {H' : List Obj} {lo' : Nat} {v : V} {X : Option (Ex × St)} (h5 : X = some (.pan (.ifc 157 (.d (.agg [.i .i64 (p : Nat), .i .i64 x]))), ⟨e, H', lo'⟩)) (h1 : b ≤ lo') (h2 : get 2 e = .ptr b 0) (h3 : get 3 e = .ptr (b + 1) 0) (h4 : H'[b]? = some (.cells [v])) (h6 : H'[b + 1]? = some (.cells [.d .nil])) : ARes b (.inl (p, x)) X :=
  ⟨e, H', lo', v, h1, h2, h3, h4, h6, h5⟩
theorem qwj {s : List Nat} (hs : ∀ c ∈ s, c < 256) (hz : s.length ≤ 1000000000000) {b : Nat} :
    ∀ (f a : Nat) (L : List Tk) (H : List Obj) (lo : Nat), s.length - a < f → a ≤ s.length → L.length ≤ a → b ≤ lo → lo ≤ H.length → H[b]? = some (.cells [slV eTk L]) → H[b + 1]? = some (.cells [.d .nil]) → H[b + 2]? = some (sc s a) →
      ARes b (qeD s f a L) (qaB 0 [2, 3] (qdY pg (.ptr b 0) (.ptr (b + 1) 0) (.ptr (b + 2) 0) H lo)) := by
  intro f
  induction f with
  | zero => intro a L H lo h; omega
  | succ f ih =>
    intro a L H lo hf ha hLa hlo hloH h0 h1 h2
    have hn := quq hs hz ha h2
    rw [qkA, qeD]
    have d1 : (b = b + 2) = False := by simp
    have d2 : (b + 1 = b + 2) = False := by simp
    generalize hr : qht s a = r at hn
    cases r with
    | bad p x =>
      obtain ⟨sm, lo1, a', g1, g2, g3, hc⟩ := hn
      have e0 : (q9 H (b + 2) (sc s a'))[b]? = some (.cells [slV eTk L]) := by rw [qaR d1]; exact h0
      have e1 : (q9 H (b + 2) (sc s a'))[b + 1]? = some (.cells [.d .nil]) := by rw [qaR d2]; exact h1
      refine ARes.bad (e := ?e) (lo' := min lo lo1) ?h5 (by omega) ?g2 ?g3 e0 e1
      case h5 =>
        simp only [qbJ, kO, qB, qp, qs, qj, qb, kN, Nat.reduceEqDiff, qC, qz, qN, qt, qE, kJ, qw, qB4, qCe, qe, kc, qh, qB7, qV, hc, qx, qd, qi, qaQ, yx, qa0]
        rfl
      case g2 => rfl
      case g3 => rfl
    | ok k p e t n =>
      obtain ⟨sm, lo1, g1, g2, g3, hc⟩ := hn
      have hpr := quJ ha hr
      have e0 : (q9 H (b + 2) (sc s e))[b]? = some (.cells [slV eTk L]) := by rw [qaR d1]; exact h0
      have e1 : (q9 H (b + 2) (sc s e))[b + 1]? = some (.cells [.d .nil]) := by rw [qaR d2]; exact h1
      have e2 : (q9 H (b + 2) (sc s e))[b + 2]? = some (sc s e) := zV h2
      have d3 : (b + 1 = b) = False := by simp
      have d4 : (b + 2 = b) = False := by simp
      have e3 : (q9 (q9 H (b + 2) (sc s e)) b (.cells [.undef]))[b]? = some (.cells [.undef]) := zV e0
      have happ : yZ 5 48 (slV eTk L) (.d (.sl [.agg [.i .i64 k, .i .i64 p, .i .i64 e, .s t, .i .i32 n]])) = some (slV eTk (L ++ [⟨k, p, e, t, n⟩])) :=
        qvB (x := (⟨k, p, e, t, n⟩ : Tk)) (fun _ => rfl) (qwU (by omega) (by omega))
      simp only [tok] at hc
      have e4 : ∀ o, (q9 (q9 H (b + 2) (sc s e)) b o)[b]? = some o := fun o => zV e0
      have e5 : ∀ o, (q9 (q9 H (b + 2) (sc s e)) b o)[b + 1]? = some (.cells [.d .nil]) := fun o => by rw [qaR d3]; exact e1
      have e6 : ∀ o, (q9 (q9 H (b + 2) (sc s e)) b o)[b + 2]? = some (sc s e) := fun o => by rw [qaR d4]; exact e2
      by_cases hk : k = 0
      · subst hk
        have d5 : (b = b + 1) = False := by simp
        simp only [if_true]
        have key : ∃ e', qaB 0 [2, 3] (y6 pg (exL pg qbJ ⟨[(2, qM (.ptr b 0)), (3, qM (.ptr (b + 1) 0)), (4, qM (.ptr (b + 2) 0))], H, lo⟩) qbH) = some (.ret, ⟨e', q9 (q9 (q9 H (b + 2) (sc s e)) b (.cells [.d (slD eTk (L ++ [⟨0, p, e, t, n⟩]))])) (b + 1) (.cells [.d .nil]), min (min (min (min (min lo lo1) b) b) b) (b + 1)⟩) ∧ get 2 e' = .ptr b 0 ∧ get 3 e' = .ptr (b + 1) 0 := by
          simp only [qbJ, kO, qB, qp, qs, qj, qb, kN, Nat.reduceEqDiff, qC, qz, qN, qt, qE, kJ, qw, qB4, qCe, qe, kc, qh, qB7, qV, hc, qx, qd, qi, qX, qZ, zQ, kh, qbW, kM, kr, ki, ji, kL, jm, kf, jl, z8, qCd, qCf, qB9, Nat.reduceAdd, kI, jx, yO, qbY, ze, zH, zf, zn, zi, qa, qc, qeQ, e0, qB1, qCi, qf2, qD, qcC, Nat.reduceLeDiff, qaZ, List.drop_zero, List.take_succ_cons, List.take_zero, kA, jp, qac, jr, zk, zK, qk, zg, qdT, List.reduceReplicate, qu, Nat.reduceLT, j9, y4, qaS, qkv, qcT, qdP, qbZ, qaU, qcp, qeT, qgt, yy, happ, qih, jg, e3, qit, qjq, kB, kH, kz, jy, ql, qgo, Nat.add_zero, qpU, qcD, qo6, qB3, qf, ke, kD, qCb, kW, jf, decide_true, qA, qI, ↓reduceIte, qT, e4, kG, qkD, qpJ, zc, qF, e5, qjH, qS, zj, kS]
          exact ⟨_, rfl, rfl, rfl⟩
        obtain ⟨e', k1, k2, k3⟩ := key
        exact ARes.good k1 (by omega) k2 k3 (by rw [qaR d5]; exact e4 _) (zV (e5 _))
      · have q1 : (k = 0) = False := eq_false hk
        simp only [hk, if_false]
        have ih' := ih e (L ++ [⟨k, p, e, t, n⟩]) (q9 (q9 H (b + 2) (sc s e)) b (.cells [slV eTk (L ++ [⟨k, p, e, t, n⟩])])) (min (min (min lo lo1) b) b) (by omega) (by omega) (by simp only [List.length_append, qCd, qCf]; omega) (by omega) (by simp only [kg]; omega) (e4 _) (e5 _) (e6 _)
        simp only [qbJ, kO, qB, qp, qs, qj, qb, kN, Nat.reduceEqDiff, qC, qz, qN, qt, qE, kJ, qw, qB4, qCe, qe, kc, qh, qB7, qV, hc, qx, qd, qi, qX, qZ, zQ, kh, qbW, kM, kr, ki, ji, kL, jm, kf, jl, z8, qCd, qCf, qB9, Nat.reduceAdd, kI, jx, yO, qbY, ze, zH, zf, zn, zi, qa, qc, qeQ, e0, qB1, qCi, qf2, qD, qcC, Nat.reduceLeDiff, qaZ, List.drop_zero, List.take_succ_cons, List.take_zero, kA, jp, qac, jr, zk, zK, qk, zg, qdT, List.reduceReplicate, qu, Nat.reduceLT, j9, y4, qaS, qkv, qcT, qdP, qbZ, qaU, qcp, qeT, qgt, yy, happ, qih, jg, e3, qit, qjq, kB, kH, kz, jy, ql, qgo, Nat.add_zero, qpU, qcD, qo6, qB3, qf, ke, kD, qCb, kW, jf, q1, decide_false, qA, qI, qBZ, ↓reduceIte, qO, qQ, qg, qm, qgp]
        exact ih'
theorem qpE {pg : Pg} {fn : Fn} {H : List Obj} {t hd : Nat} {first cap : List V} {rest : C} {st st' : St} (h : get t st.env = .fn hd first cap) (hk : V.ok.oks (first ++ cap) = true) (hx : exL pg rest st = some (.ret, st')) : deferred pg (exL pg) fn H t rest st = handle pg (exL pg) fn H hd (first ++ cap) (.d .ni) st' := by
  simp only [deferred, h, hk, hx, cond_true]
theorem qpl {pg : Pg} {fn : Fn} {H : List Obj} {t hd : Nat} {first cap : List V} {rest : C} {st st' : St} {v : V} (h : get t st.env = .fn hd first cap) (hk : V.ok.oks (first ++ cap) = true) (hx : exL pg rest st = some (.pan v, st')) (hv : qv8 v = true) : deferred pg (exL pg) fn H t rest st = handle pg (exL pg) fn H hd (first ++ cap) v st' := by
  simp only [deferred, h, hk, hx, hv, cond_true]
theorem qmE {pg : Pg} {fn hf : Fn} {H : List Obj} {hd d : Nat} {vs : List V} {v : V} {st st' : St} (h1 : pg.fn hd = some hf) (h2 : hf.rcv = some d) (h3 : (qCa hf.np vs.length && hf.res.isEmpty) = true) (hx : exL pg hf.body ⟨(d, v) :: jh 0 vs, st.H, st.lo⟩ = some (.nrm, st')) :
    handle pg (exL pg) fn H hd vs v st = yH fn H ⟨st.env, st'.H, st'.lo⟩ := by
  simp only [handle, h1, h2, h3, hx, cond_true]
theorem qAv {s : List Nat} (hs : ∀ c ∈ s, c < 256) (hz : s.length ≤ 1000000000000) {H : List Obj} {e : Env} (g0 : get 0 e = .d (.s s)) (g2 : get 2 e = .ptr H.length 0) (g3 : get 3 e = .ptr (H.length + 1) 0) :
    ARes H.length (qeD s (s.length + 1) 0 []) (exL pg qgT ⟨e, H ++ [.cells [.d .nil]] ++ [.cells [.d .nil]], H.length⟩) := by
  have hl := qwj hs hz (b := H.length) (s.length + 1) 0 [] (H ++ [.cells [.d .nil]] ++ [.cells [.d .nil]] ++ [sc s 0]) H.length (by omega) (by omega) (by simp) (qB2 _) (by simp) (by simp [slV]) (by simp) (by simp)
  have hz0 : ((0 : Nat) : Int) = 0 := rfl
  have hs0 : slV eTk [] = .d .nil := rfl
  simp only [qgT, qp, qO, qc, qs, qj, qb, kN, g0, qu, qt, qE, qX, z6, qB4, qCe, qz, qbY, zc, jx, qCd, qCf, qB9, Nat.reduceAdd, Nat.reduceLT, qaT, qCi, jK, jO, jp, qac, jr, zk, zK, qk, qkq, z8, kI, yO, ze, qB7, qsv, List.length_append, kJ, qN, qa, qB, qgp, Nat.reduceEqDiff, qC, g2, kO, g3]
  exact hl
theorem qwH {s : List Nat} (hs : ∀ c ∈ s, c < 256) (hz : s.length ≤ 1000000000000) {H : List Obj} :
    ∃ lo, H.length ≤ lo ∧ kl pg 33 [.d (.s s)] H = some ⟨false, true, (if 20000 < s.length then .tup [.d .nil, .d (.sl [.agg [.i .i64 20000, .i .i64 34]])] else match qeD s (s.length + 1) 0 [] with
      | .inr L => .tup [.d (slD eTk L), .d .nil]
      | .inl (p, x) => .tup [.d .nil, .d (.sl [.agg [.i .i64 (p : Nat), .i .i64 x]])]), H, lo⟩ := by
  rw [qu2 (fn := f_scan_All) rfl rfl rfl rfl]
  have a0 : (H ++ [Obj.cells [.d .nil]])[H.length]? = some (.cells [.d .nil]) := by simp
  have a1 : ((H ++ [Obj.cells [.d .nil]]) ++ [Obj.cells [.d .nil]])[H.length]? = some (.cells [.d .nil]) := by simp
  have a2 : ((H ++ [Obj.cells [.d .nil]]) ++ [Obj.cells [.d .nil]])[H.length + 1]? = some (.cells [.d .nil]) := by simp
  have d3 : (H.length + 1 = H.length) = False := by simp
  have d5 : (H.length = H.length + 1) = False := by simp
  have b1 : ∀ o, (q9 ((H ++ [Obj.cells [.d .nil]]) ++ [Obj.cells [.d .nil]]) H.length o)[H.length + 1]? = some (.cells [.d .nil]) := fun o => by rw [qaR d3]; exact a2
  have b2 : ∀ o o', (q9 (q9 ((H ++ [Obj.cells [.d .nil]]) ++ [Obj.cells [.d .nil]]) H.length o) (H.length + 1) o')[H.length]? = some o := fun o o' => by rw [qaR d5]; exact zV a1
  have b3 : ∀ o o', (q9 (q9 ((H ++ [Obj.cells [.d .nil]]) ++ [Obj.cells [.d .nil]]) H.length o) (H.length + 1) o')[H.length + 1]? = some o' := fun o o' => zV (b1 o)
  by_cases h1 : 20000 < s.length
  · have e1 : ((20000 : Int) < (s.length : Int)) = True := by rw [eq_iff_iff]; simp; omega
    rw [if_pos h1]
    simp only [f_scan_All, qn, qB9, qq, qp, qs, qj, qf5, qB4, qCe, qE, kJ, List.length_append, qCd, qCf, qa, qc, qb, kN, reduceCtorEq, qC, qz, qu, qt, qX, qJ, kZ, qk, qf, ke, kD, qCb, kW, zt, e1, decide_true, qA, qI, ↓reduceIte, z6, yO, zc, jx, Nat.reduceAdd, Nat.reduceLT, qaT, qCi, qCk, jK, jO, jp, qac, jr, zk, zK, zg, qdT, List.reduceReplicate, j9, y4, qaS, qkv, qcT, qdP, qB7, qbZ, qaU, qcp, ki, Nat.reduceEqDiff, qN, qF, jg, a1, qjH, kI, ze, kB, kH, kz, Nat.min_self, zi, ji, qgy, kf, b1, qin, qj0, qS, kS, qwA, qhX, qW, qo, k9, qhW, qT, b2, kG, qB1, qB3, kA, b3, qiq, qr, qG, qdj]
    refine ⟨_, ?_, jI rfl (Nat.zero_le _) (by simp only; omega)⟩
    simp only; omega
  · have e1 : ((20000 : Int) < (s.length : Int)) = False := by rw [eq_iff_iff]; simp; omega
    rw [if_neg h1]
    have hb : ∃ e, get 0 e = .d (.s s) ∧ get 2 e = .ptr H.length 0 ∧ get 3 e = .ptr (H.length + 1) 0 ∧ get 11 e = .fn 82 [] [.ptr H.length 0, .ptr (H.length + 1) 0] ∧ exL pg f_scan_All.body ⟨jh 0 [.d (.s s)], H, H.length⟩ = some (.nrm, ⟨e, H ++ [.cells [.d .nil]] ++ [.cells [.d .nil]], H.length⟩) := by
      simp only [f_scan_All, qn, qB9, qq, qp, qs, qj, qf5, qB4, qCe, qE, kJ, List.length_append, qCd, qCf, qa, qc, qb, kN, reduceCtorEq, qC, qz, qu, qt, qX, qJ, kZ, qk, qf, ke, kD, qCb, kW, zt, e1, decide_false, qA, qI, qBZ, ↓reduceIte, qO, qjm, Nat.reduceEqDiff, qN, qao, qfA, qsy, qB7, qnw, qs2]
      exact ⟨_, rfl, rfl, rfl, rfl, rfl⟩
    obtain ⟨e, g0, g2, g3, g11, hb⟩ := hb
    rw [hb, qvS]
    have hD := qAv hs hz g0 g2 g3
    generalize qeD s (s.length + 1) 0 [] = r at hD
    cases r with
    | inr L =>
      obtain ⟨e', H', lo', k1, k2, k3, k4, k5, k6⟩ := hD
      rw [qpE g11 rfl k6]
      obtain ⟨e2, hh⟩ := qx8 (i0 := H.length) (i1 := H.length + 1) (H := H') (lo := lo')
      rw [qmE (hf := f_scan_All_1) (d := 5) rfl rfl rfl hh, qhX]
      have hr : f_scan_All.res = [.cell 2 ⟨1, false⟩, .cell 3 ⟨1, false⟩] := rfl
      have ho : f_scan_All.own = false := rfl
      simp only [ho, hr, qW, qo, k9, k2, qhW, qT, k4, kG, qB1, qB3, kA, k3, k5, qr, qG, qdj]
      exact ⟨_, k1, jI rfl (Nat.zero_le _) k1⟩
    | inl q =>
      obtain ⟨p, x⟩ := q
      obtain ⟨e', H', lo', v, k1, k2, k3, k4, k5, k6⟩ := hD
      rw [qpl g11 rfl k6 rfl]
      obtain ⟨e2, lo2, hlo, hh⟩ := qw5 (p := (p : Int)) (e := x) (lo := lo') k4 k5 d3
      rw [qmE (hf := f_scan_All_1) (d := 5) rfl rfl rfl hh, qhX]
      have hr : f_scan_All.res = [.cell 2 ⟨1, false⟩, .cell 3 ⟨1, false⟩] := rfl
      have ho : f_scan_All.own = false := rfl
      have q1 : (q9 H' H.length (.cells [.d .nil]))[H.length + 1]? = some (.cells [.d .nil]) := by rw [qaR d3]; exact k5
      have q2 : ∀ o', (q9 (q9 H' H.length (.cells [.d .nil])) (H.length + 1) o')[H.length]? = some (.cells [.d .nil]) := fun o' => by rw [qaR d5]; exact zV k4
      have q3 : ∀ o', (q9 (q9 H' H.length (.cells [.d .nil])) (H.length + 1) o')[H.length + 1]? = some o' := fun o' => zV q1
      simp only [ho, hr, qW, qo, k9, k2, qhW, qT, q2, kG, qB1, qB3, kA, k3, q3, qiq, qr, qG, qdj]
      refine ⟨_, ?_, jI rfl (Nat.zero_le _) (by simp only; omega)⟩
      simp only; omega
end W

set_option linter.unusedSimpArgs false
set_option linter.unusedVariables false
namespace W
open Go (IntKind BinOp UnOp)
set_option maxRecDepth 20000
theorem qp7 {H : List Obj} : kl pg 86 [] H = some ⟨false, true, slV D.s KW, H, H.length⟩ := by
  rw [zA (fn := qaG) rfl rfl]
  simp only [qaG, qq, qp, qs, qj, qb, kW, qF, qE, qX, qa, qc, zg, qcI, qCd, qCf, qB9, List.reduceReplicate, qB4, qCe, Nat.reduceAdd, Nat.reduceLT, j9, qCi, qCk, y4, qaS, qbY, qgj, qbZ, qB7, qaU, qk, qcp, ji, qz, qgy, kf, qS, qW, qo, kx, qkB, qr, qG, kn, qi5, qoS, qi3, kT]
  all_goals rfl
theorem quN {L : List (List Nat)} {t : List Nat} (hz : L.length ≤ 1000000000000) {H : List Obj} :
    ∀ (k i : Nat), L.length - i = k → i ≤ L.length → ∃ x e, (x = .nrm ∨ x = .ret) ∧ get 2 e = .d (.b (decide (t ∈ L.drop i))) ∧
      y6 pg (qaB 0 [] (yS pg (.d (.s t)) (slV D.s L) (.d (.i .i64 (i : Nat))) H H.length)) y9 = some (x, ⟨e, H, H.length⟩) := by
  intro k
  induction k with
  | zero =>
    intro i hk hi
    obtain rfl : i = L.length := by omega
    have h1 : ((L.length : Int) < (L.length : Int)) = False := by simp
    rw [qb9]
    simp only [jN, qP, yd, qp, qs, qj, qb, kN, reduceCtorEq, qC, Nat.reduceEqDiff, qz, qu, qt, qE, qX, yY, zx, qcG, qk, qf, ke, qCh, ku, h1, decide_false, qa, qc, qA, qI, qBZ, ↓reduceIte, qa7, yr, jQ, qm, y9, kW, qF, qS]
    exact ⟨_, _, .inr rfl, by rw [List.drop_length]; simp [get], rfl⟩
  | succ k ih =>
    intro i hk hi
    have h1 : ((i : Int) < (L.length : Int)) = True := by rw [eq_iff_iff]; simp; omega
    have hlt : i < L.length := by omega
    have hdr : L.drop i = L[i] :: L.drop (i + 1) := by simp
    have hia : iaV (.d (slD D.s L)) (.d (.i .i64 (i : Int))) 1 none = some (.cp (.s L[i])) := qo4 (fun _ => rfl) (by omega) (by simp)
    have hw : wr .i64 ((i : Int) + 1) = ((i + 1 : Nat) : Int) := by rw [qcy (by omega) (by omega)]; omega
    rw [qb9]
    by_cases hc : L[i] = t
    · have h2 : (L[i] = t) = True := eq_true hc
      simp only [jN, qP, yd, qp, qs, qj, qb, kN, reduceCtorEq, qC, Nat.reduceEqDiff, qz, qu, qt, qE, qX, yY, zx, qcG, qk, qf, ke, qCh, ku, h1, decide_true, qa, qc, qA, qI, ↓reduceIte, qO, qB, qR, hia, yA, qD, zW, zX, ym, h2, kW, qF, qS, zj, kS, y9]
      exact ⟨_, _, .inr rfl, by rw [hdr, hc]; simp [get], rfl⟩
    · have h2 : (L[i] = t) = False := eq_false hc
      obtain ⟨x, e, q1, q2, q3⟩ := ih (i + 1) (by omega) (by omega)
      simp only [jN, qP, yd, qp, qs, qj, qb, kN, reduceCtorEq, qC, Nat.reduceEqDiff, qz, qu, qt, qE, qX, yY, zx, qcG, qk, qf, ke, qCh, ku, h1, decide_true, qa, qc, qA, qI, ↓reduceIte, qO, qB, qR, hia, yA, qD, zW, zX, ym, h2, decide_false, qBZ, qQ, qg, qm, kD, qCb, kW, zE, hw, qcg]
      refine ⟨x, e, q1, ?_, q3⟩
      rw [q2, hdr]
      have : (t = L[i]) = False := eq_false (fun h => hc h.symm)
      simp only [List.mem_cons, this, false_or]
theorem qpd {t : List Nat} {H : List Obj} : kl pg 35 [.d (.s t)] H = some ⟨false, true, .d (.b (decide (t ∈ KW))), H, H.length⟩ := by
  obtain ⟨x, e, q1, q2, q3⟩ := quN (L := KW) (t := t) (by decide) (H := H) KW.length 0 rfl (by omega)
  have hz0 : ((0 : Nat) : Int) = 0 := rfl
  rw [hz0] at q3
  rw [List.drop_zero] at q2
  rw [zA (fn := qaO) rfl rfl]
  simp only [qaO, qn, qB9, qq, qp, qs, qj, qb, kW, qF, qE, qX, qa, qc, qw, qCe, qh, qV, qp7, qx, qi, Nat.min_self, qf2, ji, qz, qgt, kf, qB, qcg, reduceCtorEq, qC, qP, Nat.reduceEqDiff, yd]
  rw [q3]
  rcases q1 with rfl | rfl
  all_goals simp only [qgI, qo, kx, q2, jt, qr, qG, kn, qH, qbC, jG, kT, qW]
  all_goals rfl
end W

set_option linter.unusedSimpArgs false
set_option linter.unusedVariables false
namespace W
open Go (IntKind BinOp UnOp)
set_option maxRecDepth 20000
def RES : List (List Nat) := [[73, 78, 84, 69, 71, 69, 82], [67, 72, 65, 82], [66, 79, 79, 76, 69, 65, 78], [83, 69, 84], [65, 66, 83], [79, 68, 68], [76, 83, 76], [65, 83, 82], [82, 79, 82], [79, 82, 68], [67, 72, 82], [76, 69, 78], [73, 78, 67], [68, 69, 67], [73, 78, 67, 76], [69, 88, 67, 76], [78, 69, 87], [65, 83, 83, 69, 82, 84]]
def qzS : List Nat := [73, 78, 84, 69, 71, 69, 82, 32, 67, 72, 65, 82, 32, 66, 79, 79, 76, 69, 65, 78, 32, 83, 69, 84, 32, 65, 66, 83, 32, 79, 68, 68, 32, 76, 83, 76, 32, 65, 83, 82, 32, 82, 79, 82, 32, 79, 82, 68, 32, 67, 72, 82, 32, 76, 69, 78, 32, 73, 78, 67, 32, 68, 69, 67, 32, 73, 78, 67, 76, 32, 69, 88, 67, 76, 32, 78, 69, 87, 32, 65, 83, 83, 69, 82, 84]
theorem qxk : isD (qgd pg 4000 85 [.d (.s qzS)] []) (.sl (RES.map D.s)) = true := by decide +kernel
theorem qss {t : List Nat} {H : List Obj} : kl pg 36 [.d (.s t)] H = some ⟨false, true, .d (.b (decide (t ∈ RES))), H, H.length⟩ := by
  rw [zA (fn := qaE) rfl rfl]
  by_cases h : t ∈ RES
  · rw [decide_eq_true h]
    simp only [RES, List.mem_cons, List.not_mem_nil, or_false] at h
    rcases h with rfl | rfl | rfl | rfl | rfl | rfl | rfl | rfl | rfl | rfl | rfl | rfl | rfl | rfl | rfl | rfl | rfl | rfl
    all_goals (simp only [qaE, kT, List.cons.injEq, Nat.reduceEqDiff, and_false, false_and, and_true, and_self, qO, qs, zS, qp, qA, qB, qa7, qS, qc, yr, kS, yx, qmZ, qoC, qI, qQ, jQ, zj, qa0, qln, qne, qm, qg, qa, qj, kw, zm, qiy, kq, kF, zr, qc0, kK, qd1, qE, qaQ, qqf, qtd, zo, kE, qoq, qrL, zq, qz, qC, qtD, qqQ, qob, qW, qgI, qae, kn, qkc, qdj, jG, qi3, qmC, qlZ, qfs, qoH, qjk, qmS, qn, qq, qr, qG, qo, kx, jt, qsc, qrx, qrQ, qti, quf, qjK, kN, kW, qj1, qBk, ji, qu, yy, qN, qcD, jm, zW, qnr, qod, qkg, qaL, qU, qn2, kL, qgy, qbP, qrN, qql, qq5, kA, qiq, qnK, qnX, qP, y5, kO, qqk, jn, qos, qqN, qrI, qgO, qoB, qnO, qoJ, qlg, qt, qF, qbX, qtY, kf, qi, qd, zi, qX, qcp, kJ, qpU, yA, qsz, qth, qs2, qcN, ko, qtM, qnP, zQ, yz, qm0, z1, qtL, qqG, qrY, qcl, qk2, qdB, qno, qeE, qq3, qb, qf, qk, qp1, qtR, zE, qco, qiw, qs9, qpO, jf, qpG, ku, yj, zt, jk, ym, qqZ, qrv, qq9, qgM, jD, qaJ, qwi, qL, qde, zZ, kR, jJ, qJ, zx, kZ, qfE, qeM, qpF, qy, qw, qV, qx, qmu, qn9, qh, qe, qH, qi5, kc, qmW, qnT, qdL, yU, qgX, qao, qfA, qsf, qsy, qvr, qyx, qpL, qya, zh, qbR, qbQ, qw8, qvA, qbC, qoS, qt7, qty, qwr, qjJ, qlN, qw6, qhq, qgB, ql, kP, qgo, qtu, qt3, qyn, yO, qbY, qxc, qjH, qD, qT, kG, qto, qcC, qo6, qaZ, qad, ql2, zX, qk6, qkf, qke, qng, qrw, qrZ, qdS, jL, qeQ, zV, qaR, jy, kg, ki, jg, kB, kz, jl, zH, zn, kH, zc, z8, qmI, qn8, qoe, qin, qr4, qrE, ze, kI, jx, qj0, qp6, qrU, qtn, qtI, qf5, qZ, qkq, qsv, qwh, qkT, qls, qh5, qe4, qn6, qfb, qho, qrc, qok, qoi, z6, jK, qaT, qo1, jO, jp, zK, qoA, zk, qmV, jr, qac, qqa, qrd, qqc, qtt, que, qow, zg, y4, j9, qaU, qgz, qqX, qbZ, qaS, qgj, qkv, qdP, qcT, qrz, qqn, qcI, qn4, qmb, qdT, qeT, qih, qkY, qlb, ql8, qgZ, qlf, qoQ, qlc, qog, qR, qtX, qq4, qsA, ky, qgc, qcZ, qkN, qcs, qkd, qe1, qj3, qkb, qoF, qjc, qol, qp0, qk7, qef, qmo, qkW, qrO, qvK, qwL, qki, qqz, qqY, qnY, qr5, qtx, qtB, qqC, qrn, qhm, qs7, qtK, qqw, qnQ, qoj, qnZ, qvF, qwD, qwJ, qwv, qkD, qra, yY, qgt, yd, qf2, qjq, qit, qnd, qt4, qrs, qnU, qpJ, qcG, qjW, qml, qkB, qrm, ke, kD, qvI, qys, qlj, qmO, qlp, qm2, qxb, qtS, qt8, qsZ, qtF, qtZ, kr, kh, qbW, qoo, kM, qoc, qbd, qqS, qnR, qaM, qrP, qkM, qll, qqe, qrV, qoz, zf, qjp, qid, qnJ, qre, qyq, qv2, qtV, qtQ, k9, yp, qhW, ql5, qrt, qua, qv1, qf1, qk8, qb6, qk0, qrB, qgu, qoE, qrA, qr9, qrH, qkl, qnM, qnS, qtc, qrT, qr2, qwo, qym, qt5, qtw, qtj, qtJ, qwW, qtz, qtG, qwR, qtq, qoI, qwQ, qvO, quc, ql0, qkz, qce, qfG, qhN, qm3, qgS, qub, qjn, qwk, qlG, qjY, qkX, qld, qjm, qnw, qte, qmG, qmA, qqP, qp3, qlO, qqq, qgC, qnV, qmp, eq_self, Int.cast_ofNat_Int, beq_true, beq_false, Nat.max_self, Nat.zero_max, Nat.max_zero, List.reduceReplicate, qB1, qB6, Nat.add_zero, qCi, qCk, ne_eq, Nat.reduceEqDiff, not_false_eq_true, not_true_eq_false, reduceCtorEq, Bool.true_and, Bool.and_true, Bool.false_and, Bool.and_false, qCl, Bool.not_false, Bool.false_or, Bool.true_or, Bool.or_false, qCb, ↓reduceIte, Nat.reduceAdd, Nat.reduceSub, Nat.reduceMul, decide_true, decide_false, decide_eq_true_eq, Bool.not_eq_true', decide_eq_false_iff_not, qB3, Option.map_none, qB4, qCe, Nat.succ_eq_add_one, qB9, List.cons_append, List.nil_append, List.append_nil, qBZ, Bool.true_eq_false, beq_self_eq_true, Int.reduceEq, Int.reduceNe, Int.reduceLT, Int.reduceLE, Int.reduceNeg, Int.reduceAdd, Int.reduceSub, Int.reduceMul, qCd, qCf, qB7, qCh, Int.not_lt, Int.not_le, Nat.reduceLT, Nat.reduceLeDiff, Nat.min_self, List.length_append, Nat.reduceBEq, List.drop_zero, List.drop_succ_cons, List.take_succ_cons, List.take_zero])
    all_goals rfl
  · rw [decide_eq_false h]
    simp only [RES, List.mem_cons, List.not_mem_nil, or_false, not_or] at h
    obtain ⟨h0, h1, h2, h3, h4, h5, h6, h7, h8, h9, h10, h11, h12, h13, h14, h15, h16, h17⟩ := h
    simp only [qaE, kT, eq_false h0, eq_false h1, eq_false h2, eq_false h3, eq_false h4, eq_false h5, eq_false h6, eq_false h7, eq_false h8, eq_false h9, eq_false h10, eq_false h11, eq_false h12, eq_false h13, eq_false h14, eq_false h15, eq_false h16, eq_false h17, qO, qs, zS, qp, qA, qB, qa7, qS, qc, yr, kS, yx, qmZ, qoC, qI, qQ, jQ, zj, qa0, qln, qne, qm, qg, qa, qj, kw, zm, qiy, kq, kF, zr, qc0, kK, qd1, qE, qaQ, qqf, qtd, zo, kE, qoq, qrL, zq, qz, qC, qtD, qqQ, qob, qW, qgI, qae, kn, qkc, qdj, jG, qi3, qmC, qlZ, qfs, qoH, qjk, qmS, qn, qq, qr, qG, qo, kx, jt, qsc, qrx, qrQ, qti, quf, qjK, kN, kW, qj1, qBk, ji, qu, yy, qN, qcD, jm, zW, qnr, qod, qkg, qaL, qU, qn2, kL, qgy, qbP, qrN, qql, qq5, kA, qiq, qnK, qnX, qP, y5, kO, qqk, jn, qos, qqN, qrI, qgO, qoB, qnO, qoJ, qlg, qt, qF, qbX, qtY, kf, qi, qd, zi, qX, qcp, kJ, qpU, yA, qsz, qth, qs2, qcN, ko, qtM, qnP, zQ, yz, qm0, z1, qtL, qqG, qrY, qcl, qk2, qdB, qno, qeE, qq3, qb, qf, qk, qp1, qtR, zE, qco, qiw, qs9, qpO, jf, qpG, ku, yj, zt, jk, ym, qqZ, qrv, qq9, qgM, jD, qaJ, qwi, qL, qde, zZ, kR, jJ, qJ, zx, kZ, qfE, qeM, qpF, qy, qw, qV, qx, qmu, qn9, qh, qe, qH, qi5, kc, qmW, qnT, qdL, yU, qgX, qao, qfA, qsf, qsy, qvr, qyx, qpL, qya, zh, qbR, qbQ, qw8, qvA, qbC, qoS, qt7, qty, qwr, qjJ, qlN, qw6, qhq, qgB, ql, kP, qgo, qtu, qt3, qyn, yO, qbY, qxc, qjH, qD, qT, kG, qto, qcC, qo6, qaZ, qad, ql2, zX, qk6, qkf, qke, qng, qrw, qrZ, qdS, jL, qeQ, zV, qaR, jy, kg, ki, jg, kB, kz, jl, zH, zn, kH, zc, z8, qmI, qn8, qoe, qin, qr4, qrE, ze, kI, jx, qj0, qp6, qrU, qtn, qtI, qf5, qZ, qkq, qsv, qwh, qkT, qls, qh5, qe4, qn6, qfb, qho, qrc, qok, qoi, z6, jK, qaT, qo1, jO, jp, zK, qoA, zk, qmV, jr, qac, qqa, qrd, qqc, qtt, que, qow, zg, y4, j9, qaU, qgz, qqX, qbZ, qaS, qgj, qkv, qdP, qcT, qrz, qqn, qcI, qn4, qmb, qdT, qeT, qih, qkY, qlb, ql8, qgZ, qlf, qoQ, qlc, qog, qR, qtX, qq4, qsA, ky, qgc, qcZ, qkN, qcs, qkd, qe1, qj3, qkb, qoF, qjc, qol, qp0, qk7, qef, qmo, qkW, qrO, qvK, qwL, qki, qqz, qqY, qnY, qr5, qtx, qtB, qqC, qrn, qhm, qs7, qtK, qqw, qnQ, qoj, qnZ, qvF, qwD, qwJ, qwv, qkD, qra, yY, qgt, yd, qf2, qjq, qit, qnd, qt4, qrs, qnU, qpJ, qcG, qjW, qml, qkB, qrm, ke, kD, qvI, qys, qlj, qmO, qlp, qm2, qxb, qtS, qt8, qsZ, qtF, qtZ, kr, kh, qbW, qoo, kM, qoc, qbd, qqS, qnR, qaM, qrP, qkM, qll, qqe, qrV, qoz, zf, qjp, qid, qnJ, qre, qyq, qv2, qtV, qtQ, k9, yp, qhW, ql5, qrt, qua, qv1, qf1, qk8, qb6, qk0, qrB, qgu, qoE, qrA, qr9, qrH, qkl, qnM, qnS, qtc, qrT, qr2, qwo, qym, qt5, qtw, qtj, qtJ, qwW, qtz, qtG, qwR, qtq, qoI, qwQ, qvO, quc, ql0, qkz, qce, qfG, qhN, qm3, qgS, qub, qjn, qwk, qlG, qjY, qkX, qld, qjm, qnw, qte, qmG, qmA, qqP, qp3, qlO, qqq, qgC, qnV, qmp, eq_self, Int.cast_ofNat_Int, beq_true, beq_false, Nat.max_self, Nat.zero_max, Nat.max_zero, List.reduceReplicate, qB1, qB6, Nat.add_zero, qCi, qCk, ne_eq, Nat.reduceEqDiff, not_false_eq_true, not_true_eq_false, reduceCtorEq, Bool.true_and, Bool.and_true, Bool.false_and, Bool.and_false, qCl, Bool.not_false, Bool.false_or, Bool.true_or, Bool.or_false, qCb, ↓reduceIte, Nat.reduceAdd, Nat.reduceSub, Nat.reduceMul, decide_true, decide_false, decide_eq_true_eq, Bool.not_eq_true', decide_eq_false_iff_not, qB3, Option.map_none, qB4, qCe, Nat.succ_eq_add_one, qB9, List.cons_append, List.nil_append, List.append_nil, qBZ, Bool.true_eq_false, beq_self_eq_true, Int.reduceEq, Int.reduceNe, Int.reduceLT, Int.reduceLE, Int.reduceNeg, Int.reduceAdd, Int.reduceSub, Int.reduceMul, qCd, qCf, qB7, qCh, Int.not_lt, Int.not_le, Nat.reduceLT, Nat.reduceLeDiff, Nat.min_self, List.length_append, Nat.reduceBEq, List.drop_zero, List.drop_succ_cons, List.take_succ_cons, List.take_zero]
    all_goals rfl
end W

set_option linter.unusedSimpArgs false
set_option linter.unusedVariables false
namespace W
open Go (IntKind BinOp UnOp)
set_option maxRecDepth 20000
theorem qmX {t : List Nat} {H : List Obj} : kl pg 84 [.d (.sl (RES.map D.s)), .d (.s t)] H = some ⟨false, true, .d (.b (decide (t ∈ RES))), H, H.length⟩ := by
  obtain ⟨r, h1, h2⟩ := qm4 (L := RES) (t := t) (by decide) (H := H)
  have h2' : kl pg 181 [.d (.sl (RES.map D.s)), .d (.s t)] H = some ⟨false, true, .d (.i .i64 r), H, H.length⟩ := h2
  rw [zA (fn := kU) rfl rfl, ← h1]
  by_cases h : (0 : Int) ≤ r
  all_goals simp only [kU, qn, qB9, Nat.reduceAdd, qq, qp, qs, qj, qb, kW, qF, qE, qX, qa, qc, ji, reduceCtorEq, qC, qz, kL, kf, Nat.reduceEqDiff, qw, qB4, qCe, qe, qH, qh, qB7, qV, h2', qx, qd, qi, Nat.min_self, qf, ke, kD, qCb, kN, qu, jk, h, decide_true, qk, qt, qS, qW, qo, kx, jt, qr, qG, kn, qbC, jG, kT, decide_false]
  all_goals rfl
theorem qr3 : ∃ lo, kl pg 85 [.d (.s qzS)] [] = some ⟨false, true, .d (.sl (RES.map D.s)), [], lo⟩ := qnt qoY qxk
theorem qnG {t : List Nat} : ∃ lo, kl pg 34 [.d (.s t)] [] = some ⟨false, true, .d (.b (decide (t ∈ RES))), [], lo⟩ := by
  obtain ⟨lo, hf⟩ := qr3
  unfold qzS at hf
  rw [zA (fn := qcm) rfl rfl]
  simp only [qcm, qn, qB9, qq, qCf, qp, qs, qj, qb, kW, qF, qE, qX, qa, qc, qw, qB4, qCe, qe, qH, qh, qB7, qV, hf, qx, qd, qi, ji, reduceCtorEq, qC, qz, kL, kf, kN, Nat.reduceEqDiff, qu, qmX, qt, qS, qW, qo, kx, jt, qr, qG, kn]
  exact ⟨_, jI rfl (Nat.zero_le _) (Nat.zero_le _)⟩
def idF : Nat → List Nat → Bool
  | _, [] => true
  | i, c :: l => (cLt c || (decide (0 < i) && cDg c)) && idF (i + 1) l
def idB (s : List Nat) : Bool := !decide (s = []) && !decide (32 < s.length) && !decide (s ∈ KW) && !decide (s ∈ RES) && idF 0 s
theorem qpc {s : List Nat} (hs : ∀ c ∈ s, c < 256) (hz : s.length ≤ 1000000000000) {H : List Obj} :
    ∀ (k i : Nat), s.length - i = k → i ≤ s.length → ∃ x e, (x = .nrm ∨ x = .ret) ∧ get 2 e = .d (.b (idF i (s.drop i))) ∧
      y6 pg (qaB 0 [] (qaH pg (.d (.s s)) (.d (.i .i64 (i : Nat))) H H.length)) qbV = some (x, ⟨e, H, H.length⟩) := by
  intro k
  induction k with
  | zero =>
    intro i hk hi
    obtain rfl : i = s.length := by omega
    have h1 : ((s.length : Int) < (s.length : Int)) = False := by simp
    rw [qcE]
    simp only [kj, qP, qp, qs, qj, qb, kN, reduceCtorEq, qC, qz, qu, qt, qE, qX, qJ, kZ, qk, qf, ke, qCh, Nat.reduceEqDiff, ku, h1, decide_false, qa, qc, qA, qI, qBZ, ↓reduceIte, qa7, yr, jQ, qm, qbV, kW, qF, qS]
    exact ⟨_, _, .inr rfl, by rw [List.drop_length]; simp [get, idF], rfl⟩
  | succ k ih =>
    intro i hk hi
    have h1 : ((i : Int) < (s.length : Int)) = True := by rw [eq_iff_iff]; simp; omega
    have hlt : i < s.length := by omega
    have hdr : s.drop i = s[i] :: s.drop (i + 1) := by simp
    have hw : wr .i64 ((i : Int) + 1) = ((i + 1 : Nat) : Int) := by rw [qcy (by omega) (by omega)]; omega
    have hix : ixV (.d (.s s)) (.d (.i .i64 (i : Int))) = some (.d (.i .u8 ((s[i] : Nat) : Int))) := qqp (by omega) (by simp [hlt])
    have hc : s[i] < 256 := hs _ (List.getElem_mem hlt)
    rw [qcE]
    obtain ⟨x, e, q1, q2, q3⟩ := ih (i + 1) (by omega) (by omega)
    rw [hdr]
    generalize s[i] = c at hix hc
    have g : c < 48 ∨ (48 ≤ c ∧ c < 58) ∨ (58 ≤ c ∧ c < 65) ∨ (65 ≤ c ∧ c < 91) ∨ (91 ≤ c ∧ c < 97) ∨ (97 ≤ c ∧ c < 123) ∨ 123 ≤ c := by omega
    rcases g with g | g | g | g | g | g | g
    · have hL : cLt c = false := by simp only [cLt, Bool.or_eq_true, qB0, decide_eq_true_eq, Bool.or_eq_false_iff, Bool.and_eq_false_iff, decide_eq_false_iff_not]; omega
      have hD : cDg c = false := by simp only [cDg, qB0, decide_eq_true_eq, Bool.and_eq_false_iff, decide_eq_false_iff_not]; omega
      have e97 : ((97 : Int) ≤ (c : Int)) = False := by rw [eq_iff_iff]; simp only [iff_true, iff_false]; omega
      have e122 : ((c : Int) ≤ 122) = True := by rw [eq_iff_iff]; simp only [iff_true, iff_false]; omega
      have e65 : ((65 : Int) ≤ (c : Int)) = False := by rw [eq_iff_iff]; simp only [iff_true, iff_false]; omega
      have e90 : ((c : Int) ≤ 90) = True := by rw [eq_iff_iff]; simp only [iff_true, iff_false]; omega
      have e48 : ((48 : Int) ≤ (c : Int)) = False := by rw [eq_iff_iff]; simp only [iff_true, iff_false]; omega
      have e57 : ((c : Int) ≤ 57) = True := by rw [eq_iff_iff]; simp only [iff_true, iff_false]; omega
      by_cases h0 : 0 < i
      · have h0' : ((0 : Int) < (i : Int)) = True := by rw [eq_iff_iff]; simp only [iff_true]; omega
        simp only [kj, qP, qp, qs, qj, qb, kN, reduceCtorEq, qC, qz, qu, qt, qE, qX, qJ, kZ, qk, qf, ke, qCh, Nat.reduceEqDiff, ku, h1, decide_true, qa, qc, qA, qI, ↓reduceIte, qO, qB, ky, hix, kD, qCb, kW, jk, e97, decide_false, kq, kw, kK, qBZ, ko, qL, qU, zZ, zm, Bool.not_false, e65, kR, zt, h0', e48, jD, qaJ, qB3, qF, qS, zj, kS]
        exact ⟨_, _, .inr rfl, by simp [get, idF, hL, hD], rfl⟩
      · have h0' : ((0 : Int) < (i : Int)) = False := by rw [eq_iff_iff]; simp only [iff_false]; omega
        simp only [kj, qP, qp, qs, qj, qb, kN, reduceCtorEq, qC, qz, qu, qt, qE, qX, qJ, kZ, qk, qf, ke, qCh, Nat.reduceEqDiff, ku, h1, decide_true, qa, qc, qA, qI, ↓reduceIte, qO, qB, ky, hix, kD, qCb, kW, jk, e97, decide_false, kq, kw, kK, qBZ, ko, qL, qU, zZ, zm, Bool.not_false, e65, kR, zt, h0', jD, qaJ, qB3, qF, qS, zj, kS]
        exact ⟨_, _, .inr rfl, by simp [get, idF, hL, hD], rfl⟩
    · have hL : cLt c = false := by simp only [cLt, Bool.or_eq_true, qB0, decide_eq_true_eq, Bool.or_eq_false_iff, Bool.and_eq_false_iff, decide_eq_false_iff_not]; omega
      have hD : cDg c = true := by simp only [cDg, qB0, decide_eq_true_eq, Bool.and_eq_false_iff, decide_eq_false_iff_not]; omega
      have e97 : ((97 : Int) ≤ (c : Int)) = False := by rw [eq_iff_iff]; simp only [iff_true, iff_false]; omega
      have e122 : ((c : Int) ≤ 122) = True := by rw [eq_iff_iff]; simp only [iff_true, iff_false]; omega
      have e65 : ((65 : Int) ≤ (c : Int)) = False := by rw [eq_iff_iff]; simp only [iff_true, iff_false]; omega
      have e90 : ((c : Int) ≤ 90) = True := by rw [eq_iff_iff]; simp only [iff_true, iff_false]; omega
      have e48 : ((48 : Int) ≤ (c : Int)) = True := by rw [eq_iff_iff]; simp only [iff_true, iff_false]; omega
      have e57 : ((c : Int) ≤ 57) = True := by rw [eq_iff_iff]; simp only [iff_true, iff_false]; omega
      by_cases h0 : 0 < i
      · have h0' : ((0 : Int) < (i : Int)) = True := by rw [eq_iff_iff]; simp only [iff_true]; omega
        simp only [kj, qP, qp, qs, qj, qb, kN, reduceCtorEq, qC, qz, qu, qt, qE, qX, qJ, kZ, qk, qf, ke, qCh, Nat.reduceEqDiff, ku, h1, decide_true, qa, qc, qA, qI, ↓reduceIte, qO, qB, ky, hix, kD, qCb, kW, jk, e97, decide_false, kq, kw, kK, qBZ, ko, qL, qU, zZ, zm, Bool.not_false, e65, kR, zt, h0', e48, yj, e57, jD, qaJ, qCl, qB3, qQ, qg, qm, zE, hw, yK]
        refine ⟨x, e, q1, ?_, q3⟩
        rw [q2]; simp [idF, hL, hD, h0]
      · have h0' : ((0 : Int) < (i : Int)) = False := by rw [eq_iff_iff]; simp only [iff_false]; omega
        simp only [kj, qP, qp, qs, qj, qb, kN, reduceCtorEq, qC, qz, qu, qt, qE, qX, qJ, kZ, qk, qf, ke, qCh, Nat.reduceEqDiff, ku, h1, decide_true, qa, qc, qA, qI, ↓reduceIte, qO, qB, ky, hix, kD, qCb, kW, jk, e97, decide_false, kq, kw, kK, qBZ, ko, qL, qU, zZ, zm, Bool.not_false, e65, kR, zt, h0', jD, qaJ, qB3, qF, qS, zj, kS]
        exact ⟨_, _, .inr rfl, by simp [get, idF, hL, h0], rfl⟩
    · have hL : cLt c = false := by simp only [cLt, Bool.or_eq_true, qB0, decide_eq_true_eq, Bool.or_eq_false_iff, Bool.and_eq_false_iff, decide_eq_false_iff_not]; omega
      have hD : cDg c = false := by simp only [cDg, qB0, decide_eq_true_eq, Bool.and_eq_false_iff, decide_eq_false_iff_not]; omega
      have e97 : ((97 : Int) ≤ (c : Int)) = False := by rw [eq_iff_iff]; simp only [iff_true, iff_false]; omega
      have e122 : ((c : Int) ≤ 122) = True := by rw [eq_iff_iff]; simp only [iff_true, iff_false]; omega
      have e65 : ((65 : Int) ≤ (c : Int)) = False := by rw [eq_iff_iff]; simp only [iff_true, iff_false]; omega
      have e90 : ((c : Int) ≤ 90) = True := by rw [eq_iff_iff]; simp only [iff_true, iff_false]; omega
      have e48 : ((48 : Int) ≤ (c : Int)) = True := by rw [eq_iff_iff]; simp only [iff_true, iff_false]; omega
      have e57 : ((c : Int) ≤ 57) = False := by rw [eq_iff_iff]; simp only [iff_true, iff_false]; omega
      by_cases h0 : 0 < i
      · have h0' : ((0 : Int) < (i : Int)) = True := by rw [eq_iff_iff]; simp only [iff_true]; omega
        simp only [kj, qP, qp, qs, qj, qb, kN, reduceCtorEq, qC, qz, qu, qt, qE, qX, qJ, kZ, qk, qf, ke, qCh, Nat.reduceEqDiff, ku, h1, decide_true, qa, qc, qA, qI, ↓reduceIte, qO, qB, ky, hix, kD, qCb, kW, jk, e97, decide_false, kq, kw, kK, qBZ, ko, qL, qU, zZ, zm, Bool.not_false, e65, kR, zt, h0', e48, yj, e57, jD, qaJ, qB3, qF, qS, zj, kS]
        exact ⟨_, _, .inr rfl, by simp [get, idF, hL, hD], rfl⟩
      · have h0' : ((0 : Int) < (i : Int)) = False := by rw [eq_iff_iff]; simp only [iff_false]; omega
        simp only [kj, qP, qp, qs, qj, qb, kN, reduceCtorEq, qC, qz, qu, qt, qE, qX, qJ, kZ, qk, qf, ke, qCh, Nat.reduceEqDiff, ku, h1, decide_true, qa, qc, qA, qI, ↓reduceIte, qO, qB, ky, hix, kD, qCb, kW, jk, e97, decide_false, kq, kw, kK, qBZ, ko, qL, qU, zZ, zm, Bool.not_false, e65, kR, zt, h0', jD, qaJ, qB3, qF, qS, zj, kS]
        exact ⟨_, _, .inr rfl, by simp [get, idF, hL, hD], rfl⟩
    · have hL : cLt c = true := by simp only [cLt, Bool.or_eq_true, qB0, decide_eq_true_eq, Bool.or_eq_false_iff, Bool.and_eq_false_iff, decide_eq_false_iff_not]; omega
      have hD : cDg c = false := by simp only [cDg, qB0, decide_eq_true_eq, Bool.and_eq_false_iff, decide_eq_false_iff_not]; omega
      have e97 : ((97 : Int) ≤ (c : Int)) = False := by rw [eq_iff_iff]; simp only [iff_true, iff_false]; omega
      have e122 : ((c : Int) ≤ 122) = True := by rw [eq_iff_iff]; simp only [iff_true, iff_false]; omega
      have e65 : ((65 : Int) ≤ (c : Int)) = True := by rw [eq_iff_iff]; simp only [iff_true, iff_false]; omega
      have e90 : ((c : Int) ≤ 90) = True := by rw [eq_iff_iff]; simp only [iff_true, iff_false]; omega
      have e48 : ((48 : Int) ≤ (c : Int)) = True := by rw [eq_iff_iff]; simp only [iff_true, iff_false]; omega
      have e57 : ((c : Int) ≤ 57) = False := by rw [eq_iff_iff]; simp only [iff_true, iff_false]; omega
      simp only [kj, qP, qp, qs, qj, qb, kN, reduceCtorEq, qC, qz, qu, qt, qE, qX, qJ, kZ, qk, qf, ke, qCh, Nat.reduceEqDiff, ku, h1, decide_true, qa, qc, qA, qI, ↓reduceIte, qO, qB, ky, hix, kD, qCb, kW, jk, e97, decide_false, kq, kw, kK, qBZ, ko, qL, qU, zZ, zm, Bool.not_false, e65, yj, e90, kR, qCl, qiy, qde, jD, qaJ, qB3, qQ, qg, qm, zE, hw, yK]
      refine ⟨x, e, q1, ?_, q3⟩
      rw [q2]; simp [idF, hL]
    · have hL : cLt c = false := by simp only [cLt, Bool.or_eq_true, qB0, decide_eq_true_eq, Bool.or_eq_false_iff, Bool.and_eq_false_iff, decide_eq_false_iff_not]; omega
      have hD : cDg c = false := by simp only [cDg, qB0, decide_eq_true_eq, Bool.and_eq_false_iff, decide_eq_false_iff_not]; omega
      have e97 : ((97 : Int) ≤ (c : Int)) = False := by rw [eq_iff_iff]; simp only [iff_true, iff_false]; omega
      have e122 : ((c : Int) ≤ 122) = True := by rw [eq_iff_iff]; simp only [iff_true, iff_false]; omega
      have e65 : ((65 : Int) ≤ (c : Int)) = True := by rw [eq_iff_iff]; simp only [iff_true, iff_false]; omega
      have e90 : ((c : Int) ≤ 90) = False := by rw [eq_iff_iff]; simp only [iff_true, iff_false]; omega
      have e48 : ((48 : Int) ≤ (c : Int)) = True := by rw [eq_iff_iff]; simp only [iff_true, iff_false]; omega
      have e57 : ((c : Int) ≤ 57) = False := by rw [eq_iff_iff]; simp only [iff_true, iff_false]; omega
      by_cases h0 : 0 < i
      · have h0' : ((0 : Int) < (i : Int)) = True := by rw [eq_iff_iff]; simp only [iff_true]; omega
        simp only [kj, qP, qp, qs, qj, qb, kN, reduceCtorEq, qC, qz, qu, qt, qE, qX, qJ, kZ, qk, qf, ke, qCh, Nat.reduceEqDiff, ku, h1, decide_true, qa, qc, qA, qI, ↓reduceIte, qO, qB, ky, hix, kD, qCb, kW, jk, e97, decide_false, kq, kw, kK, qBZ, ko, qL, qU, zZ, zm, Bool.not_false, e65, yj, e90, kR, zt, h0', e48, e57, jD, qaJ, qB3, qF, qS, zj, kS]
        exact ⟨_, _, .inr rfl, by simp [get, idF, hL, hD], rfl⟩
      · have h0' : ((0 : Int) < (i : Int)) = False := by rw [eq_iff_iff]; simp only [iff_false]; omega
        simp only [kj, qP, qp, qs, qj, qb, kN, reduceCtorEq, qC, qz, qu, qt, qE, qX, qJ, kZ, qk, qf, ke, qCh, Nat.reduceEqDiff, ku, h1, decide_true, qa, qc, qA, qI, ↓reduceIte, qO, qB, ky, hix, kD, qCb, kW, jk, e97, decide_false, kq, kw, kK, qBZ, ko, qL, qU, zZ, zm, Bool.not_false, e65, yj, e90, kR, zt, h0', jD, qaJ, qB3, qF, qS, zj, kS]
        exact ⟨_, _, .inr rfl, by simp [get, idF, hL, hD], rfl⟩
    · have hL : cLt c = true := by simp only [cLt, Bool.or_eq_true, qB0, decide_eq_true_eq, Bool.or_eq_false_iff, Bool.and_eq_false_iff, decide_eq_false_iff_not]; omega
      have hD : cDg c = false := by simp only [cDg, qB0, decide_eq_true_eq, Bool.and_eq_false_iff, decide_eq_false_iff_not]; omega
      have e97 : ((97 : Int) ≤ (c : Int)) = True := by rw [eq_iff_iff]; simp only [iff_true, iff_false]; omega
      have e122 : ((c : Int) ≤ 122) = True := by rw [eq_iff_iff]; simp only [iff_true, iff_false]; omega
      have e65 : ((65 : Int) ≤ (c : Int)) = True := by rw [eq_iff_iff]; simp only [iff_true, iff_false]; omega
      have e90 : ((c : Int) ≤ 90) = False := by rw [eq_iff_iff]; simp only [iff_true, iff_false]; omega
      have e48 : ((48 : Int) ≤ (c : Int)) = True := by rw [eq_iff_iff]; simp only [iff_true, iff_false]; omega
      have e57 : ((c : Int) ≤ 57) = False := by rw [eq_iff_iff]; simp only [iff_true, iff_false]; omega
      simp only [kj, qP, qp, qs, qj, qb, kN, reduceCtorEq, qC, qz, qu, qt, qE, qX, qJ, kZ, qk, qf, ke, qCh, Nat.reduceEqDiff, ku, h1, decide_true, qa, qc, qA, qI, ↓reduceIte, qO, qB, ky, hix, kD, qCb, kW, jk, e97, kq, kw, kK, yj, e122, qL, kR, zm, qCl, qBZ, ko, qiy, qU, qde, jD, qaJ, qB3, qQ, qg, qm, zE, hw, yK]
      refine ⟨x, e, q1, ?_, q3⟩
      rw [q2]; simp [idF, hL]
    · have hL : cLt c = false := by simp only [cLt, Bool.or_eq_true, qB0, decide_eq_true_eq, Bool.or_eq_false_iff, Bool.and_eq_false_iff, decide_eq_false_iff_not]; omega
      have hD : cDg c = false := by simp only [cDg, qB0, decide_eq_true_eq, Bool.and_eq_false_iff, decide_eq_false_iff_not]; omega
      have e97 : ((97 : Int) ≤ (c : Int)) = True := by rw [eq_iff_iff]; simp only [iff_true, iff_false]; omega
      have e122 : ((c : Int) ≤ 122) = False := by rw [eq_iff_iff]; simp only [iff_true, iff_false]; omega
      have e65 : ((65 : Int) ≤ (c : Int)) = True := by rw [eq_iff_iff]; simp only [iff_true, iff_false]; omega
      have e90 : ((c : Int) ≤ 90) = False := by rw [eq_iff_iff]; simp only [iff_true, iff_false]; omega
      have e48 : ((48 : Int) ≤ (c : Int)) = True := by rw [eq_iff_iff]; simp only [iff_true, iff_false]; omega
      have e57 : ((c : Int) ≤ 57) = False := by rw [eq_iff_iff]; simp only [iff_true, iff_false]; omega
      by_cases h0 : 0 < i
      · have h0' : ((0 : Int) < (i : Int)) = True := by rw [eq_iff_iff]; simp only [iff_true]; omega
        simp only [kj, qP, qp, qs, qj, qb, kN, reduceCtorEq, qC, qz, qu, qt, qE, qX, qJ, kZ, qk, qf, ke, qCh, Nat.reduceEqDiff, ku, h1, decide_true, qa, qc, qA, qI, ↓reduceIte, qO, qB, ky, hix, kD, qCb, kW, jk, e97, kq, kw, kK, yj, e122, decide_false, qL, kR, zm, Bool.not_false, e65, e90, qBZ, zt, h0', e48, e57, jD, qaJ, qB3, qF, qS, zj, kS]
        exact ⟨_, _, .inr rfl, by simp [get, idF, hL, hD], rfl⟩
      · have h0' : ((0 : Int) < (i : Int)) = False := by rw [eq_iff_iff]; simp only [iff_false]; omega
        simp only [kj, qP, qp, qs, qj, qb, kN, reduceCtorEq, qC, qz, qu, qt, qE, qX, qJ, kZ, qk, qf, ke, qCh, Nat.reduceEqDiff, ku, h1, decide_true, qa, qc, qA, qI, ↓reduceIte, qO, qB, ky, hix, kD, qCb, kW, jk, e97, kq, kw, kK, yj, e122, decide_false, qL, kR, zm, Bool.not_false, e65, e90, qBZ, zt, h0', ko, qU, zZ, jD, qaJ, qB3, qF, qS, zj, kS]
        exact ⟨_, _, .inr rfl, by simp [get, idF, hL, hD], rfl⟩
theorem qo7 {s : List Nat} (hs : ∀ c ∈ s, c < 256) (hz : s.length ≤ 1000000000000) {H : List Obj} : kl pg 15 [.d (.s s)] H = some ⟨false, true, .d (.b (idB s)), H, H.length⟩ := by
  rw [zA (fn := jz) rfl rfl]
  have hk := qpd (t := s) (H := H)
  have ht := qss (t := s) (H := H)
  obtain ⟨x, e, q1, q2, q3⟩ := qpc hs hz (H := H) s.length 0 rfl (by omega)
  have hz0 : ((0 : Nat) : Int) = 0 := rfl
  rw [hz0] at q3
  rw [List.drop_zero] at q2
  unfold idB
  have e0 : (s = ([] : List Nat)) = (s = []) := rfl
  by_cases h1 : s = []
  · subst h1
    simp only [jz, qn, qB9, qq, qp, qs, qj, qb, kW, qF, qE, qX, qa, qc, kN, reduceCtorEq, qC, qz, qu, qt, qf, ke, kD, qCb, ym, decide_true, qk, kq, zm, qCl, kK, qBZ, ↓reduceIte, ko, Nat.reduceEqDiff, qL, qU, qde, qA, qI, qS, kS, qW, qo, kx, jt, qr, qG, kn, qH, qbC, jG, kT, qCf, Nat.reduceLT, decide_false, Bool.not_false, Bool.and_true, Bool.false_and]
    all_goals rfl
  · have e1 : (s = []) = False := eq_false h1
    by_cases h2 : 32 < s.length
    · have e2 : ((32 : Int) < (s.length : Int)) = True := by rw [eq_iff_iff]; simp; omega
      simp only [jz, qn, qB9, qq, qp, qs, qj, qb, kW, qF, qE, qX, qa, qc, kN, reduceCtorEq, qC, qz, qu, qt, qf, ke, kD, qCb, ym, e1, decide_false, qk, kq, zm, Bool.not_false, kK, ↓reduceIte, Nat.reduceEqDiff, qJ, kZ, zt, e2, decide_true, qL, kR, qBZ, qCl, ko, qU, qde, qA, qI, qS, kS, qW, qo, kx, jt, qr, qG, kn, qH, qbC, jG, kT, Bool.true_and]
      rw [decide_eq_true h2]; simp
    · have e2 : ((32 : Int) < (s.length : Int)) = False := by rw [eq_iff_iff]; simp; omega
      rw [decide_eq_false h1, decide_eq_false h2]
      by_cases h3 : s ∈ KW
      · rw [decide_eq_true h3] at hk
        simp only [jz, qn, qB9, qq, qp, qs, qj, qb, kW, qF, qE, qX, qa, qc, kN, reduceCtorEq, qC, qz, qu, qt, qf, ke, kD, qCb, ym, e1, decide_false, qk, kq, zm, Bool.not_false, kK, ↓reduceIte, Nat.reduceEqDiff, qJ, kZ, zt, e2, qL, kR, qBZ, qw, qB4, qCe, qe, qH, qh, qB7, qV, hk, qx, qd, qi, Nat.min_self, qCl, ko, qU, qde, qA, qI, qS, kS, qW, qo, kx, jt, qr, qG, kn, qbC, jG, kT, Bool.true_and]
        rw [decide_eq_true h3]; simp
      · rw [decide_eq_false h3] at hk
        rw [decide_eq_false h3]
        by_cases h4 : s ∈ RES
        · rw [decide_eq_true h4] at ht
          simp only [jz, qn, qB9, qq, qp, qs, qj, qb, kW, qF, qE, qX, qa, qc, kN, reduceCtorEq, qC, qz, qu, qt, qf, ke, kD, qCb, ym, e1, decide_false, qk, kq, zm, Bool.not_false, kK, ↓reduceIte, Nat.reduceEqDiff, qJ, kZ, zt, e2, qL, kR, qBZ, qw, qB4, qCe, qe, qH, qh, qB7, qV, hk, qx, qd, qi, Nat.min_self, ht, qA, qI, qS, kS, qW, qo, kx, jt, qr, qG, kn, qbC, jG, kT, Bool.true_and]
          rw [decide_eq_true h4]; simp
        · rw [decide_eq_false h4] at ht
          rw [decide_eq_false h4]
          simp only [jz, qn, qB9, qq, qp, qs, qj, qb, kW, qF, qE, qX, qa, qc, kN, reduceCtorEq, qC, qz, qu, qt, qf, ke, kD, qCb, ym, e1, decide_false, qk, kq, zm, Bool.not_false, kK, ↓reduceIte, Nat.reduceEqDiff, qJ, kZ, zt, e2, qL, kR, qBZ, qw, qB4, qCe, qe, qH, qh, qB7, qV, hk, qx, qd, qi, Nat.min_self, ht, qA, qI, qO, qB, yK, qP, Bool.true_and]
          rw [q3]
          rcases q1 with rfl | rfl
          all_goals simp only [qgI, qo, kx, q2, jt, qr, qG, kn, qH, qbC, jG, kT, qW]
          all_goals simp
          all_goals rfl
end W

set_option linter.unusedSimpArgs false
set_option linter.unusedVariables false
namespace W
open Go (IntKind BinOp UnOp)
set_option maxRecDepth 20000
theorem qsN : ∀ (l : List Nat) (i : Nat), 0 < i → idF i l = l.all cNm
  | [], _, _ => rfl
  | c :: l, i, h => by simp [idF, qsN l (i + 1) (by omega), h, cNm]
theorem qrF {P : Nat → Bool} : ∀ {l : List Nat}, l.all P = true → run P l = l.length
  | [], _ => rfl
  | c :: l, h => by
    simp only [List.all_cons, qB0] at h
    simp [run, h.1, qrF h.2]
theorem qqh {P : Nat → Bool} : ∀ {l : List Nat}, run P l = l.length → l.all P = true
  | [], _ => rfl
  | c :: l, h => by
    have := qgU P l
    simp only [run, qCd] at h
    cases hp : P c with
    | false => simp [hp] at h
    | true => rw [hp] at h; simp only [cond_true, Nat.add_right_cancel_iff] at h; simp [hp, qqh h]
theorem qyK {c : Nat} (h : cLt c = true) : blk c = false ∧ c ≠ 40 := by
  simp only [cLt, Bool.or_eq_true, qB0, decide_eq_true_eq] at h
  refine ⟨?_, by omega⟩
  simp only [blk, Bool.or_eq_false_iff, decide_eq_false_iff_not]
  omega
theorem qxV {s : List Nat} (h : idB s = true) : qeD s (s.length + 1) 0 [] = .inr [⟨1, 0, s.length, s, 0⟩, ⟨0, s.length, s.length, [], 0⟩] := by
  simp only [idB, qB0, Bool.not_eq_true', decide_eq_false_iff_not] at h
  obtain ⟨⟨⟨⟨h1, h2⟩, h3⟩, h4⟩, h5⟩ := h
  cases hs : s with
  | nil => exact absurd hs h1
  | cons c l =>
    rw [hs] at h5
    simp only [idF, qB0, Bool.or_eq_true, decide_eq_true_eq, Nat.lt_irrefl, false_and, or_false] at h5
    have hb := qyK h5.1
    have hsk : sk 0 0 0 (c :: l) = (true, 0) := by
      cases l with
      | nil => simp [sk, hb.1]
      | cons d l => simp [sk, hb.1, hb.2]
    have hall : (c :: l).all cNm = true := by
      rw [List.all_cons, ← qsN l 1 (by omega), h5.2]; simp [cNm, h5.1]
    have hrun := qrF hall
    have hn : qht s 0 = .ok 1 0 s.length s 0 := by
      unfold qht
      rw [List.drop_zero, hs, hsk]
      have : ¬ (0 = (c :: l).length) := by simp
      simp only [this, if_false]
      unfold qpZ
      simp only [List.drop_zero, h5.1, if_true]
      unfold qmd
      rw [List.drop_zero, hrun]
      rw [hs] at h2 h3
      rw [if_neg h2, List.take_length, if_neg h3]
      simp [quU]
    have hn2 : qht s s.length = .ok 0 s.length s.length [] 0 := by
      unfold qht
      rw [List.drop_length]
      simp [sk]
    rw [← hs, qeD, hn]
    simp only [List.nil_append]
    have hl : ∃ f, s.length = f + 1 := ⟨l.length, by rw [hs]; rfl⟩
    obtain ⟨f, hf⟩ := hl
    have h10 : ¬ ((1 : Int) = 0) := by omega
    simp only [h10, if_false]
    conv => lhs; arg 2; rw [hf]
    rw [qeD, hn2]
    simp
theorem qnN {s : List Nat} : ∀ (f a : Nat) (acc L' : List Tk), qeD s f a acc = .inr L' → ∃ T, L' = acc ++ T
  | 0, _, _, _, h => by cases h
  | f + 1, a, acc, L', h => by
    rw [qeD] at h
    split at h
    · cases h
    · rename_i k p e t n hn
      split at h
      · cases h; exact ⟨_, rfl⟩
      · obtain ⟨T, hT⟩ := qnN f _ _ L' h
        exact ⟨⟨k, p, e, t, n⟩ :: T, by rw [hT]; simp⟩
theorem qxq {s : List Nat} {f : Nat} {x : Tk} {L : List Tk} (h : qeD s (f + 1) 0 [] = .inr (x :: L)) (hk : x.k = 1) (ht : x.t = s) : s ≠ [] ∧ s.length ≤ 32 ∧ s ∉ KW ∧ idF 0 s = true := by
  rw [qeD] at h
  split at h
  · cases h
  · rename_i k p e t n hn
    have hx : (⟨k, p, e, t, n⟩ : Tk) = x := by
      split at h
      · simp at h; exact h.1
      · obtain ⟨T, hT⟩ := qnN f _ _ _ h
        simp at hT; exact hT.1.symm
    subst hx
    simp only at hk ht
    subst hk
    unfold qht at hn
    split at hn
    · cases hn
    · rename_i j hj
      by_cases hjs : j = s.length
      · rw [if_pos hjs] at hn; cases hn
      · rw [if_neg hjs] at hn
        cases hr : qpZ s j with
        | bad x => rw [hr] at hn; cases hn
        | ok k' t' n' e' =>
          rw [hr] at hn
          simp only [quU, Nx.ok.injEq] at hn
          obtain ⟨rfl, rfl, rfl, rfl, rfl⟩ := hn
          unfold qpZ at hr
          split at hr
          · cases hr
          · rename_i c l hd
            split at hr
            · rename_i hc
              unfold qmd at hr
              split at hr
              · cases hr
              · rename_i h32
                split at hr
                · cases hr
                · rename_i hkw
                  simp only [Sy.ok.injEq] at hr
                  obtain ⟨-, h2, -, -⟩ := hr
                  have hle := qgU cNm (s.drop j)
                  have hlen : s.length = run cNm (s.drop j) := by
                    have := congrArg List.length h2
                    rw [ht] at this
                    simp only [List.length_take] at this
                    omega
                  have hj0 : j = 0 := by
                    simp only [List.length_drop] at hle
                    have : (s.drop j).length = l.length + 1 := by rw [hd]; rfl
                    simp only [List.length_drop] at this
                    omega
                  subst hj0
                  rw [List.drop_zero] at hd h2 hlen h32 hkw
                  rw [ht] at h2
                  rw [h2] at hkw
                  have hall := qqh hlen.symm
                  refine ⟨by rw [hd]; simp, by omega, hkw, ?_⟩
                  rw [hd] at hall ⊢
                  simp only [List.all_cons, qB0] at hall
                  simp [idF, hc, qsN l 1 (by omega), hall.2]
            · split at hr
              · unfold qui at hr
                split at hr
                · unfold qlD at hr
                  split at hr <;> cases hr
                · split at hr
                  · unfold qlD at hr
                    split at hr <;> cases hr
                  · unfold qlD at hr
                    split at hr <;> cases hr
              · split at hr
                · unfold qn7 at hr
                  split at hr
                  · split at hr <;> cases hr
                  · cases hr
                · unfold qof at hr
                  repeat (first | cases hr | split at hr)
end W

set_option linter.unusedSimpArgs false
set_option linter.unusedVariables false
namespace W
open Go (IntKind BinOp UnOp)
set_option maxRecDepth 20000
theorem qpn {s : List Nat} (hs : ∀ c ∈ s, c < 256) (hz : s.length ≤ 1000000000000) :
    ∃ lo, kl pg 14 [.d (.s s)] [] = some ⟨false, true, .d (.b (idB s)), [], lo⟩ := by
  obtain ⟨lo, hlo, ha⟩ := qwH hs hz (H := [])
  obtain ⟨lo', hr⟩ := qnG (t := s)
  rw [zA (fn := jA) rfl rfl]
  by_cases h1 : 20000 < s.length
  · have hid : idB s = false := by
      have : decide (32 < s.length) = true := by simp; omega
      simp [idB, this]
    rw [if_pos h1] at ha
    have i0 : qiG .lenL (.d (.sl [.agg [.i .i64 20000, .i .i64 34]])) ([] : List Obj) = some (.d (.i .i64 1)) := rfl
    rw [hid]
    simp only [jA, qn, qB9, qq, qCf, qp, qs, qj, qb, kW, qF, qE, qX, qa, qc, kN, reduceCtorEq, qC, qz, qu, qt, qw, qB4, qCe, qe, qH, qh, qB7, qV, ha, qx, qd, qi, ko, qU, zh, qbR, qbP, qk, Nat.reduceEqDiff, qbQ, zx, i0, qf, ke, kD, qCb, jf, Int.reduceEq, decide_false, kq, kw, kK, qBZ, ↓reduceIte, qL, zZ, qS, qW, qo, kx, jt, qr, qG, kn]
    exact ⟨_, jI rfl (Nat.zero_le _) (Nat.zero_le _)⟩
  · rw [if_neg h1] at ha
    have hg : idB s = true → qeD s (s.length + 1) 0 [] = .inr [⟨1, 0, s.length, s, 0⟩, ⟨0, s.length, s.length, [], 0⟩] := qxV
    have hb : ∀ {x : Tk} {L : List Tk}, qeD s (s.length + 1) 0 [] = .inr (x :: L) → x.k = 1 → x.t = s → s ∉ RES → idB s = true := by
      intro x L a b c d
      obtain ⟨q1, q2, q3, q4⟩ := qxq a b c
      simp only [idB, q1, q3, d, q4, decide_false, Bool.not_false, Bool.true_and, Bool.and_true, Bool.not_eq_true', decide_eq_false_iff_not]
      omega
    generalize qeD s (s.length + 1) 0 [] = r at ha hg hb
    cases r with
    | inl q =>
      obtain ⟨p, x⟩ := q
      have hid : idB s = false := by
        cases h : idB s with
        | false => rfl
        | true => cases hg h
      have i0 : qiG .lenL (.d (.sl [.agg [.i .i64 (p : Nat), .i .i64 x]])) ([] : List Obj) = some (.d (.i .i64 1)) := rfl
      rw [hid]
      simp only at ha
      simp only [jA, qn, qB9, qq, qCf, qp, qs, qj, qb, kW, qF, qE, qX, qa, qc, kN, reduceCtorEq, qC, qz, qu, qt, qw, qB4, qCe, qe, qH, qh, qB7, qV, ha, qx, qd, qi, ko, qU, zh, qbR, qbP, qk, Nat.reduceEqDiff, qbQ, zx, i0, qf, ke, kD, qCb, jf, Int.reduceEq, decide_false, kq, kw, kK, qBZ, ↓reduceIte, qL, zZ, qS, qW, qo, kx, jt, qr, qG, kn]
      exact ⟨_, jI rfl (Nat.zero_le _) (Nat.zero_le _)⟩
    | inr L =>
      simp only at ha
      by_cases h2 : L.length = 2
      · obtain ⟨x, y, rfl⟩ : ∃ x y, L = [x, y] := by
          match L, h2 with
          | [x, y], _ => exact ⟨x, y, rfl⟩
        have hlen : qiG .lenL (.d (slD eTk [x, y])) ([] : List Obj) = some (.d (.i .i64 2)) := rfl
        have hia : iaV (.d (slD eTk [x, y])) (.d (.i .i64 0)) 5 none = some (.cp (.agg [.i .i64 x.k, .i .i64 x.p, .i .i64 x.e, .s x.t, .i .i32 x.n])) := rfl
        by_cases e1 : x.k = 1
        · by_cases e2 : x.t = s
          · by_cases e3 : s ∈ RES
            · have hid : idB s = false := by simp [idB, e3]
              have e3' : decide (s ∈ RES) = true := by simp [e3]
              rw [hid]
              rw [e3'] at hr
              simp only [jA, qn, qB9, qq, qCf, qp, qs, qj, qb, kW, qF, qE, qX, qa, qc, kN, reduceCtorEq, qC, qz, qu, qt, qw, qB4, qCe, qe, qH, qh, qB7, qV, ha, qx, qd, qi, ko, qU, zh, qbR, qbP, qk, Nat.reduceEqDiff, qbQ, zx, qfE, qf, ke, kD, qCb, jf, decide_true, kq, kw, kK, ↓reduceIte, hlen, qL, kR, qR, hia, e1, e2, yA, ql, zW, qid, qB1, qnJ, qD, qad, qB6, qre, zX, qCh, ym, hr, jD, qaJ, qCl, qB3, qS, qW, qo, kx, jt, qr, qG, kn]
              exact ⟨_, jI rfl (Nat.zero_le _) (Nat.zero_le _)⟩
            · have hid : idB s = true := hb rfl e1 e2 e3
              have e3' : decide (s ∈ RES) = false := by simp [e3]
              rw [hid]
              rw [e3'] at hr
              simp only [jA, qn, qB9, qq, qCf, qp, qs, qj, qb, kW, qF, qE, qX, qa, qc, kN, reduceCtorEq, qC, qz, qu, qt, qw, qB4, qCe, qe, qH, qh, qB7, qV, ha, qx, qd, qi, ko, qU, zh, qbR, qbP, qk, Nat.reduceEqDiff, qbQ, zx, qfE, qf, ke, kD, qCb, jf, decide_true, kq, kw, kK, ↓reduceIte, hlen, qL, kR, qR, hia, e1, e2, yA, ql, zW, qid, qB1, qnJ, qD, qad, qB6, qre, zX, qCh, ym, hr, jD, qaJ, Bool.not_false, qB3, qS, qW, qo, kx, jt, qr, qG, kn]
              exact ⟨_, jI rfl (Nat.zero_le _) (Nat.zero_le _)⟩
          · have hid : idB s = false := by
              cases h : idB s with
              | false => rfl
              | true =>
                have := hg h
                simp only [Sum.inr.injEq, List.cons.injEq] at this
                exact absurd (by rw [this.1]) e2
            have e2' : (x.t = s) = False := eq_false e2
            rw [hid]
            simp only [jA, qn, qB9, qq, qCf, qp, qs, qj, qb, kW, qF, qE, qX, qa, qc, kN, reduceCtorEq, qC, qz, qu, qt, qw, qB4, qCe, qe, qH, qh, qB7, qV, ha, qx, qd, qi, ko, qU, zh, qbR, qbP, qk, Nat.reduceEqDiff, qbQ, zx, qfE, qf, ke, kD, qCb, jf, decide_true, kq, kw, kK, ↓reduceIte, hlen, qL, kR, qR, hia, e1, yA, ql, zW, qid, qB1, qnJ, qD, qad, qB6, qre, zX, qCh, ym, e2', decide_false, qBZ, zZ, qS, qW, qo, kx, jt, qr, qG, kn]
            exact ⟨_, jI rfl (Nat.zero_le _) (Nat.zero_le _)⟩
        · have hid : idB s = false := by
            cases h : idB s with
            | false => rfl
            | true =>
              have := hg h
              simp only [Sum.inr.injEq, List.cons.injEq] at this
              exact absurd (by rw [this.1]) e1
          have e1' : (x.k = 1) = False := eq_false e1
          rw [hid]
          simp only [jA, qn, qB9, qq, qCf, qp, qs, qj, qb, kW, qF, qE, qX, qa, qc, kN, reduceCtorEq, qC, qz, qu, qt, qw, qB4, qCe, qe, qH, qh, qB7, qV, ha, qx, qd, qi, ko, qU, zh, qbR, qbP, qk, Nat.reduceEqDiff, qbQ, zx, qfE, qf, ke, kD, qCb, jf, decide_true, kq, kw, kK, ↓reduceIte, hlen, qL, kR, qR, hia, yA, ql, zW, qid, qB1, qnJ, qD, qad, e1', decide_false, qBZ, zZ, qS, qW, qo, kx, jt, qr, qG, kn]
          exact ⟨_, jI rfl (Nat.zero_le _) (Nat.zero_le _)⟩
      · have hid : idB s = false := by
          cases h : idB s with
          | false => rfl
          | true =>
            have := hg h
            simp only [Sum.inr.injEq] at this
            rw [this] at h2
            exact absurd rfl h2
        have h2' : ((L.length : Int) = 2) = False := by rw [eq_iff_iff]; simp only [iff_false]; omega
        have hlen : qiG .lenL (.d (slD eTk L)) ([] : List Obj) = some (.d (.i .i64 (L.length : Nat))) := qcG
        rw [hid]
        simp only [jA, qn, qB9, qq, qCf, qp, qs, qj, qb, kW, qF, qE, qX, qa, qc, kN, reduceCtorEq, qC, qz, qu, qt, qw, qB4, qCe, qe, qH, qh, qB7, qV, ha, qx, qd, qi, ko, qU, zh, qbR, qbP, qk, Nat.reduceEqDiff, qbQ, zx, qfE, qf, ke, kD, qCb, jf, decide_true, kq, kw, kK, ↓reduceIte, hlen, h2', decide_false, qL, kR, qBZ, zZ, qS, qW, qo, kx, jt, qr, qG, kn]
        exact ⟨_, jI rfl (Nat.zero_le _) (Nat.zero_le _)⟩
end W

set_option linter.unusedSimpArgs false
set_option linter.unusedVariables false
namespace W
open Go (IntKind BinOp UnOp)
set_option maxRecDepth 20000
def small : List Nat → Bool
  | [] => true
  | c :: l => bif Nat.ble c 255 then small l else false
theorem qkG {t : List Nat} : small t = true ↔ ∀ c ∈ t, c < 256 := by
  induction t with
  | nil => simp [small]
  | cons c l ih =>
    simp only [small, qB5, List.mem_cons, forall_eq_or_imp]
    by_cases h : c ≤ 255
    · rw [if_pos (Nat.ble_eq_true_of_le h), ih]; constructor
      · exact fun q => ⟨by omega, q⟩
      · exact fun q => q.2
    · rw [if_neg (fun q => h (Nat.le_of_ble_eq_true q))]; constructor
      · intro q; cases q
      · exact fun q => absurd q.1 (by omega)
def idX (vs : List V) (H : List Obj) : Option Cr :=
  match vs with
  | [.d (.s t)] => bif small t && Nat.ble t.length 1000000000000 then some ⟨false, true, .d (.b (idB t)), H, H.length⟩ else none
  | _ => none
theorem qzP {vs : List V} {H : List Obj} {r : Cr} (h : idX vs H = some r) : H.length ≤ r.H.length ∧ (∀ id, id < r.lo → id < H.length → r.H[id]? = H[id]?) ∧ (r.same = true → r.H = H) := by
  unfold idX at h
  split at h
  · rw [qB5] at h
    split at h
    · exact qjM h
    · cases h
  · cases h
def pgK : Pg := ⟨fun n => bif qCa n 14 || qCa n 15 || qCa n 302 then none else pg.fn n, fun i vs H => bif qCa i 14 || qCa i 15 then idX vs H else bif qCa i 302 then ixX vs H else pg.ext i vs H⟩
theorem qtH : yc pgK.ext := by
  intro i vs H r h
  simp only [pgK, qB5] at h
  split at h
  · exact qzP h
  · split at h
    · exact qsp h
    · exact qoY _ _ _ _ h
theorem qvk : isD (qgd pgK 4000 8 [] []) (.b true) = true := by decide +kernel
theorem qmn : ∃ lo, kl pgK 8 [] [] = some ⟨false, true, .d (.b true), [], lo⟩ := qnt qtH qvk
theorem qvU {s : List Nat} (hs : ∀ c ∈ s, c < 256) (hz : s.length ≤ 1000000000000) {H : List Obj} : idX [.d (.s s)] H = some ⟨false, true, .d (.b (idB s)), H, H.length⟩ := by
  have h1 : small s = true := qkG.2 hs
  have h2 : Nat.ble s.length 1000000000000 = true := Nat.ble_eq_true_of_le hz
  simp only [idX, h1, h2]; rfl
theorem qxf {s : List Nat} (hs : ∀ c ∈ s, c < 256) (hz : s.length ≤ 1000000000000) {H : List Obj} : kl pgK 14 [.d (.s s)] H = some ⟨false, true, .d (.b (idB s)), H, H.length⟩ := by
  rw [qec]; unfold kQ
  rw [show pgK.fn 14 = none from rfl]
  exact qvU hs hz
theorem qxP {s : List Nat} (hs : ∀ c ∈ s, c < 256) (hz : s.length ≤ 1000000000000) {H : List Obj} : kl pgK 15 [.d (.s s)] H = some ⟨false, true, .d (.b (idB s)), H, H.length⟩ := by
  rw [qec]; unfold kQ
  rw [show pgK.fn 15 = none from rfl]
  exact qvU hs hz
end W

/- A call of no arguments whose result is data is the same beside whatever objects there are. -/
set_option linter.unusedSimpArgs false
set_option linter.unusedVariables false
namespace W
open Go (World Value Addr IntKind Program TypeId FuncId)
theorem qun {P : Program} {M : Maps} {call : Call} (hsim : yG P M call) {i : Nat} {x : D} {H1 : List Obj} {lo : Nat} {same : Bool} (h : call i [] [] = some ⟨false, same, .d x, H1, lo⟩)
    {f' : FuncId} (hl : look M.fm f' = some i) {g : Gh} {w : World} {H : List Obj} (hH : RelH M g w H) : qmh P f' #[] w (zB M g w ⟨false, true, .d x, H, H.length⟩) := by
  have hH0 : RelH M { n := 0, φ := fun _ => 0, own := fun _ => none, pub := g.pub } w [] := ⟨rfl, fun id o h => by simp at h, fun b hb => ⟨rfl, (hH.fresh b hb).2⟩, hH.gl⟩
  have hd := hsim i [] [] _ h f' hl _ w [] (.nil _) hH0
  intro o a K Q hK hQ
  refine hd o a K Q ?_ ?_
  · rintro v w' ⟨_, g1, hR1, hE, hA⟩
    refine hK v w' ?_
    have hb : ∀ b, b < w.heap.size → w'.heap[b]? = w.heap[b]? ∧ g1.pub b = g.pub b := fun b hb => (hE.keep b hb (.inl rfl)).2
    have hg : Grow g w { n := g.n, φ := g.φ, own := fun b => if b < w.heap.size then g.own b else none, pub := g1.pub } w' := ⟨hE.size, hE.pub, hE.cell⟩
    have hlt : ∀ b ℓ, g.own b = some ℓ → b < w.heap.size := fun b ℓ ho => by
      rcases Nat.lt_or_ge b w.heap.size with h1 | h1
      · exact h1
      · rw [(hH.fresh b h1).1] at ho; cases ho
    have hk : ∀ ℓ, Kept g w { n := g.n, φ := g.φ, own := fun b => if b < w.heap.size then g.own b else none, pub := g1.pub } w' ℓ := fun ℓ => ⟨fun b ho => by
      have := hlt b ℓ ho
      exact ⟨by simp only [this, if_true]; exact ho, (hb b this).1, (hb b this).2⟩⟩
    refine ⟨rfl, { n := g.n, φ := g.φ, own := fun b => if b < w.heap.size then g.own b else none, pub := g1.pub }, ⟨hH.n, fun id o ho => (hH.h id o ho).mono hg (qB2 _) (fun _ _ => rfl) (by rw [hH.n]; exact (List.getElem?_eq_some_iff.1 ho).1) (hk _) (fun i => hk _), fun b hb' => ⟨?_, (hR1.fresh b hb').2⟩, hH.gl.mono hg⟩, ⟨hg, qB2 _, fun _ _ => rfl, fun b hb' ho => ⟨by simp only [hb', if_true], (hb b hb').1, (hb b hb').2⟩, hE.io⟩, ?_⟩
    · have : ¬ b < w.heap.size := by have := hE.size; omega
      simp only [this, if_false]
    · cases hA with
      | s hA => cases hA with
        | d _ _ hr => exact .s (.d _ _ hr)
  · rintro ch w' ⟨hp, _⟩
    cases hp
theorem qmN {P : Program} {M : Maps} {call : Call} (hsim : yG P M call) {i : Nat} {l : List D} {x : D} {H1 : List Obj} {lo : Nat} {same : Bool} (h : call i (l.map .d) [] = some ⟨false, same, .d x, H1, lo⟩)
    {f' : FuncId} (hl : look M.fm f' = some i) {g : Gh} {w : World} {H : List Obj} (hH : RelH M g w H) {argv : List Value} (ha : ArgsRep M g w 0 (l.map .d) argv) : qmh P f' argv.toArray w (zB M g w ⟨false, true, .d x, H, H.length⟩) := by
  have hH0 : RelH M { n := 0, φ := fun _ => 0, own := fun _ => none, pub := g.pub } w [] := ⟨rfl, fun id o h => by simp at h, fun b hb => ⟨rfl, (hH.fresh b hb).2⟩, hH.gl⟩
  have ha0 : ArgsRep M { n := 0, φ := fun _ => 0, own := fun _ => none, pub := g.pub } w 0 (l.map .d) argv := by
    clear h
    have hk' : ∀ k, ArgsRep M g w k (l.map .d) argv → ArgsRep M { n := 0, φ := fun _ => 0, own := fun _ => none, pub := g.pub } w k (l.map .d) argv := by
      clear ha
      induction l generalizing argv with
      | nil => intro k ha; cases ha; exact .nil _
      | cons y l ih =>
        intro k ha
        rw [qB4] at ha ⊢
        cases ha with
        | cons h0 ha =>
          refine .cons ?_ (ih _ ha)
          cases h0 with
          | s h0 => cases h0 with
            | d _ _ hr => exact .s (.d _ _ hr)
    exact hk' 0 ha
  have hd := hsim i (l.map .d) [] _ h f' hl _ w argv ha0 hH0
  intro o a K Q hK hQ
  refine hd o a K Q ?_ ?_
  · rintro v w' ⟨_, g1, hR1, hE, hA⟩
    refine hK v w' ?_
    have hb : ∀ b, b < w.heap.size → w'.heap[b]? = w.heap[b]? ∧ g1.pub b = g.pub b := fun b hb => (hE.keep b hb (.inl rfl)).2
    have hg : Grow g w { n := g.n, φ := g.φ, own := fun b => if b < w.heap.size then g.own b else none, pub := g1.pub } w' := ⟨hE.size, hE.pub, hE.cell⟩
    have hlt : ∀ b ℓ, g.own b = some ℓ → b < w.heap.size := fun b ℓ ho => by
      rcases Nat.lt_or_ge b w.heap.size with h1 | h1
      · exact h1
      · rw [(hH.fresh b h1).1] at ho; cases ho
    have hk : ∀ ℓ, Kept g w { n := g.n, φ := g.φ, own := fun b => if b < w.heap.size then g.own b else none, pub := g1.pub } w' ℓ := fun ℓ => ⟨fun b ho => by
      have := hlt b ℓ ho
      exact ⟨by simp only [this, if_true]; exact ho, (hb b this).1, (hb b this).2⟩⟩
    refine ⟨rfl, { n := g.n, φ := g.φ, own := fun b => if b < w.heap.size then g.own b else none, pub := g1.pub }, ⟨hH.n, fun id o ho => (hH.h id o ho).mono hg (qB2 _) (fun _ _ => rfl) (by rw [hH.n]; exact (List.getElem?_eq_some_iff.1 ho).1) (hk _) (fun i => hk _), fun b hb' => ⟨?_, (hR1.fresh b hb').2⟩, hH.gl.mono hg⟩, ⟨hg, qB2 _, fun _ _ => rfl, fun b hb' ho => ⟨by simp only [hb', if_true], (hb b hb').1, (hb b hb').2⟩, hE.io⟩, ?_⟩
    · have : ¬ b < w.heap.size := by have := hE.size; omega
      simp only [this, if_false]
    · cases hA with
      | s hA => cases hA with
        | d _ _ hr => exact .s (.d _ _ hr)
  · rintro ch w' ⟨hp, _⟩
    cases hp
end W

/- What stands in for strings.IndexByte, strconv.toError and scan.Keywords does what these do. -/
set_option linter.unusedSimpArgs false
set_option linter.unusedVariables false
namespace W
open Go (World Value Addr IntKind Program TypeId FuncId Func Calls Code)
def IxC (P : Program) (K : FuncId) : Prop :=
  ∀ (s : ByteArray) (c : Int) (w : World), Calls P K #[.string s, .int .u8 c] w fun e w' => e = .returned (.int .i64 (Go.Lib.indexByte s.data.toList c.toNat.toUInt8)) ∧ w' = w
def TeC (P : Program) (K : FuncId) (gl : Nat) (code : Int) : Prop :=
  ∀ (fn s : ByteArray) (base bits : Int) (ev : Value) (w : World), s.size ≤ 281474976710656 → w.cell? ⟨gl, 0, none⟩ = some ev → (ev = .nilIface ∨ ∃ te pe, ev = .iface te pe) →
    Calls P K #[.string fn, .string s, .int .i64 base, .int .i64 bits, .iface 323 (.int .i64 code)] w fun e w' => ∃ N, e = .returned (.iface 325 (.pointer (some ⟨N, 0, none⟩))) ∧ Go.RowKit.Below w.heap.size w w'
theorem qwZ (c : Nat) : ∀ l : List UInt8, ixN (c % 256) (l.map (·.toNat)) = Go.Lib.indexByte l c.toUInt8
  | [] => rfl
  | b :: l => by
    have ih := qwZ c l
    have hge := Go.Lib.indexByte_ge l c.toUInt8
    have hb : qCa b.toNat (c % 256) = (b == c.toUInt8) := by
      have hc : c.toUInt8.toNat = c % 256 := by simp [Nat.toUInt8]
      rw [← hc]
      by_cases h : b = c.toUInt8
      · subst h; simp
      · have h2 : ¬ b.toNat = c.toUInt8.toNat := fun e => h (UInt8.toNat_inj.1 e)
        have h3 : qCa b.toNat c.toUInt8.toNat = false := by rw [Bool.eq_false_iff]; intro e; exact h2 (qCg e)
        rw [h3]; symm; simpa using h
    simp only [qB4, ixN, Go.Lib.indexByte, hb]
    cases b == c.toUInt8 with
    | true => rfl
    | false =>
      simp only [cond_false, qBZ, if_false]
      rw [ih]
      generalize Go.Lib.indexByte l c.toUInt8 = v at hge ⊢
      cases v with
      | ofNat n => simp
      | negSucc m =>
        have : m = 0 := by omega
        subst this
        rfl
theorem qt9 {P : Program} {M : Maps} {K : FuncId} (hI : IxC P K) {fn : Func} {c : Code} (hf : P.funcs[K]? = some fn) (hname : (fn.name == "runtime.NumGoroutine") = false) (hbody : fn.body = some c)
    {g : Gh} {w : World} {vs : List V} {H : List Obj} {r : Cr} (h : ixX vs H = some r) {argv : List Value} (ha : ArgsRep M g w 0 vs argv) (hH : RelH M g w H) : qmh P K argv.toArray w (zB M g w r) := by
  refine qgn ⟨?_, ?_⟩
  · unfold ixX at h
    split at h
    · simp only [Option.some.injEq] at h
      subst h
      cases ha with
      | cons h0 ha => cases ha with
        | cons h1 ha => cases ha; cases h0 with
          | s h0 => cases h0 with
            | d _ _ h0 => cases h0 with
              | s _ x hx => cases h1 with
                | s h1 => cases h1 with
                  | d _ _ h1 => cases h1 with
                    | i k n =>
                      refine (hI x _ w).mono ?_
                      rintro e w' ⟨rfl, rfl⟩
                      refine ⟨rfl, g, hH, Evo.refl g w', .s (.d _ _ ?_)⟩
                      rw [← hx, qwZ]
                      exact .i _ _
    · cases h
  · have hn : ¬ fn.name = "runtime.NumGoroutine" := by simpa using hname
    simp [Go.callFunc, hf, hn, hbody]
theorem qxD {P : Program} {M : Maps} {K : FuncId} {gS gR : Nat} (hS : TeC P K gS 2) (hR : TeC P K gR 1) (mS : gS ∈ M.gi) (mR : gR ∈ M.gi) (m2 : look M.tm 325 = some 325) (m0 : ∀ t', look M.tm t' = some 323 → t' = 323)
    {fn : Func} {c : Code} (hf : P.funcs[K]? = some fn) (hname : (fn.name == "runtime.NumGoroutine") = false) (hbody : fn.body = some c)
    {g : Gh} {w : World} {vs : List V} {H : List Obj} {r : Cr} (h : teX vs H = some r) {argv : List Value} (ha : ArgsRep M g w 0 vs argv) (hH : RelH M g w H) : qmh P K argv.toArray w (zB M g w r) := by
  refine qgn ⟨?_, ?_⟩
  · unfold teX at h
    split at h
    · rename_i f t k1 k2 e
      rw [qB5] at h
      split at h
      · rename_i hb
        simp only [Option.some.injEq] at h
        subst h
        simp only [qB0, Bool.or_eq_true, Nat.ble_eq] at hb
        have hcode : e = 1 ∨ e = 2 := by
          rcases hb.1 with h | h
          · left; rw [qk2] at h; exact of_decide_eq_true h
          · right; rw [qk2] at h; exact of_decide_eq_true h
        obtain ⟨⟨evS, hvS, hevS⟩, _⟩ := hH.gl.2 gS mS
        obtain ⟨⟨evR, hvR, hevR⟩, _⟩ := hH.gl.2 gR mR
        cases ha with
        | cons h0 ha => cases ha with
          | cons h1 ha => cases ha with
            | cons h2 ha => cases ha with
              | cons h3 ha => cases ha with
                | cons h4 ha => cases ha; cases h0 with
                  | s h0 => cases h0 with
                    | d _ _ h0 => cases h0 with
                      | s _ x hx => cases h1 with
                        | s h1 => cases h1 with
                          | d _ _ h1 => cases h1 with
                            | s _ y hy => cases h2 with
                              | s h2 => cases h2 with
                                | d _ _ h2 => cases h2 with
                                  | i _ _ => cases h3 with
                                    | s h3 => cases h3 with
                                      | d _ _ h3 => cases h3 with
                                        | i _ _ => cases h4 with
                                          | s h4 => cases h4 with
                                            | ifc _ t' _ cv ht hcv => cases hcv with
                                              | d _ _ hcv => cases hcv with
                                                | i _ _ =>
                                                  have e1 := m0 t' ht
                                                  subst e1
                                                  have hsz : y.size ≤ 281474976710656 := by
                                                    have := congrArg List.length hy
                                                    rw [List.length_map] at this
                                                    have h2 : y.data.toList.length = y.size := Array.length_toList
                                                    omega
                                                  have post : ∀ e w', (∃ N, e = .returned (.iface 325 (.pointer (some ⟨N, 0, none⟩))) ∧ Go.RowKit.Below w.heap.size w w') → zB M g w ⟨false, true, .ifc 325 .undef, H, H.length⟩ e w' := by
                                                    rintro e w' ⟨N, rfl, hB⟩
                                                    obtain ⟨q1, q2⟩ := quK hH hB
                                                    exact ⟨rfl, g, q1, q2, .s (.ifc _ 325 _ _ m2 (.undef _))⟩
                                                  rcases hcode with rfl | rfl
                                                  · exact (hR x y _ _ evR w hsz hvR hevR).mono post
                                                  · exact (hS x y _ _ evS w hsz hvS hevS).mono post
      · cases h
    · cases h
  · have hn : ¬ fn.name = "runtime.NumGoroutine" := by simpa using hname
    simp [Go.callFunc, hf, hn, hbody]
end W

/- The contracts of strings.IndexByte and strconv.toError at this program, laid by the shelf's program. -/
namespace Go.Proofs
open Go.Shelf
def Tryz.lays137_ren : Go.Shelf.Ren := ⟨fun | 137 => 257 | 217 => 302 | 266 => 323 | n => n, fun | 9 => 9 | 5 => 5 | 3 => 3 | n => n, fun | n => n⟩
theorem Tryz.lays137 : Go.Proofs.Lays.n137 Tryz.prog Tryz.lays137_ren := {
  mixed := by kernel_rfl
  f137 := Tryz.func257.trans (congrArg some (by kernel_rfl))
  f217 := Tryz.func302.trans (congrArg some (by kernel_rfl))
  f266 := Tryz.func323.trans (congrArg some (by kernel_rfl))
  t3 := Tryz.underlying3
  a3 := Tryz.isAgg3
  z3 := Tryz.sizeOf3
  v3 := Tryz.zeroValue3
  t5 := Tryz.underlying5
  a5 := Tryz.isAgg5
  z5 := Tryz.sizeOf5
  v5 := Tryz.zeroValue5
  t9 := Tryz.underlying9
  a9 := Tryz.isAgg9
  z9 := Tryz.sizeOf9
  v9 := Tryz.zeroValue9 }
open Go.RowKit in
theorem Tryz.strings_IndexByte (s : ByteArray) (c : Int) (w : World) :
    Calls Tryz.prog 257 #[.string s, .int .u8 c] w fun e w' => e = .returned (.int .i64 (Lib.indexByte s.data.toList c.toNat.toUInt8)) ∧ w' = w := Any.strings_IndexByte Tryz.lays137 s c w
def Tryz.lays217_ren : Go.Shelf.Ren := ⟨fun | 217 => 302 | 266 => 323 | n => n, fun | 9 => 9 | 5 => 5 | 3 => 3 | n => n, fun | n => n⟩
theorem Tryz.lays217 : Go.Proofs.Lays.n217 Tryz.prog Tryz.lays217_ren := {
  mixed := by kernel_rfl
  f217 := Tryz.func302.trans (congrArg some (by kernel_rfl))
  f266 := Tryz.func323.trans (congrArg some (by kernel_rfl))
  t3 := Tryz.underlying3
  a3 := Tryz.isAgg3
  z3 := Tryz.sizeOf3
  v3 := Tryz.zeroValue3
  t5 := Tryz.underlying5
  a5 := Tryz.isAgg5
  z5 := Tryz.sizeOf5
  v5 := Tryz.zeroValue5
  t9 := Tryz.underlying9
  a9 := Tryz.isAgg9
  z9 := Tryz.sizeOf9
  v9 := Tryz.zeroValue9 }
open Go.RowKit Go.Lib in
theorem Tryz.stringslite_IndexByte (s : ByteArray) (c : Int) (w : World) :
    Calls Tryz.prog 302 #[.string s, .int .u8 c] w fun e w' => e = .returned (.int .i64 (Lib.indexByte s.data.toList c.toNat.toUInt8)) ∧ w' = w := Any.stringslite_IndexByte Tryz.lays217 s c w
def Tryz.laysPu17_ren : Go.Shelf.Ren := ⟨fun | 17 => 304 | 21 => 326 | 22 => 327 | 23 => 328 | 24 => 329 | 25 => 342 | 27 => 344 | 26 => 343 | 28 => 353 | 29 => 363 | 30 => 364 | 31 => 365 | 32 => 366 | 33 => 367 | 35 => 369 | 34 => 368 | 36 => 370 | 37 => 371 | 38 => 372 | 39 => 373 | 40 => 374 | n => n, fun | 9 => 9 | 3 => 3 | 24 => 278 | 34 => 323 | 4 => 4 | 39 => 325 | 44 => 334 | 37 => 43 | 0 => 0 | 47 => 342 | 50 => 345 | 48 => 343 | 2 => 2 | 52 => 352 | 22 => 276 | 5 => 5 | 55 => 355 | 59 => 358 | 60 => 281 | 20 => 20 | 61 => 359 | 36 => 153 | 65 => 362 | 66 => 363 | 67 => 182 | n => n, fun | 0 => 3 | 1 => 4 | 2 => 5 | 3 => 6 | 4 => 7 | n => n⟩
theorem Tryz.laysPu17 : Go.Proofs.LaysPu.n17 Tryz.prog Tryz.laysPu17_ren := {
  mixed := by kernel_rfl
  f17 := Tryz.func304.trans (congrArg some (by kernel_rfl))
  f21 := Tryz.func326.trans (congrArg some (by kernel_rfl))
  f22 := Tryz.func327.trans (congrArg some (by kernel_rfl))
  f23 := Tryz.func328.trans (congrArg some (by kernel_rfl))
  f24 := Tryz.func329.trans (congrArg some (by kernel_rfl))
  f25 := Tryz.func342.trans (congrArg some (by kernel_rfl))
  f26 := Tryz.func343.trans (congrArg some (by kernel_rfl))
  f27 := Tryz.func344.trans (congrArg some (by kernel_rfl))
  f28 := Tryz.func353.trans (congrArg some (by kernel_rfl))
  f29 := Tryz.func363.trans (congrArg some (by kernel_rfl))
  f30 := Tryz.func364.trans (congrArg some (by kernel_rfl))
  f31 := Tryz.func365.trans (congrArg some (by kernel_rfl))
  f32 := Tryz.func366.trans (congrArg some (by kernel_rfl))
  f33 := Tryz.func367.trans (congrArg some (by kernel_rfl))
  f34 := Tryz.func368.trans (congrArg some (by kernel_rfl))
  f35 := Tryz.func369.trans (congrArg some (by kernel_rfl))
  f36 := Tryz.func370.trans (congrArg some (by kernel_rfl))
  f37 := Tryz.func371.trans (congrArg some (by kernel_rfl))
  f38 := Tryz.func372.trans (congrArg some (by kernel_rfl))
  f39 := Tryz.func373.trans (congrArg some (by kernel_rfl))
  f40 := Tryz.func374.trans (congrArg some (by kernel_rfl))
  t0 := Tryz.underlying0
  a0 := Tryz.isAgg0
  z0 := Tryz.sizeOf0
  v0 := Tryz.zeroValue0
  i0 := by kernel_rfl
  t2 := Tryz.underlying2
  a2 := Tryz.isAgg2
  z2 := Tryz.sizeOf2
  v2 := Tryz.zeroValue2
  i2 := by kernel_rfl
  t3 := Tryz.underlying3
  a3 := Tryz.isAgg3
  z3 := Tryz.sizeOf3
  v3 := Tryz.zeroValue3
  i3 := by kernel_rfl
  t4 := Tryz.underlying4
  a4 := Tryz.isAgg4
  z4 := Tryz.sizeOf4
  v4 := Tryz.zeroValue4
  i4 := by kernel_rfl
  t5 := Tryz.underlying5
  a5 := Tryz.isAgg5
  z5 := Tryz.sizeOf5
  v5 := Tryz.zeroValue5
  i5 := by kernel_rfl
  t9 := Tryz.underlying9
  a9 := Tryz.isAgg9
  z9 := Tryz.sizeOf9
  v9 := Tryz.zeroValue9
  i9 := by kernel_rfl
  t20 := Tryz.underlying20
  a20 := Tryz.isAgg20
  z20 := Tryz.sizeOf20
  v20 := Tryz.zeroValue20
  i20 := by kernel_rfl
  t22 := Tryz.underlying276
  a22 := Tryz.isAgg276
  z22 := Tryz.sizeOf276
  v22 := Tryz.zeroValue276
  i22 := by kernel_rfl
  t24 := Tryz.underlying278
  a24 := Tryz.isAgg278
  z24 := Tryz.sizeOf278
  v24 := Tryz.zeroValue278
  i24 := by kernel_rfl
  t34 := Tryz.underlying323
  a34 := Tryz.isAgg323
  z34 := Tryz.sizeOf323
  v34 := Tryz.zeroValue323
  i34 := by kernel_rfl
  c34 := by kernel_rfl
  t36 := Tryz.underlying153
  a36 := Tryz.isAgg153
  z36 := Tryz.sizeOf153
  v36 := Tryz.zeroValue153
  i36 := by kernel_rfl
  t37 := Tryz.underlying43
  a37 := Tryz.isAgg43
  z37 := Tryz.sizeOf43
  v37 := Tryz.zeroValue43
  i37 := by kernel_rfl
  t39 := Tryz.underlying325
  a39 := Tryz.isAgg325
  z39 := Tryz.sizeOf325
  v39 := Tryz.zeroValue325
  i39 := by kernel_rfl
  t44 := Tryz.underlying334
  a44 := Tryz.isAgg334
  z44 := Tryz.sizeOf334
  v44 := Tryz.zeroValue334
  i44 := by kernel_rfl
  t47 := Tryz.underlying342
  a47 := Tryz.isAgg342
  z47 := Tryz.sizeOf342
  v47 := Tryz.zeroValue342
  i47 := by kernel_rfl
  t48 := Tryz.underlying343
  a48 := Tryz.isAgg343
  z48 := Tryz.sizeOf343
  v48 := Tryz.zeroValue343
  i48 := by kernel_rfl
  t50 := Tryz.underlying345
  a50 := Tryz.isAgg345
  z50 := Tryz.sizeOf345
  v50 := Tryz.zeroValue345
  i50 := by kernel_rfl
  t52 := Tryz.underlying352
  a52 := Tryz.isAgg352
  z52 := Tryz.sizeOf352
  v52 := Tryz.zeroValue352
  i52 := by kernel_rfl
  t55 := Tryz.underlying355
  a55 := Tryz.isAgg355
  z55 := Tryz.sizeOf355
  v55 := Tryz.zeroValue355
  i55 := by kernel_rfl
  t59 := Tryz.underlying358
  a59 := Tryz.isAgg358
  z59 := Tryz.sizeOf358
  v59 := Tryz.zeroValue358
  i59 := by kernel_rfl
  t60 := Tryz.underlying281
  a60 := Tryz.isAgg281
  z60 := Tryz.sizeOf281
  v60 := Tryz.zeroValue281
  i60 := by kernel_rfl
  t61 := Tryz.underlying359
  a61 := Tryz.isAgg359
  z61 := Tryz.sizeOf359
  t65 := Tryz.underlying362
  a65 := Tryz.isAgg362
  z65 := Tryz.sizeOf362
  v65 := Tryz.zeroValue362
  i65 := by kernel_rfl
  t66 := Tryz.underlying363
  a66 := Tryz.isAgg363
  z66 := Tryz.sizeOf363
  v66 := Tryz.zeroValue363
  i66 := by kernel_rfl
  t67 := Tryz.underlying182
  a67 := Tryz.isAgg182
  z67 := Tryz.sizeOf182
  v67 := Tryz.zeroValue182
  i67 := by kernel_rfl
  g0 := by kernel_rfl
  m0 := by kernel_rfl
  g1 := by kernel_rfl
  m1 := by kernel_rfl
  g2 := by kernel_rfl
  m2 := by kernel_rfl
  g3 := by kernel_rfl
  m3 := by kernel_rfl
  g4 := by kernel_rfl
  m4 := by kernel_rfl }
open Go.RowKit in
theorem Tryz.toError_syntax (fn s : ByteArray) (base bits : Int) (ev : Value) (w : World) (hlim : s.size ≤ 281474976710656) (hv : w.cell? ⟨(Tryz.laysPu17_ren.g 0), 0, none⟩ = some ev) (hev : ev = .nilIface ∨ ∃ te pe, ev = .iface te pe) :
    Calls Tryz.prog 304 #[.string fn, .string s, .int .i64 base, .int .i64 bits, .iface 323 (.int .i64 2)] w fun e w' => ∃ N, e = .returned (.iface 325 (.pointer (some ⟨N, 0, none⟩))) ∧ w.heap.size ≤ N ∧ w'.heap[N]? = some (.cells #[.string fn, .string s, ev] (Tryz.laysPu17_ren.t 44) (0, 0)) ∧ Below w.heap.size w w' := AnyPu.strconv_toError_syntax Tryz.laysPu17 fn s base bits ev w hlim hv hev
open Go.RowKit in
theorem Tryz.toError_range (fn s : ByteArray) (base bits : Int) (ev : Value) (w : World) (hlim : s.size ≤ 281474976710656) (hv : w.cell? ⟨(Tryz.laysPu17_ren.g 1), 0, none⟩ = some ev) (hev : ev = .nilIface ∨ ∃ te pe, ev = .iface te pe) :
    Calls Tryz.prog 304 #[.string fn, .string s, .int .i64 base, .int .i64 bits, .iface 323 (.int .i64 1)] w fun e w' => ∃ N, e = .returned (.iface 325 (.pointer (some ⟨N, 0, none⟩))) ∧ w.heap.size ≤ N ∧ w'.heap[N]? = some (.cells #[.string fn, .string s, ev] (Tryz.laysPu17_ren.t 44) (0, 0)) ∧ Below w.heap.size w w' := AnyPu.strconv_toError_range Tryz.laysPu17 fn s base bits ev w hlim hv hev
end Go.Proofs

/-
  From the small semantics to a law's statement: what is read stays; the answer is true.
-/
set_option linter.unusedSimpArgs false
set_option linter.unusedVariables false
namespace W
open Go (World Value Addr IntKind Program TypeId FuncId Operand Act Oper Next Result Sem Ending Exit Code Func DataW MemPlace Calls trodAll_cons_mk)
open Go.ChangeShapes Go.RowKit Go.WideShapes Go.ChangeAt
section
variable {P : Program} {Hh : Type} {enc : TypeId × Value → Hh}
theorem qso {W W' : World} (hb : ∀ b, b < W.heap.size → W'.heap[b]? = W.heap[b]?) {p : MemPlace} (hp : p.block < W.heap.size) : W.sameAt W' p := by
  cases p with
  | cell b o => exact qbn (hb b hp) o
  | map b => exact hb b hp
theorem qiJ (hl : Go.laidOutB P = true) {W W' : World} (hb : ∀ b, b < W.heap.size → W'.heap[b]? = W.heap[b]?) {sp : Nat → Bool} : ∀ {ts : List TypeId} {vs : List Value} {ds : List (DataW Hh)} {ps : List MemPlace}, (∀ t ∈ ts, P.readableRec t = true ∧ t < P.types.size) →
    DataW.TrodAll enc P W 0 (fun _ => true) true ts vs ds ps → (∀ p ∈ ps, p.block < W.heap.size) → (∀ p ∈ ps, sp p.block = true) → DataW.TrodAll enc P W' 0 sp true ts vs ds ps
  | [], vs, ds, ps, hr, h, hlt, hs => by
    obtain ⟨rfl, rfl, rfl⟩ := trodAll_nil h
    exact trodAll_mk0
  | t :: ts, vs, ds, ps, hr, h, hlt, hs => by
    obtain ⟨v, vs', d, ds', p, q, rfl, rfl, rfl, hd, hrest⟩ := trodAll_cons h
    refine trodAll_cons_mk (Go.WideElems.Trod_stays hl (hr t (by simp)).1 (hr t (by simp)).2 hd (fun x hx => qso hb (hlt x (by simp [hx]))) (fun x hx => hs x (by simp [hx])))
      (qiJ hl hb (fun u hu => hr u (by simp [hu])) hrest (fun x hx => hlt x (by simp [hx])) (fun x hx => hs x (by simp [hx])))
theorem qvY {f : Func} {s : Go.ChangeSpec} {apart fresh handsOn again : Bool} {W W' : World} {args : Array Value} {ds gs : List (DataW Hh)} {before : List MemPlace} {tb : TypeId} (hvars : s.vars = [])
    (hW : DataW.Whole enc P f.params.toList s.vars apart W args.toList ds gs before) (hs : s.fn Hh ds = { results := [.lit (.bool true)], args := ds }) (hres : f.resultTypes = #[tb]) (htb : P.underlying tb = some .bool)
    (hl : Go.laidOutB P = true) (hread : ∀ t ∈ f.params.toList, P.readableRec t = true ∧ t < P.types.size)
    (hio : W'.os = W.os ∧ W'.output = W.output) (hb : ∀ b, b < W.heap.size → W'.heap[b]? = W.heap[b]?) :
    s.post enc P f apart fresh handsOn again W args (.bool true) W' := by
  have hlt : ∀ p ∈ before, p.block < W.heap.size := fun p hp => by simpa using hW.lt p hp
  have hW' := hW
  obtain ⟨p, q, hA, hV, rfl, hfz, hnd⟩ := hW
  rw [hvars] at hV
  obtain ⟨rfl, rfl⟩ := trodVars_none hV
  have hfn : s.fn Hh (ds ++ []) = { results := [.lit (.bool true)], args := ds } := by rw [List.append_nil]; exact hs
  have hargs : ∀ sp : Nat → Bool, (∀ x ∈ p ++ [], sp x.block = true) → DataW.TrodAll enc P W' 0 sp true f.params.toList args.toList ds p := fun sp hsp =>
    qiJ hl hb hread hA (fun x hx => hlt x (by simp [hx])) (fun x hx => hsp x (by simp [hx]))
  have hk : W.keptBut W' (fun _ => False) := by
    refine ⟨hio.1, hio.2, fun i hi => ?_⟩
    rw [hb i hi]
    cases hq : W.heap[i]? with
    | none => rfl
    | some o => cases o <;> first | rfl | exact ⟨rfl, rfl, rfl, fun _ _ => rfl⟩ | exact .inr ⟨rfl, rfl⟩
  have hresT : ∀ (b : Nat) (sp : Nat → Bool) (hd : Bool), DataW.TrodAll enc P W' b sp hd f.resultTypes.toList ((Value.bool true).resultList f.resultTypes.size) [.lit (.bool true)] [] := fun b sp hd => by
    rw [hres]
    exact trodAll_cons_mk (shut_bool htb _) trodAll_mk0
  have hfz' : ∀ a : Addr, a.block < W.heap.size → W'.frozen? a = W.frozen? a := fun a ha => by simp only [World.frozen?, hb a.block ha]
  have hres2 : ∀ (b : Nat) (sp : Nat → Bool) (hd : Bool), DataW.TrodAll enc P W' b sp hd f.resultTypes.toList ((Value.bool true).resultList f.resultTypes.size) (s.fn Hh (ds ++ [])).results [] := fun b sp hd => by rw [hfn]; exact hresT b sp hd
  have hargs2 : ∀ sp : Nat → Bool, (∀ x ∈ p ++ [], sp x.block = true) → DataW.TrodAll enc P W' 0 sp true f.params.toList args.toList (s.fn Hh (ds ++ [])).args p := fun sp hsp => by rw [hfn]; exact hargs sp hsp
  have hvars2 : ∀ sp : Nat → Bool, DataW.TrodVars enc P W' sp s.vars (s.fn Hh (ds ++ [])).vars [] := fun sp => by rw [hfn, hvars]; rfl
  have hold : ∀ x ∈ p ++ [], (fun b => decide (b < W.heap.size)) x.block = true := fun x hx => by simpa using hlt x hx
  refine ⟨ds, [], p ++ [], [], p, [], hW', hres2 _ _ _, hargs2 _ hold, hvars2 _, Go.World.keptBut_mono (fun _ h => h.elim) hk, fun _ => ?_⟩
  refine ⟨ok_one hres rfl (okWide_bool_mk htb _), _, _, ([] ++ p) ++ [], ⟨[] ++ p, [], trodAll_append (hargs2 _ (fun _ _ => rfl)) (hres2 _ _ _), hvars2 _, rfl, ?_, ?_⟩, ?_⟩
  · intro b off hp
    rw [hfz' _ (hlt (.cell b off) (by simpa using hp))]
    exact hfz b off (by simpa using hp)
  · intro ha
    simpa using hnd ha
  · intro x hx _
    simpa using hx
end
end W

/-
  Arguments that were read are data.
-/
set_option linter.unusedSimpArgs false
set_option linter.unusedVariables false
namespace W
open Go (World Value Addr IntKind Program TypeId FuncId Operand Act Oper Next Result Sem Ending Exit Code Func DataW MemPlace Calls TypeDesc Lit)
mutual
def D.bulk : D → Nat
  | .s x => x.length + 1
  | .sl xs => D.bulks xs + 1
  | .agg cs => D.bulks cs + 1
  | _ => 1
def D.bulks : List D → Nat
  | [] => 0
  | x :: l => D.bulk x + D.bulks l
end
theorem qjP : ∀ (a b : List D), D.bulks (a ++ b) = D.bulks a + D.bulks b
  | [], b => by simp [D.bulks]
  | x :: a, b => by simp only [List.cons_append, D.bulks, qjP a b]; omega
def tiles (P : Program) : Nat → List Go.Field → Bool
  | _, [] => true
  | off, f :: l => f.offset == off && tiles P (off + P.cellsOf f.type) l
def qh0 (P : Program) : List Go.Field → Nat
  | [] => 0
  | f :: l => P.cellsOf f.type + qh0 P l
def qmT (P : Program) (ts : List TypeId) (t : TypeId) : Bool :=
  match P.underlying t with
  | some .bool | some (.int _) | some .string => true
  | some (.slice e) => ts.contains e && Nat.blt 0 (P.cellsOf e)
  | some (.struct fs) => fs.toList.all (fun f => ts.contains f.type) && tiles P 0 fs.toList && qCa (P.cellsOf t) (qh0 P fs.toList)
  | some (.array n e) => ts.contains e && qCa (P.cellsOf t) (n * P.cellsOf e)
  | _ => false
def covers (P : Program) (ts : List TypeId) : Bool := ts.all (qmT P ts)
def qcV (P : Program) (t : TypeId) : Bool :=
  match P.underlying t with
  | some (.struct _) | some (.array _ _) => true
  | _ => false
def elD : Bool → List D → D
  | true, xs => .agg xs
  | false, [x] => x
  | false, _ => .np
def Ty (P : Program) : Nat → TypeId → List D → Prop
  | 0, _, _ => False
  | n + 1, t, xs => match P.underlying t with
    | some .bool => ∃ b, xs = [.b b]
    | some (.int k) => ∃ z, xs = [.i k z] ∧ (Lit.int k z).wf = true
    | some .string => ∃ s, xs = [.s s] ∧ s.length ≤ Go.maxLen ∧ ∀ c ∈ s, c < 256
    | some (.slice e) => xs = [.nil] ∨ ∃ yss : List (List D), xs = [.sl (yss.map (elD (qcV P e)))] ∧ yss.length ≤ Go.maxLen ∧ ∀ q ∈ yss, Ty P n e q
    | some (.struct fs) => ∃ yss : List (List D), xs = yss.flatten ∧ yss.length = fs.toList.length ∧ ∀ (i : Nat) (f : Go.Field) (q : List D), fs.toList[i]? = some f → yss[i]? = some q → Ty P n f.type q
    | some (.array m e) => ∃ yss : List (List D), xs = yss.flatten ∧ yss.length = m ∧ ∀ q ∈ yss, Ty P n e q
    | _ => False
def Arg (P : Program) (t : TypeId) (x : D) : Prop := ∃ n xs, Ty P n t xs ∧ x = elD (qcV P t) xs
structure Bulk {Hh : Type} (B : DataW Hh → Nat) (BA : List (DataW Hh) → Nat) : Prop where
  str : ∀ bytes, B (.lit (.string bytes)) = bytes.length + 1
  lit : ∀ l, 1 ≤ B (.lit l)
  nil : B .nil = 1
  sl : ∀ es sp, B (.slice es sp) = BA es + BA sp + 1
  agg : ∀ ps, B (.agg ps) = BA ps + 1
  n : BA [] = 0
  c : ∀ d r, BA (d :: r) = B d + BA r
def g0 (W : World) : Gh := { n := 0, φ := fun _ => 0, own := fun _ => none, pub := fun b => match W.heap[b]? with | some (.cells c _ _) => c.size | _ => 0 }
theorem qBc {M : Maps} {g : Gh} {w : World} (h : M.gl = []) (h2 : M.gi = []) : GlOk M g w := ⟨(fun n x hn => by rw [h] at hn; cases hn), (fun n hn => by rw [h2] at hn; cases hn)⟩
theorem qxj (M : Maps) (W : World) (hgl : GlOk M (g0 W) W) : RelH M (g0 W) W [] := ⟨rfl, fun id o h => by simp at h, fun b hb => ⟨rfl, by
  show (match W.heap[b]? with | some (.cells c _ _) => c.size | _ => 0) = 0
  rw [Array.getElem?_eq_none hb]⟩, hgl⟩
theorem qzV {W W' : World} {g' : Gh} (h : Evo (g0 W) W g' W') : ∀ b, b < W.heap.size → W'.heap[b]? = W.heap[b]? := fun b hb => (h.keep b hb (.inl rfl)).2.1
theorem qqF {W : World} {b o : Nat} {v : Value} (h : W.cell? ⟨b, o, none⟩ = some v) : o < (g0 W).pub b := by
  simp only [World.cell?] at h
  show o < (match W.heap[b]? with | some (.cells c _ _) => c.size | _ => 0)
  split at h
  · rename_i c e f hq
    rw [hq]
    simp at h
    exact (Array.getElem?_eq_some_iff.1 h).1
  · cases h
theorem qpk {W : World} {a : Addr} {v : Value} (h : W.cell? a = some v) : a.spot = none := by
  simp only [World.cell?] at h
  split at h
  · cases hs : a.spot with
    | none => rfl
    | some s => simp [hs] at h
  · cases h
section
variable {P : Program} {Hh : Type} {enc : TypeId × Value → Hh} {W : World}
theorem RepDL.split {pub : Nat → Nat} {w : World} : ∀ {a : List (List D)} {b : List (List Value)}, a.length = b.length → (∀ (i : Nat) (q : List D) (r : List Value), a[i]? = some q → b[i]? = some r → RepDL pub w q r) → RepDL pub w a.flatten b.flatten
  | [], [], _, _ => .nil
  | q :: a, r :: b, hl, h => by
    simp only [List.flatten_cons]
    exact (h 0 q r rfl rfl).append (RepDL.split (by simpa using hl) (fun i q' r' hq hr => h (i + 1) q' r' (by simpa using hq) (by simpa using hr)))
  | [], _ :: _, hl, _ => by simp at hl
  | _ :: _, [], hl, _ => by simp at hl
theorem qiN (cs : List Value) : ∀ (fs : List Go.Field) (off : Nat), tiles P off fs = true → (fs.map fun f => (cs.drop f.offset).take (P.cellsOf f.type)).flatten = (cs.drop off).take (qh0 P fs)
  | [], off, _ => by simp [qh0]
  | f :: fs, off, h => by
    simp only [tiles, qB0, beq_iff_eq] at h
    simp only [qB4, List.flatten_cons, qh0, qiN cs fs _ h.2, h.1]
    rw [List.take_add, List.drop_drop]
theorem qiP (cs : List Value) (sz : Nat) : ∀ n, ((List.range n).map fun i => (cs.drop (i * sz)).take sz).flatten = cs.take (n * sz)
  | 0 => by simp
  | n + 1 => by
    rw [List.range_succ, List.map_append, List.flatten_append, qiP cs sz n, Nat.succ_mul, List.take_add]
    simp
theorem qm9 {n : Nat} {t : TypeId} {xs : List D} (h : Ty P n t xs) : (elD (qcV P t) xs).cells = xs := by
  cases n with
  | zero => exact h.elim
  | succ n =>
    unfold Ty at h
    unfold qcV
    split at h
    · rename_i hu; rw [hu]; obtain ⟨b, rfl⟩ := h; rfl
    · rename_i k hu; rw [hu]; obtain ⟨b, rfl, _⟩ := h; rfl
    · rename_i hu; rw [hu]; obtain ⟨b, rfl, _⟩ := h; rfl
    · rename_i e hu; rw [hu]
      rcases h with rfl | ⟨yss, rfl, _⟩ <;> rfl
    · rename_i fs hu; rw [hu]; rfl
    · rename_i m e hu; rw [hu]; rfl
    · exact h.elim
theorem qqE {a b : List D} (h1 : D.ones a = true) (h2 : D.ones b = true) : D.ones (a ++ b) = true := by
  induction a with
  | nil => exact h2
  | cons q a ih => simp only [List.cons_append, D.ones, qB0] at h1 ⊢; exact ⟨h1.1, ih h1.2⟩
theorem qeL : ∀ {l : List (List D)}, (∀ q ∈ l, D.ones q = true) → D.ones l.flatten = true
  | [], _ => rfl
  | q :: l, h => qqE (h q (by simp)) (qeL fun r hr => h r (by simp [hr]))
theorem qoR : ∀ {n : Nat} {t : TypeId} {xs : List D}, Ty P n t xs → D.ones xs = true
  | 0, _, _, h => h.elim
  | n + 1, t, xs, h => by
    unfold Ty at h
    split at h
    · obtain ⟨b, rfl⟩ := h; rfl
    · obtain ⟨b, rfl, _⟩ := h; rfl
    · obtain ⟨b, rfl, _⟩ := h; rfl
    · rcases h with rfl | ⟨yss, rfl, _⟩ <;> rfl
    · obtain ⟨yss, rfl, hl, h⟩ := h
      refine qeL fun q hq => ?_
      obtain ⟨i, hi⟩ := List.getElem?_of_mem hq
      have hlt := (List.getElem?_eq_some_iff.1 hi).1
      rename_i fs hu
      exact qoR (h i (fs.toList[i]'(by omega)) q (by simp [hl ▸ hlt]) hi)
    · obtain ⟨yss, rfl, hl, h⟩ := h
      exact qeL fun q hq => qoR (h q hq)
    · exact h.elim
end
end W

/-
  Arguments that were read are data: the reading itself.
-/
set_option linter.unusedSimpArgs false
set_option linter.unusedVariables false
namespace W
open Go (World Value Addr IntKind Program TypeId FuncId Operand Act Oper Next Result Sem Ending Exit Code Func DataW MemPlace Calls TypeDesc Lit)
theorem qf9 {α : Type} {R : Nat → α → Prop} : ∀ (n : Nat), (∀ i, i < n → ∃ a, R i a) → ∃ l : List α, l.length = n ∧ ∀ (i : Nat) (a : α), l[i]? = some a → R i a
  | 0, _ => ⟨[], rfl, fun i a h => by simp at h⟩
  | n + 1, h => by
    obtain ⟨l, h1, h2⟩ := qf9 n (fun i hi => h i (by omega))
    obtain ⟨a, ha⟩ := h n (by omega)
    refine ⟨l ++ [a], by simp [h1], fun i b hb => ?_⟩
    rw [List.getElem?_append] at hb
    split at hb
    · exact h2 i b hb
    · rename_i hge
      have hi : i - l.length = 0 := by
        rcases Nat.eq_zero_or_pos (i - l.length) with h0 | h0
        · exact h0
        · rw [List.getElem?_eq_none (by simp; omega)] at hb; cases hb
      rw [hi] at hb
      simp only [qB1, Option.some.injEq] at hb
      subst hb
      rwa [show i = n by omega]
theorem qk4 {α : Type} {c : Nat} : ∀ (l : List (List α)), (∀ q ∈ l, q.length = c) → ∀ (j : Nat) (v : α), l.flatten[j]? = some v → ∃ i r q, j = i * c + r ∧ l[i]? = some q ∧ q[r]? = some v
  | [], _, j, v, h => by simp at h
  | q :: l, hc, j, v, h => by
    have hq := hc q (by simp)
    rw [List.flatten_cons, List.getElem?_append] at h
    split at h
    · exact ⟨0, j, q, by simp, rfl, h⟩
    · rename_i hge
      obtain ⟨i, r, q', h1, h2, h3⟩ := qk4 l (fun x hx => hc x (by simp [hx])) _ v h
      exact ⟨i + 1, r, q', by rw [Nat.succ_mul]; omega, by simpa using h2, h3⟩
theorem qhQ {α : Type} {c : Nat} : ∀ (l : List (List α)), (∀ q ∈ l, q.length = c) → l.flatten.length = l.length * c
  | [], _ => by simp
  | q :: l, hc => by
    rw [List.flatten_cons, List.length_append, hc q (by simp), qhQ l (fun x hx => hc x (by simp [hx])), qCd, Nat.succ_mul]; omega
section
variable {P : Program} {Hh : Type} {enc : TypeId × Value → Hh} {W : World}
theorem qtm {n : Nat} {t : TypeId} {q : List D} (h : Ty P n t q) {b : Nat} (hb : D.bulks q + (if qcV P t then 1 else 0) ≤ b) : D.bulk (elD (qcV P t) q) ≤ b := by
  cases ha : qcV P t with
  | true => rw [ha] at hb; simpa [elD, D.bulk] using hb
  | false =>
    rw [ha] at hb
    have h1 := qm9 h
    rw [ha] at h1
    match q, h1, hb with
    | [x], _, hb => simpa [elD, D.bulks] using hb
    | [], h1, _ => simp [elD, D.cells] at h1
    | x :: y :: l, h1, _ => simp [elD, D.cells] at h1
theorem qqx {B : DataW Hh → Nat} {BA : List (DataW Hh) → Nat} (hB : Bulk B BA) : ∀ {ys : List D} {ds : List (DataW Hh)}, ys.length = ds.length → (∀ (i : Nat) (y : D) (d : DataW Hh), ys[i]? = some y → ds[i]? = some d → D.bulk y ≤ B d) → D.bulks ys ≤ BA ds
  | [], [], _, _ => by simp [D.bulks]
  | y :: ys, d :: ds, hl, h => by
    rw [hB.c, D.bulks]
    have h1 := h 0 y d rfl rfl
    have h2 := qqx hB (ys := ys) (ds := ds) (by simpa using hl) (fun i y d hy hd => h (i + 1) y d (by simpa using hy) (by simpa using hd))
    omega
  | [], _ :: _, hl, _ => by simp at hl
  | _ :: _, [], hl, _ => by simp at hl
theorem qgm {B : DataW Hh → Nat} {BA : List (DataW Hh) → Nat} (hB : Bulk B BA) : ∀ {ys : List (List D)} {ds : List (DataW Hh)}, ys.length = ds.length → (∀ (i : Nat) (y : List D) (d : DataW Hh), ys[i]? = some y → ds[i]? = some d → D.bulks y ≤ B d) → D.bulks ys.flatten ≤ BA ds
  | [], [], _, _ => by simp [D.bulks]
  | y :: ys, d :: ds, hl, h => by
    rw [hB.c, List.flatten_cons, qjP]
    have h1 := h 0 y d rfl rfl
    have h2 := qgm hB (ys := ys) (ds := ds) (by simpa using hl) (fun i y d hy hd => h (i + 1) y d (by simpa using hy) (by simpa using hd))
    omega
  | [], _ :: _, hl, _ => by simp at hl
  | _ :: _, [], hl, _ => by simp at hl
theorem qm7 {a : Addr} {n : Nat} {cs : List Value} (h : W.cells? 0 a n = some cs) : cs.length = n ∧ ∀ (i : Nat) (v : Value), cs[i]? = some v → W.cell? (a.add i) = some v := by
  unfold World.cells? at h
  simp only [Nat.zero_le, if_true] at h
  have hl := Go.mapM_some_length h
  refine ⟨by simpa using hl, fun i v hv => ?_⟩
  have hi : i < n := by
    have := (List.getElem?_eq_some_iff.1 hv).1
    rw [hl] at this; simpa using this
  have := Go.mapM_some_get h i i (by simp [hi])
  rw [this, hv]
theorem qwE (ys : List D) : D.bulks [.sl ys] = D.bulks ys + 1 := by simp [D.bulks, D.bulk]
theorem qjz {ts : List TypeId} (hts : covers P ts = true) {B : DataW Hh → Nat} {BA : List (DataW Hh) → Nat} (hB : Bulk B BA) : ∀ (n : Nat) (t : TypeId) (cs : List Value) (x : DataW Hh × List MemPlace), t ∈ ts →
    DataW.trod enc P W 0 (fun _ => true) true n t cs = some x → ∃ xs, Ty P n t xs ∧ RepDL (g0 W).pub W xs cs ∧ D.bulks xs + (if qcV P t then 1 else 0) ≤ B x.1
  | 0, t, cs, x, _, h => by simp [DataW.trod] at h
  | n + 1, t, cs, x, ht, h => by
    have hcov : qmT P ts t = true := by
      simp only [covers, List.all_eq_true] at hts
      exact hts t ht
    unfold qmT at hcov
    unfold Ty qcV
    split at hcov
    · -- bool
      rename_i hu
      obtain ⟨b, rfl, rfl⟩ := DataW.trod_bool hu h
      rw [hu]
      exact ⟨[.b b], ⟨b, rfl⟩, .cons _ _ _ _ (.b b) .nil, by have := hB.lit (.bool b); simpa [D.bulks, D.bulk] using this⟩
    · rename_i k hu
      obtain ⟨z, rfl, rfl, hw⟩ := DataW.trod_int hu h
      rw [hu]
      exact ⟨[.i k z], ⟨z, rfl, hw⟩, .cons _ _ _ _ (.i k z) .nil, by have := hB.lit (.int k z); simpa [D.bulks, D.bulk] using this⟩
    · rename_i hu
      obtain ⟨z, rfl, rfl, hm⟩ := DataW.trod_string hu h
      rw [hu]
      have hl : (z.data.toList.map (·.toNat)).length = z.size := by simp
      refine ⟨[.s (z.data.toList.map (·.toNat))], ⟨_, rfl, by rw [hl]; exact hm, fun c hc => ?_⟩, .cons _ _ _ _ (.s _ z rfl) .nil, ?_⟩
      · obtain ⟨b, _, rfl⟩ := List.mem_map.1 hc
        exact b.toNat_lt
      · simp only [D.bulks, D.bulk, hB.str]
        simp
    · -- slice
      rename_i e hu
      simp only [qB0, List.contains_iff_mem, Nat.blt_eq] at hcov
      obtain ⟨he, hpos⟩ := hcov
      rw [hu]
      rcases DataW.trod_slice hu h with ⟨rfl, rfl⟩ | ⟨a, len, cap, elems, rest, m, hm, rfl, rfl, hb, hlc, hcap, hlen, hel, _, _⟩
      · exact ⟨[.nil], .inl rfl, .cons _ _ _ _ .nil .nil, by rw [hB.nil]; simp [D.bulks, D.bulk]⟩
      · cases hm
        -- each element
        obtain ⟨l, hl1, hl2⟩ := qf9 (R := fun i (p : List D × List Value) => ∃ y, elems[i]? = some y ∧ W.cells? 0 (a.add (i * P.cellsOf e)) (P.cellsOf e) = some p.2 ∧ Ty P n e p.1 ∧ RepDL (g0 W).pub W p.1 p.2 ∧ D.bulks p.1 + (if qcV P e then 1 else 0) ≤ B y.1) len (fun i hi => by
          have h1 := hel i hi
          rw [List.getElem?_eq_getElem (by omega)] at h1
          obtain ⟨cs', h2, h3⟩ := Option.bind_eq_some_iff.1 h1
          obtain ⟨xs, h4, h5, h6⟩ := qjz hts hB n e cs' _ he h3
          exact ⟨(xs, cs'), _, List.getElem?_eq_getElem (by omega), h2, h4, h5, h6⟩)
        have htys : ∀ q ∈ l.map (·.1), Ty P n e q := fun q hq => by
          obtain ⟨p, hp, rfl⟩ := List.mem_map.1 hq
          obtain ⟨i, hi⟩ := List.getElem?_of_mem hp
          obtain ⟨y, _, _, h4, _⟩ := hl2 i p hi
          exact h4
        have hbulk : D.bulks ((l.map (·.1)).map (elD (qcV P e))) ≤ BA (elems.map (·.1)) := by
          refine qqx hB (by simp [hl1, hlen]) (fun i y d hy hd => ?_)
          simp only [List.getElem?_map, Option.map_map, Option.map_eq_some_iff] at hy hd
          obtain ⟨p, hp, rfl⟩ := hy
          obtain ⟨z, hz, rfl⟩ := hd
          obtain ⟨y, h1, _, h4, _, h6⟩ := hl2 i p hp
          rw [hz] at h1
          cases h1
          exact qtm h4 h6
        refine ⟨[.sl ((l.map (·.1)).map (elD (qcV P e)))], .inr ⟨l.map (·.1), rfl, by simp only [List.length_map, hl1]; omega, htys⟩, .cons _ _ _ _ ?_ .nil, ?_⟩
        · cases hle : l with
          | nil =>
            rw [hle] at hl1
            simp at hl1
            subst hl1
            exact .sl0 a cap
          | cons p0 l' =>
            rw [← hle]
            have hlpos : 0 < len := by rw [← hl1, hle]; simp
            have hcl : ∀ p ∈ l, p.2.length = P.cellsOf e := fun p hp => by
              obtain ⟨i, hi⟩ := List.getElem?_of_mem hp
              obtain ⟨y, _, h2, _⟩ := hl2 i p hi
              exact (qm7 h2).1
            have hcell : ∀ i p, l[i]? = some p → ∀ r v, p.2[r]? = some v → W.cell? ((a.add (i * P.cellsOf e)).add r) = some v := fun i p hi r v hv => by
              obtain ⟨y, _, h2, _⟩ := hl2 i p hi
              exact (qm7 h2).2 r v hv
            have hspot : a.spot = none := by
              have h0 : l[0]? = some p0 := by rw [hle]; rfl
              have hp0 := hcl p0 (by rw [hle]; simp)
              have hlt : 0 < p0.2.length := by omega
              have := qpk (hcell 0 p0 h0 0 p0.2[0] (by simp [hlt]))
              rw [Nat.zero_mul] at this
              unfold Addr.add at this
              simpa using this
            obtain ⟨b, off, sp⟩ := a
            simp only at hspot
            subst hspot
            have hvlen : (l.map (·.2)).flatten.length = len * P.cellsOf e := by
              rw [qhQ _ (fun q hq => by obtain ⟨p, hp, rfl⟩ := List.mem_map.1 hq; exact hcl p hp)]; simp [hl1]
            have hflat : ((l.map (·.1)).map (elD (qcV P e))).flatMap D.cells = (l.map (·.1)).flatten := by
              rw [List.flatMap_map, List.flatMap_def]
              congr 1
              rw [List.map_congr_left (g := id)]
              · simp
              · intro q hq; exact qm9 (htys q hq)
            have hrep : RepDL (g0 W).pub W (((l.map (·.1)).map (elD (qcV P e))).flatMap D.cells) (l.map (·.2)).flatten := by
              rw [hflat]
              refine RepDL.split (by simp) (fun i q r hq hr => ?_)
              simp only [List.getElem?_map, Option.map_eq_some_iff] at hq hr
              obtain ⟨p, hp, rfl⟩ := hq
              obtain ⟨p', hp', rfl⟩ := hr
              rw [hp] at hp'
              cases hp'
              obtain ⟨y, _, _, _, h5, _⟩ := hl2 i p hp
              exact h5
            have hcs : ∀ j v, (l.map (·.2)).flatten[j]? = some v → W.cell? ⟨b, off + j, none⟩ = some v := fun j v hj => by
              obtain ⟨i, r, q, h1, h2, h3⟩ := qk4 _ (fun q hq => by obtain ⟨p, hp, rfl⟩ := List.mem_map.1 hq; exact hcl p hp) j v hj
              simp only [List.getElem?_map, Option.map_eq_some_iff] at h2
              obtain ⟨p, hp, rfl⟩ := h2
              have := hcell i p hp r v h3
              rw [qai, qai] at this
              rw [h1, ← Nat.add_assoc]; exact this
            have hlenD : ((l.map (·.1)).map (elD (qcV P e))).length = len := by simp [hl1]
            have hsl := RepD.sl (pub := (g0 W).pub) (w := W) ((l.map (·.1)).map (elD (qcV P e))) b off cap (P.cellsOf e) (l.map (·.2)).flatten (by rw [hle]; simp) (fun x hx => ?_) hrep hcs ?_ (by rw [hlenD]; exact hlc) ?_
            · rw [hlenD] at hsl; exact hsl
            · obtain ⟨q, hq, rfl⟩ := List.mem_map.1 hx
              rw [qm9 (htys q hq)]
              obtain ⟨p, hp, rfl⟩ := List.mem_map.1 hq
              obtain ⟨i, hi⟩ := List.getElem?_of_mem hp
              obtain ⟨y, _, _, _, h5, _⟩ := hl2 i p hi
              rw [h5.length]; exact hcl p hp
            · have hp : 0 < len * P.cellsOf e := Nat.mul_pos hlpos hpos
              have hlt : (l.map (·.2)).flatten.length - 1 < (l.map (·.2)).flatten.length := by rw [hvlen]; omega
              have := qqF (hcs _ _ (List.getElem?_eq_getElem hlt))
              rw [hvlen] at this ⊢
              omega
            · refine hrep.ones ?_
              rw [hflat]
              exact qeL fun q hq => qoR (htys q hq)
        · rw [qwE, hB.sl]
          simp only [qBZ, if_false]
          omega
    · -- struct
      rename_i fs hu
      simp only [qB0, List.all_eq_true, List.contains_iff_mem, Nat.beq_eq] at hcov
      obtain ⟨⟨hf, htile⟩, hsum⟩ := hcov
      obtain ⟨ys, m, hm, rfl, hlc, hlen, hel⟩ := DataW.trod_struct hu h
      cases hm
      rw [hu]
      obtain ⟨l, hl1, hl2⟩ := qf9 (R := fun i (p : List D) => ∃ f y, fs[i]? = some f ∧ ys[i]? = some y ∧ Ty P n f.type p ∧ RepDL (g0 W).pub W p ((cs.drop f.offset).take (P.cellsOf f.type)) ∧ D.bulks p + (if qcV P f.type then 1 else 0) ≤ B y.1) fs.size (fun i hi => by
        have hfi : fs[i]? = some fs[i] := by simp [hi]
        have h1 := hel i fs[i] hfi
        rw [List.getElem?_eq_getElem (by omega)] at h1
        obtain ⟨xs, h4, h5, h6⟩ := qjz hts hB n _ _ _ (hf fs[i] (by simp)) h1
        exact ⟨xs, fs[i], _, hfi, List.getElem?_eq_getElem (by omega), h4, h5, h6⟩)
      refine ⟨l.flatten, ⟨l, rfl, by simp [hl1], fun i f q hfi hq => ?_⟩, ?_, ?_⟩
      · obtain ⟨f', y, h1, h2, h3, _⟩ := hl2 i q hq
        have : fs[i]? = some f := by simpa using hfi
        rw [h1] at this; cases this
        exact h3
      · have hall : cs = (fs.toList.map fun f => (cs.drop f.offset).take (P.cellsOf f.type)).flatten := by
          rw [qiN cs _ 0 htile, ← hsum, ← hlc]; simp
        rw [hall]
        refine RepDL.split (by simp [hl1]) (fun i q r hq hr => ?_)
        simp only [List.getElem?_map, Option.map_eq_some_iff] at hr
        obtain ⟨f, hfi, rfl⟩ := hr
        obtain ⟨f', y, h1, h2, h3, h4, _⟩ := hl2 i q hq
        have : fs[i]? = some f := by simpa using hfi
        rw [h1] at this; cases this
        exact h4
      · simp only [hB.agg, if_true]
        have := qgm hB (ys := l) (ds := ys.map (·.1)) (by simp [hl1, hlen]) (fun i q d hq hd => by
          simp only [List.getElem?_map, Option.map_eq_some_iff] at hd
          obtain ⟨z, hz, rfl⟩ := hd
          obtain ⟨f', y, h1, h2, h3, h4, h5⟩ := hl2 i q hq
          rw [hz] at h2; cases h2
          omega)
        omega
    · -- array
      rename_i k e hu
      simp only [qB0, List.contains_iff_mem, Nat.beq_eq] at hcov
      obtain ⟨he, hsum⟩ := hcov
      obtain ⟨ys, m, hm, rfl, hlc, hlen, hel⟩ := DataW.trod_array hu h
      cases hm
      rw [hu]
      obtain ⟨l, hl1, hl2⟩ := qf9 (R := fun i (p : List D) => ∃ y, ys[i]? = some y ∧ Ty P n e p ∧ RepDL (g0 W).pub W p ((cs.drop (i * P.cellsOf e)).take (P.cellsOf e)) ∧ D.bulks p + (if qcV P e then 1 else 0) ≤ B y.1) k (fun i hi => by
        have h1 := hel i hi
        rw [List.getElem?_eq_getElem (by omega)] at h1
        obtain ⟨xs, h4, h5, h6⟩ := qjz hts hB n _ _ _ he h1
        exact ⟨xs, _, List.getElem?_eq_getElem (by omega), h4, h5, h6⟩)
      refine ⟨l.flatten, ⟨l, rfl, hl1, fun q hq => ?_⟩, ?_, ?_⟩
      · obtain ⟨i, hi⟩ := List.getElem?_of_mem hq
        obtain ⟨y, h2, h3, _⟩ := hl2 i q hi
        exact h3
      · have hall : cs = ((List.range k).map fun i => (cs.drop (i * P.cellsOf e)).take (P.cellsOf e)).flatten := by
          rw [qiP, ← hsum, ← hlc]; simp
        rw [hall]
        refine RepDL.split (by simp [hl1]) (fun i q r hq hr => ?_)
        simp only [List.getElem?_map, Option.map_eq_some_iff] at hr
        obtain ⟨i', hi', rfl⟩ := hr
        have hik : i < k := by rw [← hl1]; exact (List.getElem?_eq_some_iff.1 hq).1
        rw [List.getElem?_range hik] at hi'
        cases hi'
        obtain ⟨y, h2, h3, h4, _⟩ := hl2 i q hq
        exact h4
      · simp only [hB.agg, if_true]
        have := qgm hB (ys := l) (ds := ys.map (·.1)) (by simp [hl1, hlen]) (fun i q d hq hd => by
          simp only [List.getElem?_map, Option.map_eq_some_iff] at hd
          obtain ⟨z, hz, rfl⟩ := hd
          obtain ⟨y, h2, h3, h4, h5⟩ := hl2 i q hq
          rw [hz] at h2; cases h2
          omega)
        omega
    · cases hcov
end
end W

/-
  A law's contract from runs of the small semantics, one for every way that its arguments may read.
-/
set_option linter.unusedSimpArgs false
set_option linter.unusedVariables false
namespace W
open Go (World Value Addr IntKind Program TypeId FuncId Operand Act Oper Next Result Sem Ending Exit Code Func DataW MemPlace Calls TypeDesc Lit)
open Go.ChangeShapes Go.RowKit
section
variable {P : Program} {Hh : Type} {enc : TypeId × Value → Hh} {W : World} {M : Maps}
theorem qxJ {r : Go.Reach} {b : Nat} {t : TypeId} {v : Value} (hv : Value.okWide P W r b t v) : (qcV P t = true → ∃ cs, v = .agg cs) ∧
    (qcV P t = false → (∃ d, P.underlying t = some d ∧ (d = .bool ∨ (∃ k, d = .int k) ∨ d = .string ∨ ∃ e, d = .slice e)) → v.cells.toList = [v]) := by
  unfold Value.okWide at hv
  unfold qcV
  split at hv
  · rename_i hu
    rw [hu]
    obtain ⟨cs, rfl, _⟩ := hv
    exact ⟨fun _ => ⟨cs, rfl⟩, fun h => by cases h⟩
  · rename_i hu
    rw [hu]
    obtain ⟨cs, rfl, _⟩ := hv
    exact ⟨fun _ => ⟨cs, rfl⟩, fun h => by cases h⟩
  · rename_i h1 h2
    refine ⟨fun h => ?_, fun _ ⟨d, hu, hd⟩ => ?_⟩
    · exfalso
      split at h
      · rename_i hu; exact h1 _ hu
      · rename_i hu; exact h2 _ _ hu
      · cases h
    · cases v with
      | agg cs => rcases hd with rfl | ⟨k, rfl⟩ | rfl | ⟨e, rfl⟩ <;> simp [Go.Cell.okWide, Go.Cell.ok, hu] at hv
      | _ => rfl
theorem qxG {ts : List TypeId} (hts : covers P ts = true) {B : DataW Hh → Nat} {BA : List (DataW Hh) → Nat} (hB : Bulk B BA) {r : Go.Reach} {b : Nat} {t : TypeId} {v : Value} {d : DataW Hh} {ps : List MemPlace} (ht : t ∈ ts)
    (hv : Value.okWide P W r b t v) (h : DataW.Trod enc P W 0 (fun _ => true) true t v d ps) : ∃ x, Arg P t x ∧ RepS M (g0 W) W (.d x) v ∧ D.bulk x ≤ B d := by
  obtain ⟨n, hn⟩ := h
  obtain ⟨xs, h1, h2, h3⟩ := qjz hts hB n t _ _ ht hn
  refine ⟨elD (qcV P t) xs, ⟨n, xs, h1, rfl⟩, ?_, qtm h1 h3⟩
  obtain ⟨f1, f2⟩ := qxJ hv
  cases ha : qcV P t with
  | true =>
    obtain ⟨cs, rfl⟩ := f1 ha
    exact .d _ _ (.agg xs cs h2)
  | false =>
    have hcov : qmT P ts t = true := by
      simp only [covers, List.all_eq_true] at hts
      exact hts t ht
    have hc := f2 ha (by
      unfold qmT at hcov
      split at hcov
      · rename_i hu; exact ⟨_, hu, .inl rfl⟩
      · rename_i hu; exact ⟨_, hu, .inr (.inl ⟨_, rfl⟩)⟩
      · rename_i hu; exact ⟨_, hu, .inr (.inr (.inl rfl))⟩
      · rename_i hu; exact ⟨_, hu, .inr (.inr (.inr ⟨_, rfl⟩))⟩
      · rename_i hu; simp [qcV, hu] at ha
      · rename_i hu; simp [qcV, hu] at ha
      · cases hcov)
    rw [hc] at h2
    cases h2 with
    | cons x _ l _ hx hl =>
      cases hl
      exact .d _ _ hx
theorem qqM {ts : List TypeId} (hts : covers P ts = true) {B : DataW Hh → Nat} {BA : List (DataW Hh) → Nat} (hB : Bulk B BA) {r : Go.Reach} {b : Nat} : ∀ {tys : List TypeId} {vs : List Value} {ds : List (DataW Hh)} {ps : List MemPlace} (j : Nat),
    (∀ t ∈ tys, t ∈ ts) → (∀ (i : Nat) t v, tys[i]? = some t → vs[i]? = some v → Value.okWide P W r b t v) → DataW.TrodAll enc P W 0 (fun _ => true) true tys vs ds ps →
    ∃ xs : List D, All2 (Arg P) tys xs ∧ ArgsRep M (g0 W) W j (xs.map .d) vs ∧ D.bulks xs ≤ BA ds
  | [], vs, ds, ps, j, _, _, h => by
    obtain ⟨rfl, rfl, rfl⟩ := trodAll_nil h
    exact ⟨[], .nil, .nil j, by simp [D.bulks]⟩
  | t :: tys, vs, ds, ps, j, ht, hv, h => by
    obtain ⟨v, vs', d, ds', p, q, rfl, rfl, rfl, hd, hrest⟩ := trodAll_cons h
    obtain ⟨x, h1, h2, h3⟩ := qxG (M := M) hts hB (ht t (by simp)) (hv 0 t v rfl rfl) hd
    obtain ⟨xs, h4, h5, h6⟩ := qqM hts hB (j + 1) (fun u hu => ht u (by simp [hu])) (fun i u w' hu hw => hv (i + 1) u w' (by simpa using hu) (by simpa using hw)) hrest
    refine ⟨x :: xs, .cons h1 h4, .cons (.s h2) h5, ?_⟩
    rw [hB.c, D.bulks]
    omega
theorem qpN {f : Func} {fid : FuncId} {s : Go.ChangeSpec} {apart fresh handsOn again : Bool} {args : Array Value} {ds gs : List (DataW Hh)} {before : List MemPlace} {tb : TypeId} {ts : List TypeId} {pg : Pg} {i : Nat} {r : Go.Reach} {b : Nat}
    (hgl : GlOk M (g0 W) W) (hm : P.follows .mixedOrders = true) (hT : Tab P M pg) (hx : yG P M pg.ext) (hxlo : yc pg.ext) (hlook : look M.fm fid = some i) (hext : pg.fn i ≠ none)
    (hts : covers P ts = true) (hpar : ∀ t ∈ f.params.toList, t ∈ ts) {B : DataW Hh → Nat} {BA : List (DataW Hh) → Nat} (hB : Bulk B BA)
    (hval : ∀ (j : Nat) t v, f.params[j]? = some t → args[j]? = some v → Value.okWide P W r b t v)
    (hvars : s.vars = []) (hW : DataW.Whole enc P f.params.toList s.vars apart W args.toList ds gs before) (hs : s.fn Hh ds = { results := [.lit (.bool true)], args := ds }) (hres : f.resultTypes = #[tb]) (htb : P.underlying tb = some .bool)
    (hl : Go.laidOutB P = true) (hread : ∀ t ∈ f.params.toList, P.readableRec t = true ∧ t < P.types.size)
    (run : ∀ xs : List D, All2 (Arg P) f.params.toList xs → D.bulks xs ≤ BA ds → ∃ n r, qcc pg n i (xs.map .d) [] = some r ∧ r.pan = false ∧ r.v = .d (.b true)) :
    Calls P fid args W fun e W' => ∃ v, e = .returned v ∧ s.post enc P f apart fresh handsOn again W args v W' := by
  have hW' := hW
  obtain ⟨p, q, hA, hV, rfl, hfz, hnd⟩ := hW
  obtain ⟨xs, h1, h2, h3⟩ := qqM (M := M) hts hB 0 hpar (fun j t v ht hv => hval j t v (by simpa using ht) (by simpa using hv)) hA
  obtain ⟨n, q2, hrun, hp, hv⟩ := run xs h1 h3
  have hc := qqT hm hT hx hxlo hrun hlook hext h2 (qxj M W hgl)
  have ha : args.toList.toArray = args := by simp
  rw [ha] at hc
  refine hc.mono (fun e W' he => ?_)
  cases e with
  | returned v =>
    obtain ⟨_, g', hH, hE, hr⟩ := he
    rw [hv] at hr
    have hvb : v = .bool true := by
      cases hr with
      | s h => cases h with
        | d _ _ h => cases h; rfl
    subst hvb
    exact ⟨_, rfl, qvY hvars hW' hs hres htb hl hread hE.io (qzV hE)⟩
  | panicked ch =>
    obtain ⟨h, _⟩ := he
    rw [hp] at h; cases h
  | outgrown => exact he.elim
end
end W

/-
  What arguments read as, kind by kind.
-/
set_option linter.unusedSimpArgs false
set_option linter.unusedVariables false
namespace W
open Go (World Value Addr IntKind Program TypeId FuncId Func DataW MemPlace TypeDesc Lit)
theorem qiu {n a b : Nat} (h : look ((List.range n).map fun i => (i, i)) a = some b) : a = b := by
  have key : ∀ (l : List Nat), look (l.map fun i => (i, i)) a = some b → a = b := by
    intro l
    induction l with
    | nil => intro h; cases h
    | cons x l ih =>
      intro h
      simp only [qB4, look, qB5] at h
      split at h
      · rename_i hb
        cases h
        exact qCg hb
      · exact ih h
  exact key _ h
variable {P : Program} {t e : TypeId} {x : D}
theorem qoO {k : IntKind} (hu : P.underlying t = some (.int k)) (h : Arg P t x) : ∃ z, x = .i k z ∧ (Lit.int k z).wf = true := by
  obtain ⟨n, xs, ht, rfl⟩ := h
  cases n with
  | zero => exact ht.elim
  | succ n =>
    simp only [Ty, hu] at ht
    obtain ⟨z, rfl, hw⟩ := ht
    exact ⟨z, by simp [qcV, hu, elD], hw⟩
theorem qAt (hu : P.underlying t = some .bool) (h : Arg P t x) : ∃ z, x = .b z := by
  obtain ⟨n, xs, ht, rfl⟩ := h
  cases n with
  | zero => exact ht.elim
  | succ n =>
    simp only [Ty, hu] at ht
    obtain ⟨z, rfl⟩ := ht
    exact ⟨z, by simp [qcV, hu, elD]⟩
theorem qx3 (hu : P.underlying t = some .string) (h : Arg P t x) : ∃ s, x = .s s ∧ s.length ≤ Go.maxLen ∧ ∀ c ∈ s, c < 256 := by
  obtain ⟨n, xs, ht, rfl⟩ := h
  cases n with
  | zero => exact ht.elim
  | succ n =>
    simp only [Ty, hu] at ht
    obtain ⟨z, rfl, hw⟩ := ht
    exact ⟨z, by simp [qcV, hu, elD], hw⟩
theorem qux (hu : P.underlying t = some (.slice e)) (h : Arg P t x) : x = .nil ∨ ∃ l : List D, x = .sl l ∧ l.length ≤ Go.maxLen ∧ ∀ y ∈ l, Arg P e y := by
  obtain ⟨n, xs, ht, rfl⟩ := h
  cases n with
  | zero => exact ht.elim
  | succ n =>
    simp only [Ty, hu] at ht
    rcases ht with rfl | ⟨yss, rfl, hl, hy⟩
    · exact .inl (by simp [qcV, hu, elD])
    · refine .inr ⟨yss.map (elD (qcV P e)), by simp [qcV, hu, elD], by simpa using hl, fun y hm => ?_⟩
      obtain ⟨q, hq, rfl⟩ := List.mem_map.1 hm
      exact ⟨n, q, hy q hq, rfl⟩
theorem qvC {α : Type} {f : α → D} : ∀ {l : List D}, (∀ y ∈ l, ∃ a, y = f a) → ∃ L : List α, l = L.map f
  | [], _ => ⟨[], rfl⟩
  | y :: l, h => by
    obtain ⟨a, ha⟩ := h y (by simp)
    obtain ⟨L, hL⟩ := qvC (l := l) (fun z hz => h z (by simp [hz]))
    exact ⟨a :: L, by simp [ha, hL]⟩
inductive SlD {α : Type} (e : α → D) : D → List α → Prop
  | nil : SlD e .nil []
  | sl (L : List α) : SlD e (.sl (L.map e)) L
theorem SlD.len {α : Type} {e : α → D} {x : D} {L : List α} (h : SlD e x L) {H : List Obj} : qiG .lenL (.d x) H = some (.d (.i .i64 L.length)) := by
  cases h with
  | nil => rfl
  | sl => simp [qiG]
theorem SlD.ix {α : Type} {e : α → D} {x : D} {L : List α} (h : SlD e x L) {k : IntKind} {n size : Nat} {y : α} (he : (e y).cells.length = size) (hn : L[n]? = some y) : iaV (.d x) (.d (.i k (n : Nat))) size none = some (.cp (e y)) := by
  cases h with
  | nil => simp at hn
  | sl => exact qvL (by omega) (by simp [hn]) (by simp [he])
theorem qBL {α : Type} {f : α → D} (hu : P.underlying t = some (.slice e)) (h : Arg P t x) (he : ∀ y, Arg P e y → ∃ a, y = f a) : ∃ L, SlD f x L := by
  rcases qux hu h with rfl | ⟨l, rfl, _, hl⟩
  · exact ⟨[], .nil⟩
  · obtain ⟨L, rfl⟩ := qvC (f := f) (fun y hy => he y (hl y hy))
    exact ⟨L, .sl L⟩
end W

/-
  Tables that the rows list are what the small semantics reads.
-/
set_option linter.unusedSimpArgs false
set_option linter.unusedVariables false
namespace W
open Go (World Value Addr IntKind Program TypeId FuncId Func DataW MemPlace Lit)
theorem quX {W : World} {b i : Nat} {v : Value} (h : W.cell? ⟨b, i, none⟩ = some v) : i < (g0 W).pub b := by
  show i < (match W.heap[b]? with | some (.cells c _ _) => c.size | _ => 0)
  simp only [World.cell?] at h
  split at h
  · rename_i c t f hb
    rw [hb]
    simp only [Option.isSome_none, qBZ, if_false] at h
    exact (Array.getElem?_eq_some_iff.1 h).1
  · cases h
theorem qqo {pub : Nat → Nat} {w : World} (k : IntKind) : ∀ zs : List Int, RepDL pub w (zs.map (D.i k)) (zs.map fun z => Value.int k z)
  | [] => .nil
  | z :: zs => .cons _ _ _ _ (.i k z) (qqo k zs)
theorem qon {P : Program} {W : World} {name : String} {k : IntKind} {zs : List Int} {g : Nat} {t e : TypeId} {n : Nat}
    (hg : P.globalNamed name = some g) (hty : (P.globals[g]?).map (·.type) = some t) (ht : P.underlying t = some (.array n e)) (he : P.underlying e = some (.int k)) (hce : P.cellsOf e = 1) (hct : P.cellsOf t = n) :
    ∀ {laid : List (String × DataW Unit)} {ps : List MemPlace}, DataW.LaidVars P W laid ps → (name, Go.Lib.tabData k zs) ∈ laid → Go.Lib.TabIs P W name k zs
  | [], _, _, hm => by cases hm
  | (nm, d) :: rest, ps, h, hm => by
    obtain ⟨g', t', cs, fuel, p, q, hg', ht', hvar, hd, hrest, _⟩ := h
    rcases List.mem_cons.1 hm with e | hm
    · cases e
      obtain rfl := Option.some.inj (hg.symm.trans hg')
      obtain rfl := Option.some.inj (hty.symm.trans ht')
      unfold Go.Lib.TabIs
      rw [hvar, ← Go.Lib.cells_of_tab ht he hce hct hd]
    · exact qon hg hty ht he hce hct hrest hm
theorem quz {M : Maps} {P : Program} {W : World} (h2 : qyr M (g0 W) W) (h : ∀ n x, look M.gl n = some x → ∃ name k zs, P.globalNamed name = some n ∧ x = .agg (zs.map (D.i k)) ∧ zs ≠ [] ∧ Go.Lib.TabIs P W name k zs) : GlOk M (g0 W) W := by
  refine ⟨?_, h2⟩
  intro n x hn
  obtain ⟨name, k, zs, hg, rfl, hne, ht⟩ := h n x hn
  refine ⟨zs.map fun z => Value.int k z, qqo k zs, fun j v hj => ?_, ?_⟩
  · have hlt : j < zs.length := by
      have := (List.getElem?_eq_some_iff.1 hj).1
      simpa using this
    rw [qB9, ht.cell hg j hlt]
    have : (zs.map fun z => Value.int k z)[j]? = some (.int k (zs.getD j 0)) := by simp [List.getD, hlt]
    rw [this] at hj
    exact hj
  · have hpos : 0 < zs.length := by cases zs with | nil => exact absurd rfl hne | cons => simp
    have := quX (ht.cell hg (zs.length - 1) (by omega))
    simp only [List.length_map]
    omega
theorem qoT {P : Program} {W : World} {name : String} {g t : Nat} {tn : String} {x : DataW Unit}
    (hg : P.globalNamed name = some g) (hty : (P.globals[g]?).map (·.type) = some t) (hct : P.cellsOf t = 1) :
    ∀ {laid : List (String × DataW Unit)} {ps : List MemPlace}, DataW.LaidVars P W laid ps → (name, DataW.iface tn x) ∈ laid → (∃ ev, W.cell? ⟨g, 0, none⟩ = some ev ∧ (ev = .nilIface ∨ ∃ te pe, ev = .iface te pe)) ∧ 0 < (g0 W).pub g
  | [], _, _, hm => by cases hm
  | (nm, d) :: rest, ps, h, hm => by
    obtain ⟨g', t', cs, fuel, p, q, hg', ht', hvar, hd, hrest, _⟩ := h
    rcases List.mem_cons.1 hm with e | hm
    · cases e
      obtain rfl := Option.some.inj (hg.symm.trans hg')
      obtain rfl := Option.some.inj (hty.symm.trans ht')
      have hcs : ∃ u v, cs.toList = [.iface u v] := by
        generalize hl : cs.toList = l at hd
        cases fuel with
        | zero => simp [DataW.trod] at hd
        | succ fuel =>
          unfold DataW.trod at hd
          split at hd
          all_goals try (exact ⟨_, _, rfl⟩)
          all_goals exfalso
          all_goals try (cases hd; done)
          all_goals try (simp only [Option.map_eq_some_iff, qB8, Prod.mk.injEq, reduceCtorEq, false_and, and_false, exists_false, exists_const] at hd; done)
          all_goals try split at hd
          all_goals try (cases hd; done)
          all_goals try (simp only [Option.map_eq_some_iff, qB8, Prod.mk.injEq, reduceCtorEq, false_and, and_false, exists_false, exists_const] at hd; done)
          all_goals try split at hd
          all_goals try (cases hd; done)
          all_goals try (simp only [Option.map_eq_some_iff, qB8, Prod.mk.injEq, reduceCtorEq, false_and, and_false, exists_false, exists_const] at hd; done)
          all_goals (obtain ⟨en, _, hd⟩ := Option.bind_eq_some_iff.1 hd; simp only at hd; split at hd <;> cases hd)
      obtain ⟨u, v, hcs⟩ := hcs
      have hc1 : cs = #[.iface u v] := by rw [← Array.toList_inj]; exact hcs
      subst hc1
      have hh : ∃ T f, W.heap[g]? = some (.cells #[.iface u v] T f) := by
        simp only [World.var?, hg, Option.bind_some] at hvar
        split at hvar
        · rename_i cs' T f he
          simp only [Option.some.injEq] at hvar
          subst hvar
          exact ⟨T, f, he⟩
        · cases hvar
      obtain ⟨T, f, hh⟩ := hh
      refine ⟨⟨.iface u v, ?_, .inr ⟨u, v, rfl⟩⟩, ?_⟩
      · simp [World.cell?, hh]
      · simp [g0, hh]
    · exact qoT hg hty hct hrest hm
end W

/- The program is what the small semantics runs: the seat's table, shared by its laws. -/
set_option linter.unusedVariables false
set_option linter.unusedSimpArgs false
namespace Go.Proofs.YtdgbjjpdepdmmaaGreatDoor
open Go.ChangeShapes Go.WideShapes Go.ChangeAt Go.RowKit W
set_option maxRecDepth 100000
theorem own : ownKnob Tryz.prog.godebug = none := by kernel_rfl
theorem qxx {H : Type} : Bulk (Rows.uptoBulk (H := H)) Rows.uptoBulkAll :=
  ⟨fun _ => rfl, fun l => by cases l <;> simp [Rows.uptoBulk], rfl, fun _ _ => rfl, fun _ => rfl, rfl, fun _ _ => rfl⟩
def pg0 : W.Pg := ⟨W.prog, fun _ _ _ => none⟩
def maps : Maps := { fm := (List.range 408).map fun i => (i, i), tm := (List.range 378).map fun i => (i, i), gl := [(0, glD 0), (5, glD 5), (6, glD 6), (7, glD 7)], bk := [(141, ⟨4, true⟩), (239, ⟨6, true⟩), (240, ⟨10, true⟩)], gi := [3, 4] }
theorem qBO : zp maps Tryz.prog { loc := [23], org := [], mv := [(11, 2, 0), (11, 3, 0), (6, 2, 0)], bl := [(1, [38, 39, 40]), (0, [])], ll := [(0, [38, 39, 40])], cp := [21, 42] } true Tryz.f4 = some jo := by kernel_rfl
theorem qBG : zp maps Tryz.prog { loc := [1, 2], org := [(1, 1), (2, 2), (13, 2)], mv := [(3, 6, 1)], bl := [], ll := [] } true Tryz.f8 = some qfD := by kernel_rfl
theorem qA4 : zp maps Tryz.prog { loc := [2, 7], org := [(2, 2), (13, 2), (25, 2), (43, 2), (7, 7)], mv := [(13, 0, 0), (13, 3, 0), (3, 3, 0), (3, 4, 1)], bl := [(1, [2, 4, 5, 26, 27, 28]), (0, [2, 4, 5])], ll := [(0, [2, 4, 5, 26, 27, 28])] } true Tryz.f11 = some qhl := by kernel_rfl
theorem qA6 : zp maps Tryz.prog { loc := [], org := [], mv := [], bl := [], ll := [] } true Tryz.f14 = some jA := by kernel_rfl
theorem qBg : zp maps Tryz.prog { loc := [], org := [], mv := [], bl := [(1, [0, 3]), (0, [])], ll := [(0, [0, 3])] } true Tryz.f15 = some jz := by kernel_rfl
theorem qAJ : zp maps Tryz.prog { loc := [2], org := [(2, 2), (15, 2)], mv := [], bl := [], ll := [] } false Tryz.f20 = some qf7 := by kernel_rfl
theorem qBh : zp maps Tryz.prog { loc := [], org := [], mv := [], bl := [], ll := [] } false Tryz.f21 = some qh3 := by kernel_rfl
theorem qAl : zp maps Tryz.prog { loc := [1], org := [(1, 1), (7, 1), (12, 1), (18, 1), (24, 1), (32, 1), (38, 1), (44, 1), (50, 1), (56, 1), (61, 1), (64, 1), (67, 1), (81, 1)], mv := [(6, 3, 0), (5, 3, 0), (4, 3, 0), (1, 4, 0)], bl := [], ll := [] } true Tryz.f22 = some qjs := by kernel_rfl
theorem qAk : zp maps Tryz.prog { loc := [10], org := [(10, 10), (47, 10)], mv := [], bl := [(3, [4, 5, 6, 22, 23, 24]), (2, [4, 5, 6, 22, 23, 24]), (1, [4, 5, 6, 22, 23, 24]), (0, [5])], ll := [(0, [4, 5, 6, 22, 23, 24])], rl := [(2, [4, 5, 6, 8, 22, 23, 24])], rk := [(2, 141)] } true Tryz.f23 = some qhP := by kernel_rfl
theorem qBj : zp maps Tryz.prog { loc := [2, 8, 10, 12, 14, 16], org := [(2, 2), (21, 2), (25, 2), (30, 2), (37, 2), (48, 2), (60, 2), (72, 2), (84, 2), (96, 2), (108, 2), (8, 8), (68, 8), (10, 10), (80, 10), (12, 12), (92, 12), (14, 14), (104, 14), (16, 16), (116, 16)], mv := [(9, 4, 0), (9, 5, 1), (1, 3, 0)], bl := [(1, [0, 2, 4, 38, 39, 40]), (0, [2, 4]), (3, [2, 4, 61, 62, 63]), (2, [2, 4]), (5, [2, 4, 73, 74, 75]), (4, [2, 4]), (7, [2, 4, 85, 86, 87]), (6, [2, 4]), (9, [2, 4, 97, 98, 99]), (8, [2, 4]), (11, [4, 109, 110, 111]), (10, [])], ll := [(0, [0, 2, 4, 38, 39, 40]), (2, [2, 4, 61, 62, 63]), (4, [2, 4, 73, 74, 75]), (6, [2, 4, 85, 86, 87]), (8, [2, 4, 97, 98, 99]), (10, [4, 109, 110, 111])] } false Tryz.f24 = some qc4 := by kernel_rfl
theorem qBm : zp maps Tryz.prog { loc := [3, 5, 10, 12], org := [(3, 3), (31, 3), (43, 3), (5, 5), (57, 5), (68, 5), (75, 5), (107, 5), (125, 5), (10, 10), (98, 10), (104, 10), (12, 12), (114, 12), (119, 12)], mv := [(11, 0, 0), (11, 1, 0)], bl := [(1, [0, 17, 18, 19]), (0, [0]), (5, [0, 5, 8, 51, 52, 53, 91, 92, 93]), (4, [0, 5, 51, 52, 53]), (7, [0, 5, 51, 52, 53, 108, 109, 110]), (6, [0, 5, 51, 52, 53]), (3, [0, 51, 52, 53]), (2, [])], ll := [(0, [0, 17, 18, 19]), (2, [0, 51, 52, 53]), (4, [0, 5, 8, 51, 52, 53, 91, 92, 93]), (6, [0, 5, 51, 52, 53, 108, 109, 110])] } false Tryz.f25 = some qct := by kernel_rfl
theorem qAO : zp maps Tryz.prog { loc := [3, 5, 8, 10], org := [(3, 3), (22, 3), (25, 3), (26, 3), (30, 3), (31, 3), (32, 3), (5, 5), (49, 5), (8, 8), (65, 8), (80, 8), (83, 8), (10, 10), (104, 10)], mv := [], bl := [(1, [0, 15, 16, 17]), (0, [0]), (3, [0, 42, 43, 44]), (2, [0]), (5, [0, 6, 57, 58, 59]), (4, [0]), (7, [0, 90, 91, 92]), (6, [])], ll := [(0, [0, 15, 16, 17]), (2, [0, 42, 43, 44]), (4, [0, 6, 57, 58, 59]), (6, [0, 90, 91, 92])] } false Tryz.f26 = some qb7 := by kernel_rfl
theorem qA9 : zp maps Tryz.prog { loc := [5], org := [(5, 5), (17, 5)], mv := [(7, 1, 0), (7, 2, 1)], bl := [(3, [0, 8, 9, 10, 18, 19, 20]), (2, [0, 8, 9, 10]), (1, [0, 8, 9, 10]), (0, [])], ll := [(0, [0, 8, 9, 10]), (2, [0, 8, 9, 10, 18, 19, 20])] } false Tryz.f28 = some qc7 := by kernel_rfl
theorem qAP : zp maps Tryz.prog { loc := [5], org := [(5, 5), (21, 5)], mv := [(6, 4, 1), (6, 0, 9), (6, 3, 0), (5, 3, 1), (2, 3, 1)], bl := [(1, [2, 3, 4]), (0, [2, 3])], ll := [(0, [2, 3, 4])] } false Tryz.f33 = some f_scan_All := by kernel_rfl
theorem qAB : zp maps Tryz.prog { loc := [], org := [], mv := [(1, 3, 0), (1, 1, 0), (1, 2, 1)], bl := [], ll := [] } true Tryz.f34 = some qcm := by kernel_rfl
theorem qAA : zp maps Tryz.prog { loc := [], org := [], mv := [(1, 1, 0)], bl := [(1, [0, 3, 4]), (0, [])], ll := [(0, [0, 3, 4])] } true Tryz.f35 = some qaO := by kernel_rfl
theorem qBf : zp maps Tryz.prog { loc := [], org := [], mv := [], bl := [(0, [])], ll := [] } true Tryz.f36 = some qaE := by kernel_rfl
theorem qA8 : zp maps Tryz.prog { loc := [], org := [], mv := [], bl := [], ll := [] } true Tryz.f49 = some qla := by kernel_rfl
theorem qAD : zp maps Tryz.prog { loc := [], org := [], mv := [], bl := [], ll := [] } true Tryz.f50 = some qle := by kernel_rfl
theorem qA5 : zp maps Tryz.prog { loc := [], org := [], mv := [(1, 3, 0)], bl := [], ll := [] } true Tryz.f51 = some qgv := by kernel_rfl
theorem qAx : zp maps Tryz.prog { loc := [5], org := [(5, 5), (16, 5)], mv := [(9, 1, 0), (9, 2, 0)], bl := [(3, [3, 8, 9, 10, 17, 18, 19]), (2, [3, 8, 9, 10]), (1, [3, 8, 9, 10]), (0, [3])], ll := [(0, [3, 8, 9, 10]), (2, [3, 8, 9, 10, 17, 18, 19])] } true Tryz.f52 = some qlq := by kernel_rfl
theorem qAG : zp maps Tryz.prog { loc := [4], org := [(4, 4), (15, 4), (21, 4), (28, 4), (35, 4), (40, 4)], mv := [], bl := [(1, [9, 10, 11]), (0, [])], ll := [(0, [9, 10, 11])] } true Tryz.f53 = some qgE := by kernel_rfl
theorem qAi : zp maps Tryz.prog { loc := [], org := [], mv := [(1, 1, 0), (1, 2, 1), (1, 0, 0), (1, 2, 0)], bl := [], ll := [] } true Tryz.f54 = some yM := by kernel_rfl
theorem qBb : zp maps Tryz.prog { loc := [], org := [], mv := [(1, 1, 0), (1, 2, 1), (1, 0, 0), (1, 2, 0)], bl := [], ll := [] } true Tryz.f56 = some jM := by kernel_rfl
theorem qAX : zp maps Tryz.prog { loc := [1], org := [(1, 1)], mv := [], bl := [], ll := [] } true Tryz.f58 = some qhp := by kernel_rfl
theorem qBl : zp maps Tryz.prog { loc := [], org := [], mv := [(1, 1, 0), (1, 2, 1), (1, 0, 0), (1, 2, 0)], bl := [], ll := [] } true Tryz.f59 = some yq := by kernel_rfl
theorem qAF : zp maps Tryz.prog { loc := [], org := [], mv := [(1, 1, 0), (1, 2, 1), (1, 0, 0), (1, 2, 0)], bl := [], ll := [] } true Tryz.f61 = some ya := by kernel_rfl
theorem qAj : zp maps Tryz.prog { loc := [], org := [], mv := [(0, 0, 0), (0, 1, 0)], bl := [], ll := [] } false Tryz.f65 = some qhy := by kernel_rfl
theorem qAT : zp maps Tryz.prog { loc := [], org := [], mv := [(0, 2, 0)], bl := [], ll := [] } false Tryz.f66 = some qcu := by kernel_rfl
theorem qAn : zp maps Tryz.prog { loc := [], org := [], mv := [], bl := [], ll := [] } true Tryz.f68 = some qdz := by kernel_rfl
theorem qBo : zp maps Tryz.prog { loc := [3], org := [(3, 3)], mv := [(4, 0, 0), (4, 1, 0)], bl := [], ll := [] } true Tryz.f70 = some qdF := by kernel_rfl
theorem qAM : zp maps Tryz.prog { loc := [3, 5, 7, 8], org := [(3, 3), (10, 3), (13, 3), (22, 3), (33, 3), (44, 3), (93, 3), (94, 3), (100, 3), (109, 3), (114, 3), (119, 3), (138, 3), (143, 3), (51, 3), (53, 3), (60, 3), (5, 5), (7, 7), (8, 8)], mv := [(26, 0, 0), (26, 2, 0), (24, 0, 0), (24, 2, 0), (19, 0, 0), (19, 2, 0), (17, 0, 0), (17, 2, 0), (2, 4, 0)], bl := [(1, [0, 23, 24, 25]), (0, []), (3, [0, 3, 34, 35, 36]), (2, [0, 3]), (4, [])], ll := [(0, [0, 23, 24, 25]), (2, [0, 3, 34, 35, 36])] } false Tryz.f71 = some qdn := by kernel_rfl
theorem qAV : zp maps Tryz.prog { loc := [], org := [], mv := [(0, 0, 0), (0, 1, 0)], bl := [], ll := [] } false Tryz.f72 = some qhf := by kernel_rfl
theorem qAq : zp maps Tryz.prog { loc := [2, 3], org := [(2, 2), (3, 3)], mv := [(1, 5, 0)], bl := [], ll := [] } true Tryz.f75 = some qh7 := by kernel_rfl
theorem qAr : zp maps Tryz.prog { loc := [3, 4, 6], org := [(3, 3), (7, 3), (17, 3), (23, 3), (28, 3), (38, 3), (49, 3), (54, 3), (65, 3), (98, 3), (101, 3), (106, 3), (109, 3), (116, 3), (128, 3), (131, 3), (4, 4), (69, 4), (73, 4), (74, 4), (79, 4), (6, 6)], mv := [(2, 0, 0), (2, 2, 0), (30, 0, 0), (30, 2, 0), (28, 0, 0), (28, 2, 0), (26, 0, 0), (26, 2, 0), (22, 0, 0), (22, 2, 0), (19, 0, 0), (19, 2, 0), (17, 0, 0), (17, 2, 0), (7, 5, 0)], bl := [(2, [0, 4, 80, 81, 82]), (1, [0, 4]), (0, [])], ll := [(1, [0, 4, 80, 81, 82])] } false Tryz.f77 = some qdp := by kernel_rfl
theorem qAS : zp maps Tryz.prog { loc := [3], org := [(3, 3), (16, 3)], mv := [(5, 4, 1)], bl := [], ll := [] } false Tryz.f82 = some f_scan_All_1 := by kernel_rfl
theorem qAW : zp maps Tryz.prog { loc := [2, 4], org := [(2, 2), (4, 4), (61, 4), (62, 4)], mv := [(4, 2, 1), (12, 2, 1), (11, 2, 0), (10, 2, 1), (9, 10, 0), (8, 2, 1), (7, 10, 0)], bl := [(0, [0, 2, 3, 4])], ll := [] } true Tryz.f83 = some f_scan_scanner_next := by kernel_rfl
theorem qAz : zp maps Tryz.prog { loc := [], org := [], mv := [(1, 1, 0), (1, 2, 1), (1, 0, 0), (1, 2, 0)], bl := [], ll := [] } true Tryz.f84 = some kU := by kernel_rfl
theorem qAC : zp maps Tryz.prog { loc := [], org := [], mv := [(14, 2, 0), (13, 2, 0), (13, 0, 0), (13, 1, 0), (9, 4, 0)], bl := [(1, [0, 3, 4, 5, 6]), (0, [0, 3, 5]), (3, [0, 9, 10, 12]), (2, [0, 9, 10, 12]), (7, [0, 9, 10, 12]), (6, [0, 9, 10, 12]), (5, [0, 9, 10, 11, 12]), (4, [0, 9, 10, 11])], ll := [(0, [0, 3, 4, 5, 6]), (2, [0, 9, 10, 12]), (4, [0, 9, 10, 11, 12]), (6, [0, 9, 10, 12])] } true Tryz.f85 = some qgF := by kernel_rfl
theorem qAy : zp maps Tryz.prog { loc := [], org := [], mv := [(1, 1, 0)], bl := [], ll := [] } true Tryz.f86 = some qaG := by kernel_rfl
theorem qy8 : zp maps Tryz.prog { loc := [], org := [], mv := [(1, 1, 0), (1, 2, 1), (1, 0, 0), (1, 2, 0)], bl := [], ll := [] } true Tryz.f125 = some yn := by kernel_rfl
theorem qzp : zp maps Tryz.prog { loc := [1], org := [(1, 1), (3, 1), (8, 1)], mv := [], bl := [], ll := [] } true Tryz.f126 = some qfk := by kernel_rfl
theorem qyX : zp maps Tryz.prog { loc := [2], org := [(2, 2), (8, 2), (13, 2), (19, 2)], mv := [], bl := [], ll := [] } true Tryz.f127 = some qgq := by kernel_rfl
theorem qzH : zp maps Tryz.prog { loc := [], org := [], mv := [(1, 1, 0), (1, 2, 1), (1, 0, 0), (1, 2, 0)], bl := [], ll := [] } true Tryz.f128 = some j2 := by kernel_rfl
theorem qzu : zp maps Tryz.prog { loc := [1], org := [(1, 1)], mv := [], bl := [], ll := [] } true Tryz.f129 = some qfc := by kernel_rfl
theorem qzc : zp maps Tryz.prog { loc := [], org := [], mv := [(1, 1, 0), (1, 2, 1), (1, 0, 0), (1, 2, 0)], bl := [], ll := [] } true Tryz.f130 = some jH := by kernel_rfl
theorem qyY : zp maps Tryz.prog { loc := [], org := [], mv := [], bl := [(1, [0, 1, 7, 8]), (0, [])], ll := [(0, [0, 1, 7, 8])] } true Tryz.f132 = some qap := by kernel_rfl
theorem qzo : zp maps Tryz.prog { loc := [], org := [], mv := [], bl := [(1, [0, 1, 7, 8]), (0, [])], ll := [(0, [0, 1, 7, 8])] } true Tryz.f133 = some yi := by kernel_rfl
theorem qzE : zp maps Tryz.prog { loc := [1, 5], org := [(1, 1), (6, 1), (5, 5)], mv := [], bl := [(1, [3, 7, 8, 9]), (0, [3])], ll := [(0, [3, 7, 8, 9])] } true Tryz.f134 = some qjS := by kernel_rfl
theorem qzh : zp maps Tryz.prog { loc := [1], org := [(1, 1), (3, 1), (8, 1), (13, 1), (19, 1)], mv := [], bl := [], ll := [] } true Tryz.f135 = some qgH := by kernel_rfl
theorem qzJ : zp maps Tryz.prog { loc := [], org := [], mv := [], bl := [(1, [0, 1, 7, 8]), (0, [])], ll := [(0, [0, 1, 7, 8])] } true Tryz.f136 = some y7 := by kernel_rfl
theorem qyJ : zp maps Tryz.prog { loc := [], org := [], mv := [], bl := [(1, [0, 1, 7, 8]), (0, [])], ll := [(0, [0, 1, 7, 8])] } true Tryz.f137 = some yD := by kernel_rfl
theorem qy9 : zp maps Tryz.prog { loc := [1], org := [(1, 1), (4, 1), (7, 1), (11, 1), (16, 1), (22, 1), (25, 1), (29, 1), (34, 1), (39, 1), (45, 1), (52, 1), (56, 1), (60, 1), (64, 1), (69, 1)], mv := [(1, 3, 0)], bl := [(0, [])], ll := [] } true Tryz.f147 = some qiO := by kernel_rfl
theorem qzU : zp maps Tryz.prog { loc := [3], org := [(3, 3), (5, 3), (9, 3), (21, 3)], mv := [], bl := [(0, [])], ll := [] } true Tryz.f148 = some qga := by kernel_rfl
theorem qzg : zp maps Tryz.prog { loc := [2], org := [(2, 2)], mv := [(2, 3, 0), (2, 0, 0), (2, 2, 0)], bl := [], ll := [] } false Tryz.f149 = some qiS := by kernel_rfl
theorem qzl : zp maps Tryz.prog { loc := [3], org := [(3, 3), (9, 3), (16, 3)], mv := [], bl := [], ll := [] } true Tryz.f151 = some qh8 := by kernel_rfl
theorem qzk : zp maps Tryz.prog { loc := [3, 4], org := [(3, 3), (11, 3), (16, 3), (27, 3), (34, 3), (39, 3), (4, 4)], mv := [(5, 4, 0), (4, 0, 0), (4, 1, 0)], bl := [], ll := [] } false Tryz.f154 = some qds := by kernel_rfl
theorem qyH : zp maps Tryz.prog { loc := [2, 3], org := [(2, 2), (5, 2), (11, 2), (18, 2), (25, 2), (32, 2), (3, 3), (7, 3), (13, 3), (20, 3), (27, 3), (34, 3)], mv := [], bl := [], ll := [] } true Tryz.f160 = some qhk := by kernel_rfl
theorem qyD : zp maps Tryz.prog { loc := [], org := [], mv := [], bl := [], ll := [] } true Tryz.f162 = some qiL := by kernel_rfl
theorem qzM : zp maps Tryz.prog { loc := [3, 5], org := [(3, 3), (6, 3), (10, 3), (15, 3), (21, 3), (28, 3), (39, 3), (49, 3), (5, 5)], mv := [], bl := [(0, [0, 3]), (2, [0, 3, 50, 51, 52]), (1, [0, 3])], ll := [(1, [0, 3, 50, 51, 52])] } false Tryz.f171 = some qcd := by kernel_rfl
theorem qzm : zp maps Tryz.prog { loc := [], org := [], mv := [(13, 0, 0), (13, 1, 0), (2, 2, 0)], bl := [(2, [0, 2, 3]), (1, [0, 2, 3]), (0, [2, 3])], ll := [(0, [0, 2, 3])] } false Tryz.f173 = some qak := by kernel_rfl
theorem qy1 : zp maps Tryz.prog { loc := [], org := [], mv := [], bl := [], ll := [] } true Tryz.f174 = some qdX := by kernel_rfl
theorem qy6 : zp maps Tryz.prog { loc := [2], org := [(2, 2)], mv := [(5, 3, 0), (4, 0, 0), (4, 1, 0), (2, 2, 0), (2, 0, 0), (2, 1, 0)], bl := [(0, [2, 4])], ll := [] } true Tryz.f175 = some yf := by kernel_rfl
theorem qyV : zp maps Tryz.prog { loc := [], org := [], mv := [], bl := [], ll := [] } true Tryz.f176 = some qeY := by kernel_rfl
theorem qzj : zp maps Tryz.prog { loc := [2], org := [(2, 2)], mv := [(12, 0, 0), (12, 1, 0), (10, 2, 0), (10, 3, 2), (10, 1, 0), (10, 3, 1), (10, 0, 0), (10, 3, 0), (7, 2, 0), (4, 2, 0), (2, 2, 0)], bl := [(0, [2, 3, 4, 5, 6, 7])], ll := [] } true Tryz.f177 = some zz := by kernel_rfl
theorem qyS : zp maps Tryz.prog { loc := [], org := [], mv := [(1, 11, 0), (1, 9, 0), (1, 10, 1)], bl := [], ll := [] } true Tryz.f178 = some qbw := by kernel_rfl
theorem qzq : zp maps Tryz.prog { loc := [2], org := [(2, 2)], mv := [(7, 0, 0), (7, 1, 0), (5, 0, 0), (5, 1, 0), (3, 2, 0)], bl := [(0, [0, 2, 4])], ll := [] } true Tryz.f179 = some ye := by kernel_rfl
theorem qyM : zp maps Tryz.prog { loc := [2], org := [(2, 2)], mv := [], bl := [(1, [0, 2, 5, 6, 7]), (0, [0, 2])], ll := [(0, [0, 2, 5, 6, 7])], cp := [9] } true Tryz.f180 = some zR := by kernel_rfl
theorem qzW : zp maps Tryz.prog { loc := [], org := [], mv := [], bl := [(1, [0, 1, 7, 8]), (0, [])], ll := [(0, [0, 1, 7, 8])] } true Tryz.f181 = some ju := by kernel_rfl
theorem qzN : zp maps Tryz.prog { loc := [], org := [], mv := [], bl := [(1, [0, 1, 7, 8]), (0, [])], ll := [(0, [0, 1, 7, 8])] } true Tryz.f230 = some yX := by kernel_rfl
theorem qz6 : zp maps Tryz.prog { loc := [], org := [], mv := [(1, 1, 0), (1, 2, 1), (1, 0, 0), (1, 2, 0)], bl := [], ll := [] } true Tryz.f231 = some j4 := by kernel_rfl
theorem qyL : zp maps Tryz.prog { loc := [], org := [], mv := [], bl := [(1, [0, 1, 7, 8]), (0, [])], ll := [(0, [0, 1, 7, 8])] } true Tryz.f233 = some yF := by kernel_rfl
theorem qyE : zp maps Tryz.prog { loc := [], org := [], mv := [], bl := [(1, [0, 1, 7, 8]), (0, [])], ll := [(0, [0, 1, 7, 8])] } true Tryz.f234 = some jU := by kernel_rfl
theorem qzZ : zp maps Tryz.prog { loc := [3], org := [(3, 3), (11, 3), (15, 3), (24, 3), (30, 3), (34, 3), (38, 3)], mv := [(9, 4, 0), (9, 0, 0), (9, 3, 0), (4, 6, 0), (4, 0, 0), (4, 5, 0)], bl := [(0, [])], ll := [] } true Tryz.f242 = some qeA := by kernel_rfl
theorem qzB : zp maps Tryz.prog { loc := [], org := [], mv := [(1, 1, 0), (1, 2, 1), (1, 0, 0), (1, 2, 0)], bl := [], ll := [] } true Tryz.f244 = some qfj := by kernel_rfl
theorem qzG : zp maps Tryz.prog { loc := [2, 3], org := [(2, 2), (5, 2), (11, 2), (18, 2), (25, 2), (3, 3), (7, 3), (13, 3), (20, 3), (27, 3)], mv := [], bl := [], ll := [] } true Tryz.f252 = some qhd := by kernel_rfl
theorem qyz : zp maps Tryz.prog { loc := [8, 9], org := [(8, 8), (9, 9)], mv := [], bl := [(1, [1, 2, 15, 16, 17]), (0, [])], ll := [(0, [1, 2, 15, 16, 17])] } true Tryz.f253 = some zP := by kernel_rfl
theorem qzw : zp maps Tryz.prog { loc := [8, 9], org := [(8, 8), (9, 9)], mv := [], bl := [(1, [1, 2, 15, 16, 17]), (0, [])], ll := [(0, [1, 2, 15, 16, 17])] } true Tryz.f254 = some zO := by kernel_rfl
theorem qyy : zp maps Tryz.prog { loc := [], org := [], mv := [(1, 3, 0), (1, 1, 0), (1, 2, 1), (1, 0, 0), (1, 2, 0)], bl := [], ll := [] } true Tryz.f255 = some qa5 := by kernel_rfl
theorem qzD : zp maps Tryz.prog { loc := [3], org := [(3, 3), (9, 3), (12, 3), (17, 3), (24, 3), (33, 3), (41, 3), (46, 3), (55, 3), (62, 3), (78, 3)], mv := [(4, 14, 0)], bl := [(1, [3, 71, 72, 73]), (0, [])], ll := [(0, [3, 71, 72, 73])] } true Tryz.f256 = some qgf := by kernel_rfl
theorem qzL : zp maps Tryz.prog { loc := [], org := [], mv := [], bl := [], ll := [] } false Tryz.f258 = some qgb := by kernel_rfl
theorem qyO : zp maps Tryz.prog { loc := [], org := [], mv := [], bl := [(1, [0, 1, 5]), (0, [0, 5])], ll := [(0, [0, 1, 5])] } true Tryz.f259 = some qaV := by kernel_rfl
theorem qzO : zp maps Tryz.prog { loc := [], org := [], mv := [(1, 2, 0)], bl := [], ll := [] } true Tryz.f260 = some qeK := by kernel_rfl
theorem qyQ : zp maps Tryz.prog { loc := [], org := [], mv := [(1, 1, 0)], bl := [], ll := [] } true Tryz.f261 = some qhh := by kernel_rfl
theorem qyR : zp maps Tryz.prog { loc := [], org := [], mv := [(1, 2, 0)], bl := [], ll := [] } true Tryz.f262 = some qgW := by kernel_rfl
theorem qzr : zp maps Tryz.prog { loc := [], org := [], mv := [(3, 7, 0), (3, 4, 0), (3, 5, 4), (3, 3, 0), (3, 5, 3), (3, 2, 0), (3, 5, 2), (3, 1, 0), (3, 5, 1)], bl := [], ll := [] } false Tryz.f263 = some qaf := by kernel_rfl
theorem qyZ : zp maps Tryz.prog { loc := [], org := [], mv := [], bl := [], ll := [] } true Tryz.f264 = some qaF := by kernel_rfl
theorem qzy : zp maps Tryz.prog { loc := [], org := [], mv := [], bl := [(1, [0, 1, 7, 8]), (0, [])], ll := [(0, [0, 1, 7, 8])] } true Tryz.f292 = some yE := by kernel_rfl
theorem qy4 : zp maps Tryz.prog { loc := [], org := [], mv := [(1, 3, 0), (1, 1, 0), (1, 2, 1), (1, 0, 0), (1, 2, 0)], bl := [], ll := [] } true Tryz.f294 = some qhg := by kernel_rfl
theorem qzA : zp maps Tryz.prog { loc := [], org := [], mv := [], bl := [], ll := [] } true Tryz.f299 = some zG := by kernel_rfl
theorem qzz : zp maps Tryz.prog { loc := [], org := [], mv := [(17, 1, 0), (15, 1, 0), (13, 1, 0), (11, 1, 0), (9, 1, 0), (7, 1, 0), (4, 1, 0)], bl := [(0, [])], ll := [] } false Tryz.f301 = some qiH := by kernel_rfl
theorem qz2 : zp maps Tryz.prog { loc := [], org := [], mv := [(45, 0, 0), (45, 1, 0)], bl := [(1, [0, 1, 2, 8, 9]), (0, [0, 1, 2, 8, 9]), (2, [0, 1, 2, 8, 9, 10]), (5, [1, 8, 9, 10, 11, 12, 13, 16, 99, 100, 101]), (4, [1, 8, 9, 10, 11, 12, 13, 99, 100, 101]), (3, [9, 12, 13])], ll := [(3, [1, 8, 9, 10, 11, 12, 13, 99, 100, 101])] } false Tryz.f303 = some zD := by kernel_rfl
theorem qzt : zp maps Tryz.prog { loc := [], org := [], mv := [(31, 5, 0), (31, 3, 0), (31, 4, 1), (26, 3, 0), (26, 4, 1), (17, 7, 0), (9, 1, 0), (9, 2, 1), (9, 0, 0), (9, 2, 0), (5, 4, 0), (5, 0, 0), (5, 3, 0)], bl := [(0, [0, 1, 5]), (2, [0, 1, 5, 6, 7, 8, 9, 10]), (1, [])], ll := [(1, [0, 1, 5, 6, 7, 8, 9, 10])] } true Tryz.f322 = some qbF := by kernel_rfl
theorem qz3 : zp maps Tryz.prog { loc := [], org := [], mv := [], bl := [], ll := [] } true Tryz.f324 = some yI := by kernel_rfl
theorem qBB : qAN Tryz.prog maps pg0 := by
  intro f' i hl fn' hf
  have e : f' = i := qiu hl
  subst e
  unfold pg0 prog at hf
  simp only [qB5] at hf
  by_cases h4 : f' = 4
  · subst h4; simp at hf; subst hf; exact ⟨_, _, _, Tryz.func4, by decide +kernel, qBO⟩
  rw [if_neg (by simpa using h4)] at hf
  by_cases h8 : f' = 8
  · subst h8; simp at hf; subst hf; exact ⟨_, _, _, Tryz.func8, by decide +kernel, qBG⟩
  rw [if_neg (by simpa using h8)] at hf
  by_cases h11 : f' = 11
  · subst h11; simp at hf; subst hf; exact ⟨_, _, _, Tryz.func11, by decide +kernel, qA4⟩
  rw [if_neg (by simpa using h11)] at hf
  by_cases h14 : f' = 14
  · subst h14; simp at hf; subst hf; exact ⟨_, _, _, Tryz.func14, by decide +kernel, qA6⟩
  rw [if_neg (by simpa using h14)] at hf
  by_cases h15 : f' = 15
  · subst h15; simp at hf; subst hf; exact ⟨_, _, _, Tryz.func15, by decide +kernel, qBg⟩
  rw [if_neg (by simpa using h15)] at hf
  by_cases h20 : f' = 20
  · subst h20; simp at hf; subst hf; exact ⟨_, _, _, Tryz.func20, by decide +kernel, qAJ⟩
  rw [if_neg (by simpa using h20)] at hf
  by_cases h21 : f' = 21
  · subst h21; simp at hf; subst hf; exact ⟨_, _, _, Tryz.func21, by decide +kernel, qBh⟩
  rw [if_neg (by simpa using h21)] at hf
  by_cases h22 : f' = 22
  · subst h22; simp at hf; subst hf; exact ⟨_, _, _, Tryz.func22, by decide +kernel, qAl⟩
  rw [if_neg (by simpa using h22)] at hf
  by_cases h23 : f' = 23
  · subst h23; simp at hf; subst hf; exact ⟨_, _, _, Tryz.func23, by decide +kernel, qAk⟩
  rw [if_neg (by simpa using h23)] at hf
  by_cases h24 : f' = 24
  · subst h24; simp at hf; subst hf; exact ⟨_, _, _, Tryz.func24, by decide +kernel, qBj⟩
  rw [if_neg (by simpa using h24)] at hf
  by_cases h25 : f' = 25
  · subst h25; simp at hf; subst hf; exact ⟨_, _, _, Tryz.func25, by decide +kernel, qBm⟩
  rw [if_neg (by simpa using h25)] at hf
  by_cases h26 : f' = 26
  · subst h26; simp at hf; subst hf; exact ⟨_, _, _, Tryz.func26, by decide +kernel, qAO⟩
  rw [if_neg (by simpa using h26)] at hf
  by_cases h28 : f' = 28
  · subst h28; simp at hf; subst hf; exact ⟨_, _, _, Tryz.func28, by decide +kernel, qA9⟩
  rw [if_neg (by simpa using h28)] at hf
  by_cases h33 : f' = 33
  · subst h33; simp at hf; subst hf; exact ⟨_, _, _, Tryz.func33, by decide +kernel, qAP⟩
  rw [if_neg (by simpa using h33)] at hf
  by_cases h34 : f' = 34
  · subst h34; simp at hf; subst hf; exact ⟨_, _, _, Tryz.func34, by decide +kernel, qAB⟩
  rw [if_neg (by simpa using h34)] at hf
  by_cases h35 : f' = 35
  · subst h35; simp at hf; subst hf; exact ⟨_, _, _, Tryz.func35, by decide +kernel, qAA⟩
  rw [if_neg (by simpa using h35)] at hf
  by_cases h36 : f' = 36
  · subst h36; simp at hf; subst hf; exact ⟨_, _, _, Tryz.func36, by decide +kernel, qBf⟩
  rw [if_neg (by simpa using h36)] at hf
  by_cases h49 : f' = 49
  · subst h49; simp at hf; subst hf; exact ⟨_, _, _, Tryz.func49, by decide +kernel, qA8⟩
  rw [if_neg (by simpa using h49)] at hf
  by_cases h50 : f' = 50
  · subst h50; simp at hf; subst hf; exact ⟨_, _, _, Tryz.func50, by decide +kernel, qAD⟩
  rw [if_neg (by simpa using h50)] at hf
  by_cases h51 : f' = 51
  · subst h51; simp at hf; subst hf; exact ⟨_, _, _, Tryz.func51, by decide +kernel, qA5⟩
  rw [if_neg (by simpa using h51)] at hf
  by_cases h52 : f' = 52
  · subst h52; simp at hf; subst hf; exact ⟨_, _, _, Tryz.func52, by decide +kernel, qAx⟩
  rw [if_neg (by simpa using h52)] at hf
  by_cases h53 : f' = 53
  · subst h53; simp at hf; subst hf; exact ⟨_, _, _, Tryz.func53, by decide +kernel, qAG⟩
  rw [if_neg (by simpa using h53)] at hf
  by_cases h54 : f' = 54
  · subst h54; simp at hf; subst hf; exact ⟨_, _, _, Tryz.func54, by decide +kernel, qAi⟩
  rw [if_neg (by simpa using h54)] at hf
  by_cases h56 : f' = 56
  · subst h56; simp at hf; subst hf; exact ⟨_, _, _, Tryz.func56, by decide +kernel, qBb⟩
  rw [if_neg (by simpa using h56)] at hf
  by_cases h58 : f' = 58
  · subst h58; simp at hf; subst hf; exact ⟨_, _, _, Tryz.func58, by decide +kernel, qAX⟩
  rw [if_neg (by simpa using h58)] at hf
  by_cases h59 : f' = 59
  · subst h59; simp at hf; subst hf; exact ⟨_, _, _, Tryz.func59, by decide +kernel, qBl⟩
  rw [if_neg (by simpa using h59)] at hf
  by_cases h61 : f' = 61
  · subst h61; simp at hf; subst hf; exact ⟨_, _, _, Tryz.func61, by decide +kernel, qAF⟩
  rw [if_neg (by simpa using h61)] at hf
  by_cases h65 : f' = 65
  · subst h65; simp at hf; subst hf; exact ⟨_, _, _, Tryz.func65, by decide +kernel, qAj⟩
  rw [if_neg (by simpa using h65)] at hf
  by_cases h66 : f' = 66
  · subst h66; simp at hf; subst hf; exact ⟨_, _, _, Tryz.func66, by decide +kernel, qAT⟩
  rw [if_neg (by simpa using h66)] at hf
  by_cases h68 : f' = 68
  · subst h68; simp at hf; subst hf; exact ⟨_, _, _, Tryz.func68, by decide +kernel, qAn⟩
  rw [if_neg (by simpa using h68)] at hf
  by_cases h70 : f' = 70
  · subst h70; simp at hf; subst hf; exact ⟨_, _, _, Tryz.func70, by decide +kernel, qBo⟩
  rw [if_neg (by simpa using h70)] at hf
  by_cases h71 : f' = 71
  · subst h71; simp at hf; subst hf; exact ⟨_, _, _, Tryz.func71, by decide +kernel, qAM⟩
  rw [if_neg (by simpa using h71)] at hf
  by_cases h72 : f' = 72
  · subst h72; simp at hf; subst hf; exact ⟨_, _, _, Tryz.func72, by decide +kernel, qAV⟩
  rw [if_neg (by simpa using h72)] at hf
  by_cases h75 : f' = 75
  · subst h75; simp at hf; subst hf; exact ⟨_, _, _, Tryz.func75, by decide +kernel, qAq⟩
  rw [if_neg (by simpa using h75)] at hf
  by_cases h77 : f' = 77
  · subst h77; simp at hf; subst hf; exact ⟨_, _, _, Tryz.func77, by decide +kernel, qAr⟩
  rw [if_neg (by simpa using h77)] at hf
  by_cases h82 : f' = 82
  · subst h82; simp at hf; subst hf; exact ⟨_, _, _, Tryz.func82, by decide +kernel, qAS⟩
  rw [if_neg (by simpa using h82)] at hf
  by_cases h83 : f' = 83
  · subst h83; simp at hf; subst hf; exact ⟨_, _, _, Tryz.func83, by decide +kernel, qAW⟩
  rw [if_neg (by simpa using h83)] at hf
  by_cases h84 : f' = 84
  · subst h84; simp at hf; subst hf; exact ⟨_, _, _, Tryz.func84, by decide +kernel, qAz⟩
  rw [if_neg (by simpa using h84)] at hf
  by_cases h85 : f' = 85
  · subst h85; simp at hf; subst hf; exact ⟨_, _, _, Tryz.func85, by decide +kernel, qAC⟩
  rw [if_neg (by simpa using h85)] at hf
  by_cases h86 : f' = 86
  · subst h86; simp at hf; subst hf; exact ⟨_, _, _, Tryz.func86, by decide +kernel, qAy⟩
  rw [if_neg (by simpa using h86)] at hf
  by_cases h125 : f' = 125
  · subst h125; simp at hf; subst hf; exact ⟨_, _, _, Tryz.func125, by decide +kernel, qy8⟩
  rw [if_neg (by simpa using h125)] at hf
  by_cases h126 : f' = 126
  · subst h126; simp at hf; subst hf; exact ⟨_, _, _, Tryz.func126, by decide +kernel, qzp⟩
  rw [if_neg (by simpa using h126)] at hf
  by_cases h127 : f' = 127
  · subst h127; simp at hf; subst hf; exact ⟨_, _, _, Tryz.func127, by decide +kernel, qyX⟩
  rw [if_neg (by simpa using h127)] at hf
  by_cases h128 : f' = 128
  · subst h128; simp at hf; subst hf; exact ⟨_, _, _, Tryz.func128, by decide +kernel, qzH⟩
  rw [if_neg (by simpa using h128)] at hf
  by_cases h129 : f' = 129
  · subst h129; simp at hf; subst hf; exact ⟨_, _, _, Tryz.func129, by decide +kernel, qzu⟩
  rw [if_neg (by simpa using h129)] at hf
  by_cases h130 : f' = 130
  · subst h130; simp at hf; subst hf; exact ⟨_, _, _, Tryz.func130, by decide +kernel, qzc⟩
  rw [if_neg (by simpa using h130)] at hf
  by_cases h132 : f' = 132
  · subst h132; simp at hf; subst hf; exact ⟨_, _, _, Tryz.func132, by decide +kernel, qyY⟩
  rw [if_neg (by simpa using h132)] at hf
  by_cases h133 : f' = 133
  · subst h133; simp at hf; subst hf; exact ⟨_, _, _, Tryz.func133, by decide +kernel, qzo⟩
  rw [if_neg (by simpa using h133)] at hf
  by_cases h134 : f' = 134
  · subst h134; simp at hf; subst hf; exact ⟨_, _, _, Tryz.func134, by decide +kernel, qzE⟩
  rw [if_neg (by simpa using h134)] at hf
  by_cases h135 : f' = 135
  · subst h135; simp at hf; subst hf; exact ⟨_, _, _, Tryz.func135, by decide +kernel, qzh⟩
  rw [if_neg (by simpa using h135)] at hf
  by_cases h136 : f' = 136
  · subst h136; simp at hf; subst hf; exact ⟨_, _, _, Tryz.func136, by decide +kernel, qzJ⟩
  rw [if_neg (by simpa using h136)] at hf
  by_cases h137 : f' = 137
  · subst h137; simp at hf; subst hf; exact ⟨_, _, _, Tryz.func137, by decide +kernel, qyJ⟩
  rw [if_neg (by simpa using h137)] at hf
  by_cases h147 : f' = 147
  · subst h147; simp at hf; subst hf; exact ⟨_, _, _, Tryz.func147, by decide +kernel, qy9⟩
  rw [if_neg (by simpa using h147)] at hf
  by_cases h148 : f' = 148
  · subst h148; simp at hf; subst hf; exact ⟨_, _, _, Tryz.func148, by decide +kernel, qzU⟩
  rw [if_neg (by simpa using h148)] at hf
  by_cases h149 : f' = 149
  · subst h149; simp at hf; subst hf; exact ⟨_, _, _, Tryz.func149, by decide +kernel, qzg⟩
  rw [if_neg (by simpa using h149)] at hf
  by_cases h151 : f' = 151
  · subst h151; simp at hf; subst hf; exact ⟨_, _, _, Tryz.func151, by decide +kernel, qzl⟩
  rw [if_neg (by simpa using h151)] at hf
  by_cases h154 : f' = 154
  · subst h154; simp at hf; subst hf; exact ⟨_, _, _, Tryz.func154, by decide +kernel, qzk⟩
  rw [if_neg (by simpa using h154)] at hf
  by_cases h160 : f' = 160
  · subst h160; simp at hf; subst hf; exact ⟨_, _, _, Tryz.func160, by decide +kernel, qyH⟩
  rw [if_neg (by simpa using h160)] at hf
  by_cases h162 : f' = 162
  · subst h162; simp at hf; subst hf; exact ⟨_, _, _, Tryz.func162, by decide +kernel, qyD⟩
  rw [if_neg (by simpa using h162)] at hf
  by_cases h171 : f' = 171
  · subst h171; simp at hf; subst hf; exact ⟨_, _, _, Tryz.func171, by decide +kernel, qzM⟩
  rw [if_neg (by simpa using h171)] at hf
  by_cases h173 : f' = 173
  · subst h173; simp at hf; subst hf; exact ⟨_, _, _, Tryz.func173, by decide +kernel, qzm⟩
  rw [if_neg (by simpa using h173)] at hf
  by_cases h174 : f' = 174
  · subst h174; simp at hf; subst hf; exact ⟨_, _, _, Tryz.func174, by decide +kernel, qy1⟩
  rw [if_neg (by simpa using h174)] at hf
  by_cases h175 : f' = 175
  · subst h175; simp at hf; subst hf; exact ⟨_, _, _, Tryz.func175, by decide +kernel, qy6⟩
  rw [if_neg (by simpa using h175)] at hf
  by_cases h176 : f' = 176
  · subst h176; simp at hf; subst hf; exact ⟨_, _, _, Tryz.func176, by decide +kernel, qyV⟩
  rw [if_neg (by simpa using h176)] at hf
  by_cases h177 : f' = 177
  · subst h177; simp at hf; subst hf; exact ⟨_, _, _, Tryz.func177, by decide +kernel, qzj⟩
  rw [if_neg (by simpa using h177)] at hf
  by_cases h178 : f' = 178
  · subst h178; simp at hf; subst hf; exact ⟨_, _, _, Tryz.func178, by decide +kernel, qyS⟩
  rw [if_neg (by simpa using h178)] at hf
  by_cases h179 : f' = 179
  · subst h179; simp at hf; subst hf; exact ⟨_, _, _, Tryz.func179, by decide +kernel, qzq⟩
  rw [if_neg (by simpa using h179)] at hf
  by_cases h180 : f' = 180
  · subst h180; simp at hf; subst hf; exact ⟨_, _, _, Tryz.func180, by decide +kernel, qyM⟩
  rw [if_neg (by simpa using h180)] at hf
  by_cases h181 : f' = 181
  · subst h181; simp at hf; subst hf; exact ⟨_, _, _, Tryz.func181, by decide +kernel, qzW⟩
  rw [if_neg (by simpa using h181)] at hf
  by_cases h230 : f' = 230
  · subst h230; simp at hf; subst hf; exact ⟨_, _, _, Tryz.func230, by decide +kernel, qzN⟩
  rw [if_neg (by simpa using h230)] at hf
  by_cases h231 : f' = 231
  · subst h231; simp at hf; subst hf; exact ⟨_, _, _, Tryz.func231, by decide +kernel, qz6⟩
  rw [if_neg (by simpa using h231)] at hf
  by_cases h233 : f' = 233
  · subst h233; simp at hf; subst hf; exact ⟨_, _, _, Tryz.func233, by decide +kernel, qyL⟩
  rw [if_neg (by simpa using h233)] at hf
  by_cases h234 : f' = 234
  · subst h234; simp at hf; subst hf; exact ⟨_, _, _, Tryz.func234, by decide +kernel, qyE⟩
  rw [if_neg (by simpa using h234)] at hf
  by_cases h242 : f' = 242
  · subst h242; simp at hf; subst hf; exact ⟨_, _, _, Tryz.func242, by decide +kernel, qzZ⟩
  rw [if_neg (by simpa using h242)] at hf
  by_cases h244 : f' = 244
  · subst h244; simp at hf; subst hf; exact ⟨_, _, _, Tryz.func244, by decide +kernel, qzB⟩
  rw [if_neg (by simpa using h244)] at hf
  by_cases h252 : f' = 252
  · subst h252; simp at hf; subst hf; exact ⟨_, _, _, Tryz.func252, by decide +kernel, qzG⟩
  rw [if_neg (by simpa using h252)] at hf
  by_cases h253 : f' = 253
  · subst h253; simp at hf; subst hf; exact ⟨_, _, _, Tryz.func253, by decide +kernel, qyz⟩
  rw [if_neg (by simpa using h253)] at hf
  by_cases h254 : f' = 254
  · subst h254; simp at hf; subst hf; exact ⟨_, _, _, Tryz.func254, by decide +kernel, qzw⟩
  rw [if_neg (by simpa using h254)] at hf
  by_cases h255 : f' = 255
  · subst h255; simp at hf; subst hf; exact ⟨_, _, _, Tryz.func255, by decide +kernel, qyy⟩
  rw [if_neg (by simpa using h255)] at hf
  by_cases h256 : f' = 256
  · subst h256; simp at hf; subst hf; exact ⟨_, _, _, Tryz.func256, by decide +kernel, qzD⟩
  rw [if_neg (by simpa using h256)] at hf
  by_cases h258 : f' = 258
  · subst h258; simp at hf; subst hf; exact ⟨_, _, _, Tryz.func258, by decide +kernel, qzL⟩
  rw [if_neg (by simpa using h258)] at hf
  by_cases h259 : f' = 259
  · subst h259; simp at hf; subst hf; exact ⟨_, _, _, Tryz.func259, by decide +kernel, qyO⟩
  rw [if_neg (by simpa using h259)] at hf
  by_cases h260 : f' = 260
  · subst h260; simp at hf; subst hf; exact ⟨_, _, _, Tryz.func260, by decide +kernel, qzO⟩
  rw [if_neg (by simpa using h260)] at hf
  by_cases h261 : f' = 261
  · subst h261; simp at hf; subst hf; exact ⟨_, _, _, Tryz.func261, by decide +kernel, qyQ⟩
  rw [if_neg (by simpa using h261)] at hf
  by_cases h262 : f' = 262
  · subst h262; simp at hf; subst hf; exact ⟨_, _, _, Tryz.func262, by decide +kernel, qyR⟩
  rw [if_neg (by simpa using h262)] at hf
  by_cases h263 : f' = 263
  · subst h263; simp at hf; subst hf; exact ⟨_, _, _, Tryz.func263, by decide +kernel, qzr⟩
  rw [if_neg (by simpa using h263)] at hf
  by_cases h264 : f' = 264
  · subst h264; simp at hf; subst hf; exact ⟨_, _, _, Tryz.func264, by decide +kernel, qyZ⟩
  rw [if_neg (by simpa using h264)] at hf
  by_cases h292 : f' = 292
  · subst h292; simp at hf; subst hf; exact ⟨_, _, _, Tryz.func292, by decide +kernel, qzy⟩
  rw [if_neg (by simpa using h292)] at hf
  by_cases h294 : f' = 294
  · subst h294; simp at hf; subst hf; exact ⟨_, _, _, Tryz.func294, by decide +kernel, qy4⟩
  rw [if_neg (by simpa using h294)] at hf
  by_cases h299 : f' = 299
  · subst h299; simp at hf; subst hf; exact ⟨_, _, _, Tryz.func299, by decide +kernel, qzA⟩
  rw [if_neg (by simpa using h299)] at hf
  by_cases h301 : f' = 301
  · subst h301; simp at hf; subst hf; exact ⟨_, _, _, Tryz.func301, by decide +kernel, qzz⟩
  rw [if_neg (by simpa using h301)] at hf
  by_cases h303 : f' = 303
  · subst h303; simp at hf; subst hf; exact ⟨_, _, _, Tryz.func303, by decide +kernel, qz2⟩
  rw [if_neg (by simpa using h303)] at hf
  by_cases h322 : f' = 322
  · subst h322; simp at hf; subst hf; exact ⟨_, _, _, Tryz.func322, by decide +kernel, qzt⟩
  rw [if_neg (by simpa using h322)] at hf
  by_cases h324 : f' = 324
  · subst h324; simp at hf; subst hf; exact ⟨_, _, _, Tryz.func324, by decide +kernel, qz3⟩
  rw [if_neg (by simpa using h324)] at hf
  cases hf
theorem qzf : qoP Tryz.prog maps := by
  intro f' k l hl hk
  have e : f' = k := qiu hl
  subst e
  simp only [maps, W.look, qB5] at hk
  by_cases h141 : f' = 141
  · subst h141
    simp at hk
    subst hk
    exact ⟨32, 58, 196, 3, 4, 0, Tryz.f141, Tryz.func141, by decide +kernel, by kernel_rfl, by kernel_rfl, by kernel_rfl, Tryz.underlying32, by kernel_rfl, by kernel_rfl, Tryz.underlying3, Tryz.underlying4⟩
  rw [if_neg (by simpa using h141)] at hk
  by_cases h239 : f' = 239
  · subst h239
    simp at hk
    subst hk
    exact ⟨31, 56, 257, 3, 4, 0, Tryz.f239, Tryz.func239, by decide +kernel, by kernel_rfl, by kernel_rfl, by kernel_rfl, Tryz.underlying31, by kernel_rfl, by kernel_rfl, Tryz.underlying3, Tryz.underlying4⟩
  rw [if_neg (by simpa using h239)] at hk
  by_cases h240 : f' = 240
  · subst h240
    simp at hk
    subst hk
    exact ⟨33, 63, 258, 3, 4, 0, Tryz.f240, Tryz.func240, by decide +kernel, by kernel_rfl, by kernel_rfl, by kernel_rfl, Tryz.underlying33, by kernel_rfl, by kernel_rfl, Tryz.underlying3, Tryz.underlying4⟩
  rw [if_neg (by simpa using h240)] at hk
  cases hk
theorem tab : Tab Tryz.prog maps pg0 := ⟨qBB, qzf⟩
theorem qBN : Tab Tryz.prog maps W.pgA := ⟨fun f' i hl fn' hf => tab.1 f' i hl fn' (by
  unfold W.pgA at hf
  simp only [qB5] at hf
  split at hf
  · cases hf
  · split at hf
    · cases hf
    · exact hf), tab.2⟩
theorem qz5 : Tab Tryz.prog maps W.pg := ⟨fun f' i hl fn' hf => tab.1 f' i hl fn' (by
  unfold W.pg at hf
  simp only [qB5] at hf
  split at hf
  · cases hf
  · split at hf
    · cases hf
    · split at hf
      · cases hf
      · exact hf), tab.2⟩
theorem ixC : IxC Tryz.prog 257 := fun s c w => Tryz.strings_IndexByte s c w
theorem teS : TeC Tryz.prog 304 3 2 := fun fn s base bits ev w h1 h2 h3 => (Tryz.toError_syntax fn s base bits ev w h1 h2 h3).mono (by rintro e w' ⟨N, q1, _, _, q2⟩; exact ⟨N, q1, q2⟩)
theorem teR : TeC Tryz.prog 304 4 1 := fun fn s base bits ev w h1 h2 h3 => (Tryz.toError_range fn s base bits ev w h1 h2 h3).mono (by rintro e w' ⟨N, q1, _, _, q2⟩; exact ⟨N, q1, q2⟩)
theorem qwC {g : Gh} {w : World} {vs : List V} {H : List W.Obj} {r : Cr} (h : ixX vs H = some r) {argv : List Value} (ha : ArgsRep maps g w 0 vs argv) (hH : RelH maps g w H) : qmh Tryz.prog 257 argv.toArray w (zB maps g w r) := by
  have hs : Tryz.f257.body.isSome = true := by kernel_rfl
  obtain ⟨c, hc⟩ := Option.isSome_iff_exists.1 hs
  exact qt9 ixC Tryz.func257 (by decide +kernel) hc h ha hH
theorem qvR {g : Gh} {w : World} {vs : List V} {H : List W.Obj} {r : Cr} (h : teX vs H = some r) {argv : List Value} (ha : ArgsRep maps g w 0 vs argv) (hH : RelH maps g w H) : qmh Tryz.prog 304 argv.toArray w (zB maps g w r) := by
  have hs : Tryz.f304.body.isSome = true := by kernel_rfl
  obtain ⟨c, hc⟩ := Option.isSome_iff_exists.1 hs
  exact qxD teS teR (by simp [maps]) (by simp [maps]) (by decide +kernel) (fun t' ht => qiu ht) Tryz.func304 (by decide +kernel) hc h ha hH
theorem qw4 : yG Tryz.prog maps W.pgA.ext := by
  intro i vs H r h f' hl g w argv ha hH
  have e : f' = i := qiu hl
  subst e
  unfold W.pgA at h
  simp only [qB5] at h
  split at h
  · rename_i hb
    have e2 : f' = 257 := by simpa using hb
    subst e2
    exact qwC h ha hH
  · split at h
    · rename_i hb
      have e2 : f' = 304 := by simpa using hb
      subst e2
      exact qvR h ha hH
    · cases h
theorem qnp : yG Tryz.prog maps W.pg.ext := by
  intro i vs H r h f' hl g w argv ha hH
  have e : f' = i := qiu hl
  subst e
  unfold W.pg at h
  simp only [qB5] at h
  split at h
  · rename_i hb
    have e2 : f' = 257 := by simpa using hb
    subst e2
    exact qwC h ha hH
  · split at h
    · rename_i hb
      have e2 : f' = 304 := by simpa using hb
      subst e2
      exact qvR h ha hH
    · split at h
      · rename_i hb
        have e2 : f' = 261 := by simpa using hb
        subst e2
        unfold kwX at h
        split at h
        · cases h
          cases ha
          obtain ⟨lo, hk⟩ := qnt qtr qzv
          obtain ⟨n, hn⟩ := qbI.1 hk
          exact qun (sound (by kernel_rfl) qBN qw4 qtr n) hn hl hH
        · cases h
      · cases h
theorem qBI : Tab Tryz.prog maps W.pgK := ⟨fun f' i hl fn' hf => qz5.1 f' i hl fn' (by
  unfold W.pgK at hf
  simp only [qB5] at hf
  split at hf
  · cases hf
  · exact hf), tab.2⟩
theorem qBH : IxC Tryz.prog 302 := fun s c w => Tryz.stringslite_IndexByte s c w
theorem qzx {g : Gh} {w : World} {vs : List V} {H : List W.Obj} {r : Cr} (h : ixX vs H = some r) {argv : List Value} (ha : ArgsRep maps g w 0 vs argv) (hH : RelH maps g w H) : qmh Tryz.prog 302 argv.toArray w (zB maps g w r) := by
  have hs : Tryz.f302.body.isSome = true := by kernel_rfl
  obtain ⟨c, hc⟩ := Option.isSome_iff_exists.1 hs
  exact qt9 qBH Tryz.func302 (by decide +kernel) hc h ha hH
theorem qAs {g : Gh} {w : World} {vs : List V} {H : List W.Obj} {r : Cr} (h : idX vs H = some r) {argv : List Value} (ha : ArgsRep maps g w 0 vs argv) (hH : RelH maps g w H) (hl : W.look maps.fm 14 = some 14) : qmh Tryz.prog 14 argv.toArray w (zB maps g w r) := by
  unfold idX at h
  split at h
  · rename_i t
    rw [qB5] at h
    split at h
    · rename_i hb
      cases h
      simp only [qB0] at hb
      obtain ⟨lo, hk⟩ := qpn (qkG.1 hb.1) (Nat.le_of_ble_eq_true hb.2)
      obtain ⟨n, hn⟩ := qbI.1 hk
      exact qmN (l := [.s t]) (sound (by kernel_rfl) qz5 qnp qoY n) hn hl hH ha
    · cases h
  · cases h
theorem qAH {g : Gh} {w : World} {vs : List V} {H : List W.Obj} {r : Cr} (h : idX vs H = some r) {argv : List Value} (ha : ArgsRep maps g w 0 vs argv) (hH : RelH maps g w H) (hl : W.look maps.fm 15 = some 15) : qmh Tryz.prog 15 argv.toArray w (zB maps g w r) := by
  unfold idX at h
  split at h
  · rename_i t
    rw [qB5] at h
    split at h
    · rename_i hb
      cases h
      simp only [qB0] at hb
      have hk := qo7 (qkG.1 hb.1) (Nat.le_of_ble_eq_true hb.2) (H := [])
      obtain ⟨n, hn⟩ := qbI.1 hk
      exact qmN (l := [.s t]) (sound (by kernel_rfl) qz5 qnp qoY n) hn hl hH ha
    · cases h
  · cases h
theorem qxF : yG Tryz.prog maps W.pgK.ext := by
  intro i vs H r h f' hl g w argv ha hH
  have e : f' = i := qiu hl
  subst e
  unfold W.pgK at h
  simp only [qB5] at h
  split at h
  · rename_i hb
    simp only [Bool.or_eq_true] at hb
    rcases hb with hb | hb
    · obtain rfl := qCg hb
      exact qAs h ha hH hl
    · obtain rfl := qCg hb
      exact qAH h ha hH hl
  · split at h
    · rename_i hb
      have e2 : f' = 302 := by simpa using hb
      subst e2
      exact qzx h ha hH
    · exact qnp _ _ _ _ h _ hl g w argv ha hH
end Go.Proofs.YtdgbjjpdepdmmaaGreatDoor

set_option linter.unusedSimpArgs false
set_option linter.unusedVariables false
namespace W
open Go (IntKind BinOp UnOp)
set_option maxRecDepth 20000
def u8L (t : List Nat) : List V := t.map fun n : Nat => .d (.i .u8 n)
theorem qtp : ∀ (t : List Nat), qbf (u8L t) = some (t.map fun n : Nat => .i .u8 n)
  | [] => rfl
  | c :: t => by
    have := qtp t
    simp only [u8L, qB4] at this ⊢
    simp only [qbf, this]
theorem qor {t : List Nat} (h : ∀ c ∈ t, c < 256) {H : List Obj} {i : Nat} (hi : H[i]? = some (.cells (u8L t))) : qkZ (.rs i 0 t.length t.length) H = some (.d (.s t)) := by
  have hl : (u8L t).length = t.length := by simp [u8L]
  have h1 : Nat.ble (0 + t.length) (u8L t).length = true := by rw [hl]; simp
  simp only [qkZ, hi, h1, cond_true, List.drop_zero]
  rw [List.take_of_length_le (by omega), qtp]
  simp only
  rw [qqj h]; rfl
theorem qr6 {x0 x1 x2 x3 : List Nat} (h0 : (∀ c ∈ x0, c < 256) ∧ x0.length ≤ 100) (h1 : (∀ c ∈ x1, c < 256) ∧ x1.length ≤ 100) (h2 : (∀ c ∈ x2, c < 256) ∧ x2.length ≤ 100) (h3 : (∀ c ∈ x3, c < 256) ∧ x3.length ≤ 100) {H : List Obj} {lo : Nat} :
    ∃ e lo', y6 pgK (qaB 0 [] (jT pgK (.osl [.s x0, .s x1, .s x2, .s x3]) (.d (.i .i64 4)) (.d (.i .i64 0)) H lo)) qan = some (.ret, ⟨e, H, lo'⟩) ∧ get 8 e = .d (.b true) := by
  have a0 := qxf h0.1 (by omega) (H := H)
  have a1 := qxf h1.1 (by omega) (H := H)
  have a2 := qxf h2.1 (by omega) (H := H)
  have a3 := qxf h3.1 (by omega) (H := H)
  have b0 := qxP h0.1 (by omega) (H := H)
  have b1 := qxP h1.1 (by omega) (H := H)
  have b2 := qxP h2.1 (by omega) (H := H)
  have b3 := qxP h3.1 (by omega) (H := H)
  have i0 : iaV (.d (.sl [.s x0, .s x1, .s x2, .s x3])) (.d (.i .i64 0)) 1 none = some (.cp (.s x0)) := rfl
  have i1 : iaV (.d (.sl [.s x0, .s x1, .s x2, .s x3])) (.d (.i .i64 1)) 1 none = some (.cp (.s x1)) := rfl
  have i2 : iaV (.d (.sl [.s x0, .s x1, .s x2, .s x3])) (.d (.i .i64 2)) 1 none = some (.cp (.s x2)) := rfl
  have i3 : iaV (.d (.sl [.s x0, .s x1, .s x2, .s x3])) (.d (.i .i64 3)) 1 none = some (.cp (.s x3)) := rfl
  have w1 : wr .i64 1 = 1 := rfl
  have w2 : wr .i64 2 = 2 := rfl
  have w3 : wr .i64 3 = 3 := rfl
  have w4 : wr .i64 4 = 4 := rfl
  generalize idB x0 = y0 at a0 b0
  generalize idB x1 = y1 at a1 b1
  generalize idB x2 = y2 at a2 b2
  generalize idB x3 = y3 at a3 b3
  rw [zU]
  simp only [zl, y5, qP, qp, qs, qj, qf, ke, qCh, kN, Nat.reduceEqDiff, qC, qz, qu, ku, Int.reduceLT, decide_true, qk, qE, qX, qa, qc, qA, qI, ↓reduceIte, qO, qB, qR, yy, i0, yA, jL, zW, qdS, zX, qb, qt, qw, qB4, qCe, qe, qH, qh, qB7, qV, a0, qx, qd, qi, ji, kL, kf, b0, qgM, beq_self_eq_true, qCl, qBZ, qQ, qg, qm, kD, qCb, kW, zE, Int.reduceAdd, w1, zT]
  rw [zU]
  simp only [zl, y5, qP, qp, qs, qj, qf, ke, qCh, kN, Nat.reduceEqDiff, qC, qz, qu, ku, Int.reduceLT, decide_true, qk, qE, qX, qa, qc, qA, qI, ↓reduceIte, qO, qB, qR, yy, i1, yA, jL, zW, qdS, zX, qb, qt, qw, qB4, qCe, qe, qH, qh, qB7, qV, a1, qx, qd, qi, ji, kL, kf, b1, qgM, beq_self_eq_true, qCl, qBZ, qQ, qg, qm, kD, qCb, kW, zE, Int.reduceAdd, w2, zT]
  rw [zU]
  simp only [zl, y5, qP, qp, qs, qj, qf, ke, qCh, kN, Nat.reduceEqDiff, qC, qz, qu, ku, Int.reduceLT, decide_true, qk, qE, qX, qa, qc, qA, qI, ↓reduceIte, qO, qB, qR, yy, i2, yA, jL, zW, qdS, zX, qb, qt, qw, qB4, qCe, qe, qH, qh, qB7, qV, a2, qx, qd, qi, ji, kL, kf, b2, qgM, beq_self_eq_true, qCl, qBZ, qQ, qg, qm, kD, qCb, kW, zE, Int.reduceAdd, w3, zT]
  rw [zU]
  simp only [zl, y5, qP, qp, qs, qj, qf, ke, qCh, kN, Nat.reduceEqDiff, qC, qz, qu, ku, Int.reduceLT, decide_true, qk, qE, qX, qa, qc, qA, qI, ↓reduceIte, qO, qB, qR, yy, i3, yA, jL, zW, qdS, zX, qb, qt, qw, qB4, qCe, qe, qH, qh, qB7, qV, a3, qx, qd, qi, ji, kL, kf, b3, qgM, beq_self_eq_true, qCl, qBZ, qQ, qg, qm, kD, qCb, kW, zE, Int.reduceAdd, w4, zT]
  rw [zU]
  simp only [zl, y5, qP, qp, qs, qj, qf, ke, qCh, kN, Nat.reduceEqDiff, qC, qz, qu, ku, Int.reduceLT, decide_false, qk, qE, qX, qa, qc, qA, qI, qBZ, ↓reduceIte, qa7, yr, jQ, qm, qan, qb, kW, qF, qS]
  exact ⟨_, _, rfl, rfl⟩
theorem qbj {s t : List Nat} {k a c m : Nat} (hs : ∀ c ∈ s, c < 256) (hz : s.length ≤ 80) (ht : ∀ c ∈ t, c < 256) (htz : t.length ≤ 100) (hm : m < t.length)
    (hc : c < 256) {K : Int} (hk : Int.tmod (k : Nat) 8 = K)
    (hi : iaV (.d (.sl [.s [120], .s [97, 98, 99, 49], .s [77, 79, 68, 85, 76, 69], .s [73, 78, 84, 69, 71, 69, 82], .s [76, 69, 78], .s [73, 110], .s [97, 118, 101, 114, 121, 108, 111, 110, 103, 105, 100, 101, 110, 116, 105, 102, 105, 101, 114, 111, 102, 109, 97, 110, 121, 108, 101, 116, 116, 101, 114, 115, 49], .s [97, 118, 101, 114, 121, 108, 111, 110, 103, 105, 100, 101, 110, 116, 105, 102, 105, 101, 114, 111, 102, 109, 97, 110, 121, 108, 101, 116, 116, 101, 114, 49]])) (.d (.i .u8 K)) 1 none = some (.cp (.s t)))
    (ha : Int.tmod (a : Nat) (t.length : Nat) = (m : Nat)) (ha0 : wr .i64 (a : Nat) = (a : Nat)) :
    ∃ lo, kl pgK 4 [.d (.s s), .d (.i .u8 (k : Nat)), .d (.i .u8 (a : Nat)), .d (.i .u8 (c : Nat))] [] = some ⟨false, true, .d (.b true), [], lo⟩ := by
  obtain ⟨lo, hkn⟩ := qmn
  have hz' : ((80 : Int) < (s.length : Int)) = False := by rw [eq_iff_iff]; simp only [iff_false]; omega
  have hnz : ((t.length : Int) = 0) = False := by rw [eq_iff_iff]; simp only [iff_false]; omega
  have hmt : ((m : Int) < (t.length : Int)) = True := by rw [eq_iff_iff]; simp only [iff_true]; omega
  have hm0 : ((0 : Int) ≤ (m : Int)) = True := by rw [eq_iff_iff]; simp only [iff_true]; omega
  have hml : (m < (u8L t).length) = True := by rw [eq_iff_iff]; simp only [iff_true, u8L, List.length_map]; omega
  have hbr : ∀ {e : Env} {H : List Obj} {lo : Nat}, qio ⟨e, H, lo⟩ (.d (.s t)) = some ⟨false, false, .rs H.length 0 t.length t.length, ⟨e, H ++ [.cells (u8L t)], lo⟩⟩ := rfl
  have ht1 : qkZ (.rs 0 0 t.length t.length) [.cells (u8L t)] = some (.d (.s t)) := qor ht rfl
  have hset : (u8L t).set m (.d (.i .u8 (c : Nat))) = u8L (t.set m c) := by simp [u8L, List.map_set]
  have ht2 : qkZ (.rs 0 0 t.length t.length) [.cells (u8L (t.set m c))] = some (.d (.s (t.set m c))) := by
    have := qor (t := t.set m c) (H := [.cells (u8L (t.set m c))]) (i := 0) (by
      intro d hd
      rcases List.mem_or_eq_of_mem_set hd with h | h
      · exact ht d h
      · omega) rfl
    simpa using this
  obtain ⟨e, lo', hl, hg⟩ := qr6 (x0 := s) (x1 := t) (x2 := t.set m c) (x3 := []) ⟨hs, by omega⟩ ⟨ht, htz⟩ ⟨by
      intro d hd
      rcases List.mem_or_eq_of_mem_set hd with h | h
      · exact ht d h
      · omega, by simpa using htz⟩ ⟨by simp, by simp⟩ (H := [.cells (u8L (t.set m c))]) (lo := 0)
  have hmn : (m : Int).toNat = m := Int.toNat_natCast m
  rw [zA (fn := jo) rfl rfl]
  simp only [jo, qn, qB9, Nat.reduceAdd, qq, qCf, qp, qs, qj, qb, kW, qF, qE, qX, qa, qc, qw, qCe, qh, qV, hkn, qx, qi, Nat.zero_min, jD, kN, qz, qu, qaJ, qCl, qB3, qk, qA, qI, qBZ, ↓reduceIte, qO, reduceCtorEq, qC, qt, qJ, kZ, qf, ke, kD, qCb, zt, hz', decide_false, zg, qcI, qCd, List.reduceReplicate, qB4, Nat.reduceLT, j9, qCi, qCk, y4, qaS, qbY, qgj, qbZ, qB7, qaU, qcp, Nat.reduceEqDiff, Int.reduceEq, qpO, hk, qR, yy, hi, yA, jL, zW, qdS, zX, qe4, hbr, List.nil_append, qsz, qnr, qjc, ht1, ji, kL, kf, jJ, ha0, zx, qpF, qCh, hnz, ha, hm0, hmt, qsA, hmn, kJ, ki, qN, jg, qB1, yO, zc, kI, jx, ze, kB, hml, kH, hset, kz, qkz, Nat.min_self, zi, ht2, qeM, Int.cast_ofNat_Int, qB, zT, y5, qP, hl, qW, qo, kx, hg, jt, qr, qG, kn]
  exact ⟨_, jI rfl (Nat.zero_le _) (Nat.zero_le _)⟩
theorem qdq {a b : Nat} : Int.tmod (a : Nat) (b : Nat) = ((a % b : Nat) : Int) := (Int.ofNat_tmod a b).symm
theorem qsm {s : List Nat} (hs : ∀ c ∈ s, c < 256) {k a c : Nat} (hk : k < 256) (ha : a < 256) (hc : c < 256) :
    ∃ lo, kl pgK 4 [.d (.s s), .d (.i .u8 (k : Nat)), .d (.i .u8 (a : Nat)), .d (.i .u8 (c : Nat))] [] = some ⟨false, true, .d (.b true), [], lo⟩ := by
  by_cases hz : s.length ≤ 80
  · have w0 : wr .i64 (a : Nat) = (a : Nat) := qcy (by omega) (by omega)
    have hk8 : Int.tmod (k : Nat) 8 = ((k % 8 : Nat) : Int) := qdq (b := 8)
    have hr : k % 8 = 0 ∨ k % 8 = 1 ∨ k % 8 = 2 ∨ k % 8 = 3 ∨ k % 8 = 4 ∨ k % 8 = 5 ∨ k % 8 = 6 ∨ k % 8 = 7 := by omega
    rcases hr with h | h | h | h | h | h | h | h <;> rw [h] at hk8
    · exact qbj (t := [120]) hs hz (by decide) (by decide) (Nat.mod_lt a (by decide)) hc hk8 rfl (qdq) w0
    · exact qbj (t := [97, 98, 99, 49]) hs hz (by decide) (by decide) (Nat.mod_lt a (by decide)) hc hk8 rfl (qdq) w0
    · exact qbj (t := [77, 79, 68, 85, 76, 69]) hs hz (by decide) (by decide) (Nat.mod_lt a (by decide)) hc hk8 rfl (qdq) w0
    · exact qbj (t := [73, 78, 84, 69, 71, 69, 82]) hs hz (by decide) (by decide) (Nat.mod_lt a (by decide)) hc hk8 rfl (qdq) w0
    · exact qbj (t := [76, 69, 78]) hs hz (by decide) (by decide) (Nat.mod_lt a (by decide)) hc hk8 rfl (qdq) w0
    · exact qbj (t := [73, 110]) hs hz (by decide) (by decide) (Nat.mod_lt a (by decide)) hc hk8 rfl (qdq) w0
    · exact qbj (t := [97, 118, 101, 114, 121, 108, 111, 110, 103, 105, 100, 101, 110, 116, 105, 102, 105, 101, 114, 111, 102, 109, 97, 110, 121, 108, 101, 116, 116, 101, 114, 115, 49]) hs hz (by decide) (by decide) (Nat.mod_lt a (by decide)) hc hk8 rfl (qdq) w0
    · exact qbj (t := [97, 118, 101, 114, 121, 108, 111, 110, 103, 105, 100, 101, 110, 116, 105, 102, 105, 101, 114, 111, 102, 109, 97, 110, 121, 108, 101, 116, 116, 101, 114, 49]) hs hz (by decide) (by decide) (Nat.mod_lt a (by decide)) hc hk8 rfl (qdq) w0
  · obtain ⟨lo, hkn⟩ := qmn
    have hz' : ((80 : Int) < (s.length : Int)) = True := by rw [eq_iff_iff]; simp only [iff_true]; omega
    rw [zA (fn := jo) rfl rfl]
    simp only [jo, qn, qB9, Nat.reduceAdd, qq, qCf, qp, qs, qj, qb, kW, qF, qE, qX, qa, qc, qw, qCe, qh, qV, hkn, qx, qi, jD, kN, qz, qu, qaJ, qCl, qB3, qk, qA, qI, qBZ, ↓reduceIte, qO, reduceCtorEq, qC, qt, qJ, kZ, qf, ke, kD, qCb, zt, hz', decide_true, qS, kS, qW, qo, kx, jt, qr, qG, kn]
    exact ⟨_, jI rfl (Nat.zero_le _) (Nat.zero_le _)⟩
end W

