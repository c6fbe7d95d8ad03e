/-
  CheckNames: names that are declared twice, or may not be, are refused, wherever they are; both checkers, of any five names: part 6 of what the proof rests on (a value semantics for a part of the language, sound against the model; the walks).
-/
import Derived.Lib.Bytealg
import Derived.Shelf.Small.Strs
import Derived.Shelf.Pu.ToError
import Derived.Shelf.Pu.ToErrorRange
import Derived.Test.YtdgbjjpdepdmmaaGreatDoorProg
import Derived.WalkKit
import Derived.ProofKit
import Derived.OpenShut
import Derived.Carry
import Derived.ChangeSame
import Derived.RowKit
import Derived.Lib.LaidTab
import Derived.Test.YtdgbjjpdepdmmaaGreatDoorCards
import Derived.Test.YtdgbjjpdepdmmaaGreatDoorTie
import Derived.Deep.DeepHandedRow
import Derived.Deep.DeepWitnessRowRef
import Derived.Lay
import Derived.Test.YtdgbjjpdepdmmaaGreatDoorW5
set_option linter.unusedSimpArgs false
set_option linter.unusedVariables false
open Bool renaming false_eq_true → qEl, and_eq_true → qEn, cond_eq_ite → qEt, and_self → qEv, or_true → qEy, or_self → qED, not_true → qEG, not_false → qEJ
open List renaming getElem?_cons_zero → qEm, getElem?_cons_succ → qEq, map_cons → qEs, length_cons → qEx, length_nil → qEz, map_nil → qEA, set_cons_zero → qEC, set_cons_succ → qEF, take_succ_cons → qEH, drop_zero → qEK
open Nat renaming le_refl → qEo, beq → qEr, zero_add → qEu, eq_of_beq_eq_true → qEE, add_zero → qEL
open Option renaming map_some → qEp, bind_eq_some_iff → qEw, bind_eq_bind → qEB, pure_def → qEI
namespace W
open Go (IntKind BinOp UnOp)
set_option maxRecDepth 20000
theorem qx3 : ∀ (n deep frm a : Nat) (l : List Nat) (j : Nat), l.length ≤ n → sk deep frm a l = (true, j) → a ≤ j ∧ j ≤ a + l.length := by
  intro n
  induction n with
  | zero =>
    intro deep frm a l j hn h
    have : l = [] := List.length_eq_zero_iff.1 (by omega)
    subst this
    simp only [sk] at h
    split at h
    · cases h; simp
    · cases h
  | succ n ih =>
    intro deep frm a l j hn h
    match l, hn, h with
    | [], hn, h =>
      simp only [sk] at h
      split at h
      · cases h; simp
      · cases h
    | [c], hn, h =>
      simp only [sk] at h
      split at h
      · split at h
        · cases h; simp
        · cases h; simp
      · cases h
    | c :: d :: l, hn, h =>
      simp only [qEx] at hn ⊢
      rw [sk] at h
      split at h
      · have := ih _ _ _ _ _ (by omega) h; omega
      · split at h
        · have := ih _ _ _ _ _ (by omega) h; omega
        · split at h
          · have := ih _ _ _ _ _ (by simp only [qEx]; omega) h
            simp only [qEx] at this; omega
          · cases h; omega
def qnc (s : List Nat) (j : Nat) : Sy := match s.drop j with
  | [] => .bad 0
  | c :: _ => if cLt c = true then qks s j else if cDg c = true then qrX s j else if c = 34 then ql8 s j else qlZ s j c
inductive Nx where
  | ok (k : Int) (p e : Nat) (t : List Nat) (n : Int)
  | bad (p : Nat) (e : Int)
def qs8 (j : Nat) : Sy → Nx
  | .ok k t n a' => .ok k j a' t n
  | .bad e => .bad j e
def qg3 (s : List Nat) (a : Nat) : Nx := match sk 0 a a (s.drop a) with
  | (false, p) => .bad p 30
  | (true, j) => if j = s.length then .ok 0 j j [] 0 else qs8 j (qnc s j)
def NRes (id : Nat) (s : List Nat) (a : Nat) (H : List Obj) (r : Nx) (X : Option Cr) : Prop :=
  match r with
  | .ok k p e t n => ∃ sm lo, id ≤ lo ∧ lo ≤ H.length ∧ (e = a ∨ lo ≤ id) ∧ X = some ⟨false, sm, .d (tok k p e t n), kn H id (sc s e), lo⟩
  | .bad p x => ∃ sm lo a', id ≤ lo ∧ lo ≤ H.length ∧ (a' = a ∨ lo ≤ id) ∧ X = some ⟨true, sm, .ifc 157 (.d (.agg [.i .i64 (p : Nat), .i .i64 x])), kn H id (sc s a'), lo⟩
theorem NRes.good {id : Nat} {s : List Nat} {a p a' : Nat} {H : List Obj} {k n : Int} {t : List Nat} {e : Env} {lo : Nat} {X : Option Cr} (hid : id < H.length) (hH : H[id]? = some (sc s a)) (h1 : id ≤ lo) (h2 : lo ≤ H.length) (h3 : a' = a ∨ lo ≤ id)
    (h : X = leave H false (.d (tok k p a' t n)) ⟨e, kn H id (sc s a'), lo⟩) : NRes id s a H (.ok k p a' t n) X := by
  obtain ⟨sm, hlv⟩ := qfi (pan := false) (v := .d (tok k p a' t n)) (e := e) (lo := lo) (o := sc s a') rfl rfl (fun _ => rfl) (by
      rcases h3 with h | h
      · left; rw [h]; exact yS hH
      · right; exact h) hid
  exact ⟨sm, lo, h1, h2, h3, h.trans hlv⟩
theorem NRes.worse {id p : Nat} {s : List Nat} {a a' : Nat} {H : List Obj} {x : Int} {e : Env} {lo : Nat} {X : Option Cr} (hid : id < H.length) (hH : H[id]? = some (sc s a)) (h1 : id ≤ lo) (h2 : lo ≤ H.length) (h3 : a' = a ∨ lo ≤ id)
    (h : X = leave H true (.ifc 157 (.d (.agg [.i .i64 (p : Nat), .i .i64 x]))) ⟨e, kn H id (sc s a'), lo⟩) : NRes id s a H (.bad p x) X := by
  obtain ⟨sm, hlv⟩ := qfi (pan := true) (v := .ifc 157 (.d (.agg [.i .i64 (p : Nat), .i .i64 x]))) (e := e) (lo := lo) (o := sc s a') rfl rfl (fun _ => rfl) (by
      rcases h3 with h | h
      · left; rw [h]; exact yS hH
      · right; exact h) hid
  exact ⟨sm, lo, a', h1, h2, h3, h.trans hlv⟩
theorem qsF {s : List Nat} (hs : ∀ c ∈ s, c < 256) (hz : s.length ≤ 1000000000000) {id a : Nat} {H : List Obj} (ha : a ≤ s.length) (hH : H[id]? = some (sc s a)) : NRes id s a H (qg3 s a) (qn pg 83 [.ptr id 0] H) := by
  have hid : id < H.length := (List.getElem?_eq_some_iff.1 hH).1
  have hsk := qsq hs hz ha hH
  rw [qg (fn := f_scan_scanner_next) rfl rfl]
  unfold qg3
  have hjl := fun j => qx3 (s.drop a).length 0 a a (s.drop a) j (qEo _)
  generalize sk 0 a a (s.drop a) = r at hsk hjl
  obtain ⟨b, j⟩ := r
  cases b with
  | false =>
    obtain ⟨sm, lo, a', g1, g2, g3, hsk⟩ := hsk
    have hm1 : min H.length lo = lo := by omega
    refine NRes.worse hid hH g1 g2 g3 ?_ (e := ?_)
    rotate_left
    · simp only [f_scan_scanner_next, s_, k_, o_, m_, c_, a_, h_, e_, i_, z_, v_, l_, qs, qEu, qy, qA, qB, qo, kl, qEs, qEA, qP, zS, ki, zh, kw, qf, qi, qh, kZ, reduceCtorEq, qM, qL, qW, qC, kY, qE, qk, ku, qr, qEv, kj, hsk, qF, ql, qq, hm1, qbp, qap, qaI]
      rfl
  | true =>
    obtain ⟨sm, lo, g1, g2, g3, hsk⟩ := hsk
    have hjr := hjl j rfl
    simp only [List.length_drop] at hjr
    have hm1 : min H.length lo = lo := by omega
    have hm2 : min lo H.length = lo := by omega
    have hH1 : (kn H id (sc s j))[id]? = some (sc s j) := jx hH
    simp only
    by_cases hj : j = s.length
    · have e1 : ((j : Int) = (s.length : Int)) = True := by rw [eq_iff_iff]; simp; omega
      rw [if_pos hj]
      refine NRes.good hid hH g1 g2 g3 ?_ (e := ?_)
      rotate_left
      · simp only [f_scan_scanner_next, s_, k_, o_, m_, c_, a_, h_, e_, i_, z_, v_, l_, qs, qEu, qy, qA, qB, qo, kl, qEs, qEA, qP, zS, ki, zh, kw, qf, qi, qh, kZ, reduceCtorEq, qM, qL, qW, qC, kY, qE, qk, ku, qr, qEv, kj, hsk, qF, ql, qq, hm1, ky, qG, qt, qp, zm, qH, ke, hH1, kR, qEq, qEm, qEp, kF, kh, qD, qa0, qbB, qbX, qK, jq, zO, zN, jE, zP, yR, qEL, qT, zz, qm, kq, qED, Nat.reduceEqDiff, jm, e1, decide_true, kQ, kM, qJ, qS, ↓reduceIte, ju, zt, yZ, zF, jF, qEx, qEz, Nat.reduceAdd, Nat.reduceLT, qbd, qEC, j1, j6, ji, yx, jk, zc, zG, kB, zY, jJ, zV, kI, qbW, zl, z8, zI, zJ, zM, kc, qw, zn, jH, kg, qz, qfk, qgk, qde, qlv, qch, zf, qEF, qcw, qa8, Nat.reduceLeDiff, qar, qEK, qEH, List.take_zero, qX, qZ, qu, zA, y9, qx, qN, kp, tok]
        rfl
    · have e1 : ((j : Int) = (s.length : Int)) = False := by rw [eq_iff_iff]; simp; omega
      rw [if_neg hj]
      have hjlt : j < s.length := by omega
      have hL : s.drop j = s[j] :: s.drop (j + 1) := qht hjlt
      have hix : ixV (.d (.s s)) (.d (.i .i64 (j : Int))) = some (.d (.i .u8 ((s[j] : Nat) : Int))) := qoc (by omega) (by simp)
      generalize s[j] = c at hL hix
      have hlc := qjF (c := c) (H := kn H id (sc s j))
      have hdc := qik (c := c) (H := kn H id (sc s j))
      have hq := qfj (t := [34]) hH1 (by omega)
      rw [hL, qEk] at hq
      have fin : ∀ (r : Sy) (f : Nat), MRes id s j (kn H id (sc s j)) r (qn pg f [.ptr id 0] (kn H id (sc s j))) →
          (∀ sm2 lo2 k t n a', qn pg f [.ptr id 0] (kn H id (sc s j)) = some ⟨false, sm2, .d (tok k 0 0 t n), kn H id (sc s a'), lo2⟩ → r = .ok k t n a' → ∃ e, qge H true [.cell 2 ⟨5, true⟩] (exL pg f_scan_scanner_next.body ⟨jl 0 [.ptr id 0], H, H.length⟩) = leave H false (.d (tok k j a' t n)) ⟨e, kn H id (sc s a'), min lo lo2⟩) →
          (∀ sm2 lo2 x a', qn pg f [.ptr id 0] (kn H id (sc s j)) = some ⟨true, sm2, .ifc 157 (.d (.agg [.i .i64 (j : Nat), .i .i64 x])), kn H id (sc s a'), lo2⟩ → r = .bad x → ∃ e, qge H true [.cell 2 ⟨5, true⟩] (exL pg f_scan_scanner_next.body ⟨jl 0 [.ptr id 0], H, H.length⟩) = leave H true (.ifc 157 (.d (.agg [.i .i64 (j : Nat), .i .i64 x]))) ⟨e, kn H id (sc s a'), min lo lo2⟩) →
          NRes id s a H (qs8 j r) (qge H true [.cell 2 ⟨5, true⟩] (exL pg f_scan_scanner_next.body ⟨jl 0 [.ptr id 0], H, H.length⟩)) := by
        intro r f hm hgood hbad
        cases r with
        | ok k t n a' =>
          obtain ⟨sm2, lo2, q1, q2, q3, hc⟩ := hm
          rw [jX] at hc
          rw [kz] at q2
          obtain ⟨e, he⟩ := hgood sm2 lo2 k t n a' hc rfl
          exact NRes.good hid hH (by omega) (by omega) (by omega) he
        | bad x =>
          obtain ⟨sm2, lo2, a', q1, q2, q3, hc⟩ := hm
          rw [jX] at hc
          rw [kz] at q2
          obtain ⟨e, he⟩ := hbad sm2 lo2 x a' hc rfl
          exact NRes.worse hid hH (by omega) (by omega) (by omega) he
      have hsym : qnc s j = if cLt c = true then qks s j else if cDg c = true then qrX s j else if c = 34 then ql8 s j else qlZ s j c := by
        unfold qnc; rw [hL]
      rw [hsym]
      cases hlt : cLt c with
      | true =>
        rw [hlt] at hlc
        rw [if_pos rfl]
        refine fin _ 175 (qrN hz (by omega) hH1) ?_ ?_
        · intro sm2 lo2 k t n a' hc _
          have hH2 : (kn H id (sc s a'))[id]? = some (sc s a') := jx hH
          simp only [tok] at hc
          simp only [f_scan_scanner_next, s_, k_, o_, m_, c_, a_, h_, e_, i_, z_, v_, l_, qs, qEu, qy, qA, qB, qo, kl, qEs, qEA, qP, zS, ki, zh, kw, qf, qi, qh, kZ, reduceCtorEq, qM, qL, qW, qC, kY, qE, qk, ku, qr, qEv, kj, hsk, qF, ql, qq, hm1, ky, qG, qt, qp, zm, qH, ke, hH1, kR, qEq, qEm, qEp, kF, kh, qD, qa0, qbB, qbX, qK, jq, zO, zN, jE, zP, yR, qEL, qT, zz, qm, kq, qED, Nat.reduceEqDiff, jm, e1, decide_false, kQ, kM, qJ, qS, qEl, ↓reduceIte, kO, hix, qQ, hlc, kz, hm2, jK, zi, kA, hc, kB, zY, jJ, zV, qEx, qEz, Nat.reduceAdd, kI, jF, yZ, qbW, zl, z8, zI, zJ, zM, kc, qw, zn, jH, kg, qz, hH2, qfk, qgk, qde, qlv, qch, zF, Nat.reduceLT, zf, qEF, qEC, qcw, qa8, Nat.reduceLeDiff, qar, qEK, qEH, List.take_zero, ji, yx, jk, zc, zG, qX, qZ, qu, zA, y9, qx, qN, kp, tok]
          exact ⟨_, rfl⟩
        · intro sm2 lo2 x a' hc _
          simp only [f_scan_scanner_next, s_, k_, o_, m_, c_, a_, h_, e_, i_, z_, v_, l_, qs, qEu, qy, qA, qB, qo, kl, qEs, qEA, qP, zS, ki, zh, kw, qf, qi, qh, kZ, reduceCtorEq, qM, qL, qW, qC, kY, qE, qk, ku, qr, qEv, kj, hsk, qF, ql, qq, hm1, ky, qG, qt, qp, zm, qH, ke, hH1, kR, qEq, qEm, qEp, kF, kh, qD, qa0, qbB, qbX, qK, jq, zO, zN, jE, zP, yR, qEL, qT, zz, qm, kq, qED, Nat.reduceEqDiff, jm, e1, decide_false, kQ, kM, qJ, qS, qEl, ↓reduceIte, kO, hix, qQ, hlc, kz, hm2, jK, zi, kA, hc, qbp, qbQ, qap, qaI]
          exact ⟨_, rfl⟩
      | false =>
        rw [hlt] at hlc
        rw [if_neg (by simp)]
        cases hdt : cDg c with
        | true =>
          rw [hdt] at hdc
          rw [if_pos rfl]
          refine fin _ 177 (qop hz hL hdt hH1) ?_ ?_
          · intro sm2 lo2 k t n a' hc _
            have hH2 : (kn H id (sc s a'))[id]? = some (sc s a') := jx hH
            simp only [tok] at hc
            simp only [f_scan_scanner_next, s_, k_, o_, m_, c_, a_, h_, e_, i_, z_, v_, l_, qs, qEu, qy, qA, qB, qo, kl, qEs, qEA, qP, zS, ki, zh, kw, qf, qi, qh, kZ, reduceCtorEq, qM, qL, qW, qC, kY, qE, qk, ku, qr, qEv, kj, hsk, qF, ql, qq, hm1, ky, qG, qt, qp, zm, qH, ke, hH1, kR, qEq, qEm, qEp, kF, kh, qD, qa0, qbB, qbX, qK, jq, zO, zN, jE, zP, yR, qEL, qT, zz, qm, kq, qED, Nat.reduceEqDiff, jm, e1, decide_false, kQ, kM, qJ, qS, qEl, ↓reduceIte, kO, hix, qQ, hlc, kz, hm2, jK, zi, kA, hdc, hc, kB, zY, jJ, zV, qEx, qEz, Nat.reduceAdd, kI, jF, yZ, qbW, zl, z8, zI, zJ, zM, kc, qw, zn, jH, kg, qz, hH2, qfk, qgk, qde, qlv, qch, zF, Nat.reduceLT, zf, qEF, qEC, qcw, qa8, Nat.reduceLeDiff, qar, qEK, qEH, List.take_zero, ji, yx, jk, zc, zG, qX, qZ, qu, zA, y9, qx, qN, kp, tok]
            exact ⟨_, rfl⟩
          · intro sm2 lo2 x a' hc _
            simp only [f_scan_scanner_next, s_, k_, o_, m_, c_, a_, h_, e_, i_, z_, v_, l_, qs, qEu, qy, qA, qB, qo, kl, qEs, qEA, qP, zS, ki, zh, kw, qf, qi, qh, kZ, reduceCtorEq, qM, qL, qW, qC, kY, qE, qk, ku, qr, qEv, kj, hsk, qF, ql, qq, hm1, ky, qG, qt, qp, zm, qH, ke, hH1, kR, qEq, qEm, qEp, kF, kh, qD, qa0, qbB, qbX, qK, jq, zO, zN, jE, zP, yR, qEL, qT, zz, qm, kq, qED, Nat.reduceEqDiff, jm, e1, decide_false, kQ, kM, qJ, qS, qEl, ↓reduceIte, kO, hix, qQ, hlc, kz, hm2, jK, zi, kA, hdc, hc, qbp, qbQ, qap, qaI]
            exact ⟨_, rfl⟩
        | false =>
          rw [hdt] at hdc
          rw [if_neg (by simp)]
          by_cases h34 : c = 34
          · rw [if_pos h34]
            rw [decide_eq_true h34] at hq
            refine fin _ 179 (qrE hz (by omega) hH1) ?_ ?_
            · intro sm2 lo2 k t n a' hc _
              have hH2 : (kn H id (sc s a'))[id]? = some (sc s a') := jx hH
              simp only [tok] at hc
              simp only [f_scan_scanner_next, s_, k_, o_, m_, c_, a_, h_, e_, i_, z_, v_, l_, qs, qEu, qy, qA, qB, qo, kl, qEs, qEA, qP, zS, ki, zh, kw, qf, qi, qh, kZ, reduceCtorEq, qM, qL, qW, qC, kY, qE, qk, ku, qr, qEv, kj, hsk, qF, ql, qq, hm1, ky, qG, qt, qp, zm, qH, ke, hH1, kR, qEq, qEm, qEp, kF, kh, qD, qa0, qbB, qbX, qK, jq, zO, zN, jE, zP, yR, qEL, qT, zz, qm, kq, qED, Nat.reduceEqDiff, jm, e1, decide_false, kQ, kM, qJ, qS, qEl, ↓reduceIte, kO, hix, qQ, hlc, kz, hm2, jK, zi, kA, hdc, zt, hq, qO, hc, kB, zY, jJ, zV, qEx, qEz, Nat.reduceAdd, kI, jF, yZ, qbW, zl, z8, zI, zJ, zM, kc, qw, zn, jH, kg, qz, hH2, qfk, qgk, qde, qlv, qch, zF, Nat.reduceLT, zf, qEF, qEC, qcw, qa8, Nat.reduceLeDiff, qar, qEK, qEH, List.take_zero, ji, yx, jk, zc, zG, qX, qZ, qu, zA, y9, qx, qN, kp, tok]
              exact ⟨_, rfl⟩
            · intro sm2 lo2 x a' hc _
              simp only [f_scan_scanner_next, s_, k_, o_, m_, c_, a_, h_, e_, i_, z_, v_, l_, qs, qEu, qy, qA, qB, qo, kl, qEs, qEA, qP, zS, ki, zh, kw, qf, qi, qh, kZ, reduceCtorEq, qM, qL, qW, qC, kY, qE, qk, ku, qr, qEv, kj, hsk, qF, ql, qq, hm1, ky, qG, qt, qp, zm, qH, ke, hH1, kR, qEq, qEm, qEp, kF, kh, qD, qa0, qbB, qbX, qK, jq, zO, zN, jE, zP, yR, qEL, qT, zz, qm, kq, qED, Nat.reduceEqDiff, jm, e1, decide_false, kQ, kM, qJ, qS, qEl, ↓reduceIte, kO, hix, qQ, hlc, kz, hm2, jK, zi, kA, hdc, zt, hq, qO, hc, qbp, qbQ, qap, qaI]
              exact ⟨_, rfl⟩
          · rw [if_neg h34]
            rw [decide_eq_false h34] at hq
            refine fin _ 180 (qr8 hs hz hL hH1) ?_ ?_
            · intro sm2 lo2 k t n a' hc _
              have hH2 : (kn H id (sc s a'))[id]? = some (sc s a') := jx hH
              simp only [tok] at hc
              simp only [f_scan_scanner_next, s_, k_, o_, m_, c_, a_, h_, e_, i_, z_, v_, l_, qs, qEu, qy, qA, qB, qo, kl, qEs, qEA, qP, zS, ki, zh, kw, qf, qi, qh, kZ, reduceCtorEq, qM, qL, qW, qC, kY, qE, qk, ku, qr, qEv, kj, hsk, qF, ql, qq, hm1, ky, qG, qt, qp, zm, qH, ke, hH1, kR, qEq, qEm, qEp, kF, kh, qD, qa0, qbB, qbX, qK, jq, zO, zN, jE, zP, yR, qEL, qT, zz, qm, kq, qED, Nat.reduceEqDiff, jm, e1, decide_false, kQ, kM, qJ, qS, qEl, ↓reduceIte, kO, hix, qQ, hlc, kz, hm2, jK, zi, kA, hdc, zt, hq, qO, hc, kB, zY, jJ, zV, qEx, qEz, Nat.reduceAdd, kI, jF, yZ, qbW, zl, z8, zI, zJ, zM, kc, qw, zn, jH, kg, qz, hH2, qfk, qgk, qde, qlv, qch, zF, Nat.reduceLT, zf, qEF, qEC, qcw, qa8, Nat.reduceLeDiff, qar, qEK, qEH, List.take_zero, ji, yx, jk, zc, zG, qX, qZ, qu, zA, y9, qx, qN, kp, tok]
              exact ⟨_, rfl⟩
            · intro sm2 lo2 x a' hc _
              simp only [f_scan_scanner_next, s_, k_, o_, m_, c_, a_, h_, e_, i_, z_, v_, l_, qs, qEu, qy, qA, qB, qo, kl, qEs, qEA, qP, zS, ki, zh, kw, qf, qi, qh, kZ, reduceCtorEq, qM, qL, qW, qC, kY, qE, qk, ku, qr, qEv, kj, hsk, qF, ql, qq, hm1, ky, qG, qt, qp, zm, qH, ke, hH1, kR, qEq, qEm, qEp, kF, kh, qD, qa0, qbB, qbX, qK, jq, zO, zN, jE, zP, yR, qEL, qT, zz, qm, kq, qED, Nat.reduceEqDiff, jm, e1, decide_false, kQ, kM, qJ, qS, qEl, ↓reduceIte, kO, hix, qQ, hlc, kz, hm2, jK, zi, kA, hdc, zt, hq, qO, hc, qbp, qbQ, qap, qaI]
              exact ⟨_, rfl⟩
end W

set_option linter.unusedSimpArgs false
set_option linter.unusedVariables false
namespace W
open Go (IntKind BinOp UnOp)
set_option maxRecDepth 20000
structure Tk where
  k : Int
  p : Nat
  e : Nat
  t : List Nat
  n : Int
  deriving DecidableEq
def eTk (x : Tk) : D := .agg [.i .i64 x.k, .i .i64 x.p, .i .i64 x.e, .s x.t, .i .i32 x.n]
def qeJ (s : List Nat) : Nat → Nat → List Tk → Sum (Nat × Int) (List Tk)
  | 0, _, _ => .inl (0, 0)
  | f + 1, a, acc => match qg3 s a with
    | .bad p e => .inl (p, e)
    | .ok k p e t n => if k = 0 then .inr (acc ++ [⟨k, p, e, t, n⟩]) else qeJ s f e (acc ++ [⟨k, p, e, t, n⟩])
noncomputable def qtc (pg : Pg) (fn : Fn) (H : List Obj) (t : Nat) (rest : C) (r : Option (Ex × St)) : Option Cr :=
  match r with
  | some (.nrm, st) => deferred pg (exL pg) fn H t rest st
  | some (.ret, st) => y4 fn H st
  | some (.pan v, st) => leave H true v st
  | _ => none
theorem ql7 {pg : Pg} {f : Nat} {fn : Fn} {vs : List V} {H : List Obj} {t : Nat} {rest : C} (hf : pg.fn f = some fn) (hn : fn.np = vs.length) (hd : fn.dfr = some (t, rest)) (hr : fn.rcv = none) :
    qn pg f vs H = qtc pg fn H t rest (exL pg fn.body { env := jl 0 vs, H, lo := H.length }) := by
  rw [qdv]
  simp only [zC, hf, hn, hd, hr, and_self, if_true, qtc]
  all_goals rfl
theorem qu3 {pg : Pg} {fn : Fn} {H : List Obj} {t : Nat} {rest : C} {st : St} : qtc pg fn H t rest (some (.nrm, st)) = deferred pg (exL pg) fn H t rest st := rfl
theorem qgH {fn : Fn} {H : List Obj} {st : St} : y4 fn H st = qge H fn.own fn.res (some (.ret, st)) := rfl
theorem qvC {pg : Pg} {fn : Fn} {H : List Obj} {t : Nat} {rest : C} {st : St} : qtc pg fn H t rest (some (.ret, st)) = y4 fn H st := rfl
theorem qxa {i0 i1 : Nat} {H : List Obj} {lo : Nat} : ∃ e, exL pg f_scan_All_1.body ⟨(5, .d .ni) :: jl 0 [.ptr i0 0, .ptr i1 0], H, lo⟩ = some (.nrm, ⟨e, H, lo⟩) := by
  simp only [f_scan_All_1, k_, m_, o_, r_, z_, s_, u_, l_, qs, qEu, Nat.reduceAdd, qy, qA, qB, qo, qh, kZ, qL, qD, qC, qP, kh, qf, qi, qm, kq, kL, qEy, zt, qjx, qt, qJ, qS, qEl, ↓reduceIte, qY]
  exact ⟨_, rfl⟩
theorem qvd {i0 i1 : Nat} {H : List Obj} {lo : Nat} {p e : Int} {v : V} (h0 : H[i0]? = some (.cells [v])) (h1 : H[i1]? = some (.cells [.d .nil])) (hne : (i1 = i0) = False) : ∃ en lo', min lo (min i0 i1) ≤ lo' ∧
    exL pg f_scan_All_1.body ⟨(5, .ifc 157 (.d (.agg [.i .i64 p, .i .i64 e]))) :: jl 0 [.ptr i0 0, .ptr i1 0], H, lo⟩ = some (.nrm, ⟨en, kn (kn H i0 (.cells [.d .nil])) i1 (.cells [.osl [.agg [.i .i64 p, .i .i64 e]]]), lo'⟩) := by
  have h2 : (kn H i0 (.cells [.d .nil]))[i1]? = some (.cells [.d .nil]) := by rw [qbF hne]; exact h1
  simp only [f_scan_All_1, k_, m_, o_, r_, z_, s_, u_, l_, qs, qEu, Nat.reduceAdd, qy, qA, qB, qo, qh, kZ, qL, qbv, qC, qP, qdC, qf, qi, qm, kq, kL, qEy, zt, qhC, qt, kh, qJ, qD, qS, ↓reduceIte, Nat.reduceEqDiff, qM, qha, qjH, ky, q9, zK, qcn, qcr, qcd, kl, qEs, qEA, zS, ki, qa0, qbB, qmh, zh, kw, kB, zY, jJ, zV, qEx, qEz, kI, jF, yZ, zl, qEv, z8, Nat.reduceLT, qlp, qEC, qEF, zJ, zM, jW, qa6, qEG, qEp, qEl, qY, jq, zO, qp, qfk, qEL, zN, qgk, qde, qlv, zP, qH, qch, qa8, Nat.reduceLeDiff, qar, qEK, qEH, List.take_zero, kF, ji, yx, jk, zc, zG, yR, zB, qcv, List.reduceReplicate, yE, qaj, qba, qiu, qb7, qdm, qb4, qbe, qkq, reduceCtorEq, qW, qO, jP, h0, qgb, zF, kV, zf, kT, kQ, qcw, jK, qfX, kA, h2, qjy, qkE, kM]
  refine ⟨_, _, ?_, rfl⟩
  omega
theorem qka {x y a : Nat} {s : List Nat} (h : pre [x, y] (s.drop a) = true) : a + 2 ≤ s.length := by
  simp only [pre, decide_eq_true_eq] at h
  have := congrArg List.length h
  simp only [List.length_take, List.length_drop, qEx, qEz] at this
  omega
theorem qtu {s : List Nat} {j : Nat} {k : Int} {t : List Nat} {n : Int} {a' : Nat} (h : qnc s j = .ok k t n a') : j < a' ∧ a' ≤ s.length ∧ k ≠ 0 := by
  unfold qnc at h
  split at h
  · cases h
  · rename_i c l hL
    obtain ⟨hget, hdr, hlt⟩ := qkV hL
    split at h
    · rename_i hc
      have hle := qga cNm (s.drop j)
      have hk : 0 < run cNm (s.drop j) := by rw [hL]; simp [run, cNm, hc]
      simp only [List.length_drop] at hle
      unfold qks at h
      split at h
      · cases h
      · split at h
        · cases h; exact ⟨by omega, by omega, by decide⟩
        · cases h; exact ⟨by omega, by omega, by decide⟩
    · split at h
      · rename_i hc
        have hle := qga cHx (s.drop j)
        have hk : 0 < run cHx (s.drop j) := by rw [hL]; simp [run, cHx, hc]
        simp only [List.length_drop] at hle
        unfold qrX at h
        split at h
        · rename_i hp
          have := qhw hp
          unfold qj6 at h
          split at h
          · cases h
          · cases h; exact ⟨by omega, by omega, by decide⟩
        · split at h
          · rename_i hp
            have := qhw hp
            unfold qj6 at h
            split at h
            · cases h
            · cases h; exact ⟨by omega, by omega, by decide⟩
          · unfold qj6 at h
            split at h
            · cases h
            · cases h; exact ⟨by omega, by omega, by decide⟩
      · split at h
        · unfold ql8 at h
          split at h
          · rename_i hp
            have := qhw hp
            split at h
            · cases h
            · cases h; exact ⟨by omega, by omega, by decide⟩
          · cases h
        · unfold qlZ at h
          split at h
          · rename_i hp
            have := qka hp
            cases h; exact ⟨by omega, by omega, by decide⟩
          · split at h
            · rename_i hp
              have := qka hp
              cases h; exact ⟨by omega, by omega, by decide⟩
            · split at h
              · rename_i hp
                have := qka hp
                cases h; exact ⟨by omega, by omega, by decide⟩
              · split at h
                · rename_i hp
                  have := qka hp
                  cases h; exact ⟨by omega, by omega, by decide⟩
                · split at h
                  · cases h
                  · cases h; exact ⟨by omega, by omega, by decide⟩
theorem qrk {s : List Nat} {a : Nat} (ha : a ≤ s.length) {k : Int} {p e : Nat} {t : List Nat} {n : Int} (h : qg3 s a = .ok k p e t n) : a ≤ p ∧ p ≤ e ∧ e ≤ s.length ∧ (k ≠ 0 → a < e) := by
  unfold qg3 at h
  split at h
  · cases h
  · rename_i j hj
    have hjl := qx3 (s.drop a).length 0 a a (s.drop a) j (qEo _) hj
    simp only [List.length_drop] at hjl
    split at h
    · cases h
      exact ⟨by omega, by omega, by omega, fun h => absurd rfl h⟩
    · generalize hr : qnc s j = r at h
      cases r with
      | ok k' t' n' a' =>
        have := qtu hr
        simp only [qs8] at h
        cases h
        exact ⟨by omega, by omega, by omega, fun _ => by omega⟩
      | bad e => simp only [qs8] at h; cases h
def ARes (b : Nat) (r : Sum (Nat × Int) (List Tk)) (X : Option (Ex × St)) : Prop :=
  match r with
  | .inr L' => ∃ e H' lo', b ≤ lo' ∧ get 2 e = .ptr b 0 ∧ get 3 e = .ptr (b + 1) 0 ∧ H'[b]? = some (.cells [.d (slD eTk L')]) ∧ H'[b + 1]? = some (.cells [.d .nil]) ∧ X = some (.ret, ⟨e, H', lo'⟩)
  | .inl (p, x) => ∃ e H' lo' v, b ≤ lo' ∧ get 2 e = .ptr b 0 ∧ get 3 e = .ptr (b + 1) 0 ∧ H'[b]? = some (.cells [v]) ∧ H'[b + 1]? = some (.cells [.d .nil]) ∧ X = some (.pan (.ifc 157 (.d (.agg [.i .i64 (p : Nat), .i .i64 x]))), ⟨e, H', lo'⟩)
theorem ARes.good {b : Nat} {L' : List Tk} {e : Env} {H' : List Obj} {lo' : Nat} {X : Option (Ex × St)} (h5 : X = some (.ret, ⟨e, H', lo'⟩)) (h1 : b ≤ lo') (h2 : get 2 e = .ptr b 0) (h3 : get 3 e = .ptr (b + 1) 0) (h4 : H'[b]? = some (.cells [.d (slD eTk L')])) (h6 : H'[b + 1]? = some (.cells [.d .nil])) : ARes b (.inr L') X :=
  ⟨e, H', lo', h1, h2, h3, h4, h6, h5⟩
theorem ARes.bad {b p : Nat} {x : Int} {e : Env} {H' : List Obj} {lo' : Nat} {v : V} {X : Option (Ex × St)} (h5 : X = some (.pan (.ifc 157 (.d (.agg [.i .i64 (p : Nat), .i .i64 x]))), ⟨e, H', lo'⟩)) (h1 : b ≤ lo') (h2 : get 2 e = .ptr b 0) (h3 : get 3 e = .ptr (b + 1) 0) (h4 : H'[b]? = some (.cells [v])) (h6 : H'[b + 1]? = some (.cells [.d .nil])) : ARes b (.inl (p, x)) X :=
  ⟨e, H', lo', v, h1, h2, h3, h4, h6, h5⟩
theorem qvr {s : List Nat} (hs : ∀ c ∈ s, c < 256) (hz : s.length ≤ 1000000000000) {b : Nat} :
    ∀ (f a : Nat) (L : List Tk) (H : List Obj) (lo : Nat), s.length - a < f → a ≤ s.length → L.length ≤ a → b ≤ lo → lo ≤ H.length → H[b]? = some (.cells [slV eTk L]) → H[b + 1]? = some (.cells [.d .nil]) → H[b + 2]? = some (sc s a) →
      ARes b (qeJ s f a L) (qa5 0 [2, 3] (qeh pg (.ptr b 0) (.ptr (b + 1) 0) (.ptr (b + 2) 0) H lo)) := by
  intro f
  induction f with
  | zero => intro a L H lo h; omega
  | succ f ih =>
    intro a L H lo hf ha hLa hlo hloH h0 h1 h2
    have hn := qsF hs hz ha h2
    rw [qjw, qeJ]
    have d1 : (b = b + 2) = False := by simp
    have d2 : (b + 1 = b + 2) = False := by simp
    generalize hr : qg3 s a = r at hn
    cases r with
    | bad p x =>
      obtain ⟨sm, lo1, a', g1, g2, g3, hc⟩ := hn
      have e0 : (kn H (b + 2) (sc s a'))[b]? = some (.cells [slV eTk L]) := by rw [qbF d1]; exact h0
      have e1 : (kn H (b + 2) (sc s a'))[b + 1]? = some (.cells [.d .nil]) := by rw [qbF d2]; exact h1
      refine ARes.bad (e := ?e) (lo' := min lo lo1) ?h5 (by omega) ?g2 ?g3 e0 e1
      case h5 =>
        simp only [qbZ, k_, m_, c_, o_, z_, s_, l_, a_, d_, g_, h_, zn, qK, qA, qB, qo, qh, kZ, Nat.reduceEqDiff, qM, qL, qW, qC, qP, kY, qE, qEs, qEA, qk, ku, qr, qEv, kj, hc, qF, ql, qq, qbp, qap, qbQ]
        rfl
      case g2 => rfl
      case g3 => rfl
    | ok k p e t n =>
      obtain ⟨sm, lo1, g1, g2, g3, hc⟩ := hn
      have hpr := qrk ha hr
      have e0 : (kn H (b + 2) (sc s e))[b]? = some (.cells [slV eTk L]) := by rw [qbF d1]; exact h0
      have e1 : (kn H (b + 2) (sc s e))[b + 1]? = some (.cells [.d .nil]) := by rw [qbF d2]; exact h1
      have e2 : (kn H (b + 2) (sc s e))[b + 2]? = some (sc s e) := jx h2
      have d3 : (b + 1 = b) = False := by simp
      have d4 : (b + 2 = b) = False := by simp
      have e3 : (kn (kn H (b + 2) (sc s e)) b (.cells [.undef]))[b]? = some (.cells [.undef]) := jx e0
      have happ : qaB 5 48 (slV eTk L) (.d (.sl [.agg [.i .i64 k, .i .i64 p, .i .i64 e, .s t, .i .i32 n]])) = some (slV eTk (L ++ [⟨k, p, e, t, n⟩])) :=
        qtw (x := (⟨k, p, e, t, n⟩ : Tk)) (fun _ => rfl) (qv8 (by omega) (by omega))
      simp only [tok] at hc
      have e4 : ∀ o, (kn (kn H (b + 2) (sc s e)) b o)[b]? = some o := fun o => jx e0
      have e5 : ∀ o, (kn (kn H (b + 2) (sc s e)) b o)[b + 1]? = some (.cells [.d .nil]) := fun o => by rw [qbF d3]; exact e1
      have e6 : ∀ o, (kn (kn H (b + 2) (sc s e)) b o)[b + 2]? = some (sc s e) := fun o => by rw [qbF d4]; exact e2
      by_cases hk : k = 0
      · subst hk
        have d5 : (b = b + 1) = False := by simp
        simp only [if_true]
        have key : ∃ e', qa5 0 [2, 3] (qbm pg (exL pg qbZ ⟨[(2, kG (.ptr b 0)), (3, kG (.ptr (b + 1) 0)), (4, kG (.ptr (b + 2) 0))], H, lo⟩) qb1) = some (.ret, ⟨e', kn (kn (kn H (b + 2) (sc s e)) b (.cells [.d (slD eTk (L ++ [⟨0, p, e, t, n⟩]))])) (b + 1) (.cells [.d .nil]), min (min (min (min (min lo lo1) b) b) b) (b + 1)⟩) ∧ get 2 e' = .ptr b 0 ∧ get 3 e' = .ptr (b + 1) 0 := by
          simp only [qbZ, k_, m_, c_, o_, z_, s_, l_, a_, d_, g_, h_, zn, qK, qA, qB, qo, qh, kZ, Nat.reduceEqDiff, qM, qL, qW, qC, qP, kY, qE, qEs, qEA, qk, ku, qr, qEv, kj, hc, qF, ql, qq, kh, kl, zS, ki, qa0, zh, kw, kB, jK, zi, zY, kA, jJ, zV, qEx, qEz, qEu, Nat.reduceAdd, kI, jF, yZ, qbW, zl, z8, zI, zJ, zM, qf, qi, qgh, e0, qEm, qEC, qgm, qH, qa8, Nat.reduceLeDiff, qar, qEK, qEH, List.take_zero, kF, ji, yx, jk, zc, zG, qt, zB, qcv, List.reduceReplicate, qD, Nat.reduceLT, yE, qaj, qba, qiu, qb7, qdm, qb4, qbe, qcA, qgo, qhD, qbH, happ, qjs, jP, e3, qjq, qln, kV, zf, kT, jX, qp, qfk, qEL, qlm, qch, qlA, qEp, qm, kq, kL, qEy, zt, jm, decide_true, qJ, qS, ↓reduceIte, ke, e4, kR, qmb, qqz, zF, qO, e5, qgb, qX, zH, zo]
          exact ⟨_, rfl, rfl, rfl⟩
        obtain ⟨e', k1, k2, k3⟩ := key
        exact ARes.good k1 (by omega) k2 k3 (by rw [qbF d5]; exact e4 _) (jx (e5 _))
      · have q1 : (k = 0) = False := eq_false hk
        simp only [hk, if_false]
        have ih' := ih e (L ++ [⟨k, p, e, t, n⟩]) (kn (kn H (b + 2) (sc s e)) b (.cells [slV eTk (L ++ [⟨k, p, e, t, n⟩])])) (min (min (min lo lo1) b) b) (by omega) (by omega) (by simp only [List.length_append, qEx, qEz]; omega) (by omega) (by simp only [kz]; omega) (e4 _) (e5 _) (e6 _)
        simp only [qbZ, k_, m_, c_, o_, z_, s_, l_, a_, d_, g_, h_, zn, qK, qA, qB, qo, qh, kZ, Nat.reduceEqDiff, qM, qL, qW, qC, qP, kY, qE, qEs, qEA, qk, ku, qr, qEv, kj, hc, qF, ql, qq, kh, kl, zS, ki, qa0, zh, kw, kB, jK, zi, zY, kA, jJ, zV, qEx, qEz, qEu, Nat.reduceAdd, kI, jF, yZ, qbW, zl, z8, zI, zJ, zM, qf, qi, qgh, e0, qEm, qEC, qgm, qH, qa8, Nat.reduceLeDiff, qar, qEK, qEH, List.take_zero, kF, ji, yx, jk, zc, zG, qt, zB, qcv, List.reduceReplicate, qD, Nat.reduceLT, yE, qaj, qba, qiu, qb7, qdm, qb4, qbe, qcA, qgo, qhD, qbH, happ, qjs, jP, e3, qjq, qln, kV, zf, kT, jX, qp, qfk, qEL, qlm, qch, qlA, qEp, qm, kq, kL, qEy, zt, jm, q1, decide_false, qJ, qS, qEl, ↓reduceIte, qY, kc, qw, qz, qfR]
        exact ih'
theorem qm9 {pg : Pg} {fn : Fn} {H : List Obj} {t hd : Nat} {first cap : List V} {rest : C} {st st' : St} (h : get t st.env = .fn hd first cap) (hk : V.ok.oks (first ++ cap) = true) (hx : exL pg rest st = some (.ret, st')) : deferred pg (exL pg) fn H t rest st = handle pg (exL pg) fn H hd (first ++ cap) (.d .ni) st' := by
  simp only [deferred, h, hk, hx, cond_true]
theorem qmS {pg : Pg} {fn : Fn} {H : List Obj} {t hd : Nat} {first cap : List V} {rest : C} {st st' : St} {v : V} (h : get t st.env = .fn hd first cap) (hk : V.ok.oks (first ++ cap) = true) (hx : exL pg rest st = some (.pan v, st')) (hv : ql4 v = true) : deferred pg (exL pg) fn H t rest st = handle pg (exL pg) fn H hd (first ++ cap) v st' := by
  simp only [deferred, h, hk, hx, hv, cond_true]
theorem qkw {pg : Pg} {fn hf : Fn} {H : List Obj} {hd d : Nat} {vs : List V} {v : V} {st st' : St} (h1 : pg.fn hd = some hf) (h2 : hf.rcv = some d) (h3 : (qEr hf.np vs.length && hf.res.isEmpty) = true) (hx : exL pg hf.body ⟨(d, v) :: jl 0 vs, st.H, st.lo⟩ = some (.nrm, st')) :
    handle pg (exL pg) fn H hd vs v st = y4 fn H ⟨st.env, st'.H, st'.lo⟩ := by
  simp only [handle, h1, h2, h3, hx, cond_true]
theorem qCt {s : List Nat} (hs : ∀ c ∈ s, c < 256) (hz : s.length ≤ 1000000000000) {H : List Obj} {e : Env} (g0 : get 0 e = .d (.s s)) (g2 : get 2 e = .ptr H.length 0) (g3 : get 3 e = .ptr (H.length + 1) 0) :
    ARes H.length (qeJ s (s.length + 1) 0 []) (exL pg qf7 ⟨e, H ++ [.cells [.d .nil]] ++ [.cells [.d .nil]], H.length⟩) := by
  have hl := qvr hs hz (b := H.length) (s.length + 1) 0 [] (H ++ [.cells [.d .nil]] ++ [.cells [.d .nil]] ++ [sc s 0]) H.length (by omega) (by omega) (by simp) (qEo _) (by simp) (by simp [slV]) (by simp) (by simp)
  have hz0 : ((0 : Nat) : Int) = 0 := rfl
  have hs0 : slV eTk [] = .d .nil := rfl
  simp only [qf7, k_, m_, o_, qA, qY, qi, qB, qo, qh, kZ, g0, qD, qC, qP, kh, ju, qEs, qEA, qL, qbW, zF, jF, qEx, qEz, qEu, Nat.reduceAdd, Nat.reduceLT, qbd, qEC, j1, j6, ji, yx, jk, zc, zG, qt, qe5, zV, kI, yZ, zl, qEv, qpm, List.length_append, kY, qW, qf, qK, qfR, Nat.reduceEqDiff, qM, g2, zn, g3]
  exact hl
theorem qv3 {s : List Nat} (hs : ∀ c ∈ s, c < 256) (hz : s.length ≤ 1000000000000) {H : List Obj} :
    ∃ lo, H.length ≤ lo ∧ qn pg 33 [.d (.s s)] H = some ⟨false, true, (if 20000 < s.length then .tup [.d .nil, .d (.sl [.agg [.i .i64 20000, .i .i64 34]])] else match qeJ s (s.length + 1) 0 [] with
      | .inr L => .tup [.d (slD eTk L), .d .nil]
      | .inl (p, x) => .tup [.d .nil, .d (.sl [.agg [.i .i64 (p : Nat), .i .i64 x]])]), H, lo⟩ := by
  rw [ql7 (fn := f_scan_All) rfl rfl rfl rfl]
  have a0 : (H ++ [Obj.cells [.d .nil]])[H.length]? = some (.cells [.d .nil]) := by simp
  have a1 : ((H ++ [Obj.cells [.d .nil]]) ++ [Obj.cells [.d .nil]])[H.length]? = some (.cells [.d .nil]) := by simp
  have a2 : ((H ++ [Obj.cells [.d .nil]]) ++ [Obj.cells [.d .nil]])[H.length + 1]? = some (.cells [.d .nil]) := by simp
  have d3 : (H.length + 1 = H.length) = False := by simp
  have d5 : (H.length = H.length + 1) = False := by simp
  have b1 : ∀ o, (kn ((H ++ [Obj.cells [.d .nil]]) ++ [Obj.cells [.d .nil]]) H.length o)[H.length + 1]? = some (.cells [.d .nil]) := fun o => by rw [qbF d3]; exact a2
  have b2 : ∀ o o', (kn (kn ((H ++ [Obj.cells [.d .nil]]) ++ [Obj.cells [.d .nil]]) H.length o) (H.length + 1) o')[H.length]? = some o := fun o o' => by rw [qbF d5]; exact jx a1
  have b3 : ∀ o o', (kn (kn ((H ++ [Obj.cells [.d .nil]]) ++ [Obj.cells [.d .nil]]) H.length o) (H.length + 1) o')[H.length + 1]? = some o' := fun o o' => jx (b1 o)
  by_cases h1 : 20000 < s.length
  · have e1 : ((20000 : Int) < (s.length : Int)) = True := by rw [eq_iff_iff]; simp; omega
    rw [if_pos h1]
    simp only [f_scan_All, l_, k_, o_, m_, g_, i_, z_, qs, qEu, qy, qA, qB, qo, qgT, qEs, qEA, qP, kY, List.length_append, qEx, qEz, qf, qi, qh, kZ, reduceCtorEq, qM, qL, qD, qC, kh, qT, zz, qt, qm, kq, kL, qEy, zt, zU, e1, decide_true, qJ, qS, ↓reduceIte, ju, yZ, zF, jF, Nat.reduceAdd, Nat.reduceLT, qbd, qEC, qEF, j1, j6, ji, yx, jk, zc, zG, zB, qcv, List.reduceReplicate, yE, qaj, qba, qiu, qb7, qdm, qEv, qb4, qbe, qcA, kB, Nat.reduceEqDiff, qW, qO, jP, a1, qgb, kI, zl, kV, zf, kT, Nat.min_self, zM, jK, qfX, kA, b1, qjy, qkE, qX, zo, qvC, qgH, qZ, qu, zA, qiB, ke, b2, kR, qEm, qEp, kF, b3, qjj, qx, qN, qes]
    refine ⟨_, ?_, yA rfl (Nat.zero_le _) (by simp only; omega)⟩
    simp only; omega
  · have e1 : ((20000 : Int) < (s.length : Int)) = False := by rw [eq_iff_iff]; simp; omega
    rw [if_neg h1]
    have hb : ∃ e, get 0 e = .d (.s s) ∧ get 2 e = .ptr H.length 0 ∧ get 3 e = .ptr (H.length + 1) 0 ∧ get 11 e = .fn 82 [] [.ptr H.length 0, .ptr (H.length + 1) 0] ∧ exL pg f_scan_All.body ⟨jl 0 [.d (.s s)], H, H.length⟩ = some (.nrm, ⟨e, H ++ [.cells [.d .nil]] ++ [.cells [.d .nil]], H.length⟩) := by
      simp only [f_scan_All, l_, k_, o_, m_, g_, i_, z_, qs, qEu, qy, qA, qB, qo, qgT, qEs, qEA, qP, kY, List.length_append, qEx, qEz, qf, qi, qh, kZ, reduceCtorEq, qM, qL, qD, qC, kh, qT, zz, qt, qm, kq, kL, qEy, zt, zU, e1, decide_false, qJ, qS, qEl, ↓reduceIte, qY, qip, Nat.reduceEqDiff, qW, qax, qfm, qpx, qEv, qkM, qqn]
      exact ⟨_, rfl, rfl, rfl, rfl, rfl⟩
    obtain ⟨e, g0, g2, g3, g11, hb⟩ := hb
    rw [hb, qu3]
    have hD := qCt hs hz g0 g2 g3
    generalize qeJ s (s.length + 1) 0 [] = r at hD
    cases r with
    | inr L =>
      obtain ⟨e', H', lo', k1, k2, k3, k4, k5, k6⟩ := hD
      rw [qm9 g11 rfl k6]
      obtain ⟨e2, hh⟩ := qxa (i0 := H.length) (i1 := H.length + 1) (H := H') (lo := lo')
      rw [qkw (hf := f_scan_All_1) (d := 5) rfl rfl rfl hh, qgH]
      have hr : f_scan_All.res = [.cell 2 ⟨1, false⟩, .cell 3 ⟨1, false⟩] := rfl
      have ho : f_scan_All.own = false := rfl
      simp only [ho, hr, qZ, qu, zA, k2, qiB, ke, k4, kR, qEm, qEp, kF, k3, k5, qx, qN, qes]
      exact ⟨_, k1, yA rfl (Nat.zero_le _) k1⟩
    | inl q =>
      obtain ⟨p, x⟩ := q
      obtain ⟨e', H', lo', v, k1, k2, k3, k4, k5, k6⟩ := hD
      rw [qmS g11 rfl k6 rfl]
      obtain ⟨e2, lo2, hlo, hh⟩ := qvd (p := (p : Int)) (e := x) (lo := lo') k4 k5 d3
      rw [qkw (hf := f_scan_All_1) (d := 5) rfl rfl rfl hh, qgH]
      have hr : f_scan_All.res = [.cell 2 ⟨1, false⟩, .cell 3 ⟨1, false⟩] := rfl
      have ho : f_scan_All.own = false := rfl
      have q1 : (kn H' H.length (.cells [.d .nil]))[H.length + 1]? = some (.cells [.d .nil]) := by rw [qbF d3]; exact k5
      have q2 : ∀ o', (kn (kn H' H.length (.cells [.d .nil])) (H.length + 1) o')[H.length]? = some (.cells [.d .nil]) := fun o' => by rw [qbF d5]; exact jx k4
      have q3 : ∀ o', (kn (kn H' H.length (.cells [.d .nil])) (H.length + 1) o')[H.length + 1]? = some o' := fun o' => jx q1
      simp only [ho, hr, qZ, qu, zA, k2, qiB, ke, q2, kR, qEm, qEp, kF, k3, q3, qjj, qx, qN, qes]
      refine ⟨_, ?_, yA rfl (Nat.zero_le _) (by simp only; omega)⟩
      simp only; omega
end W

set_option linter.unusedSimpArgs false
set_option linter.unusedVariables false
namespace W
open Go (IntKind BinOp UnOp)
set_option maxRecDepth 20000
theorem qoH {H : List Obj} : qn pg 86 [] H = some ⟨false, true, slV D.s KW, H, H.length⟩ := by
  rw [qg (fn := qaZ) rfl rfl]
  simp only [qaZ, k_, o_, v_, qy, qA, qB, qo, qh, zt, qO, qP, kh, qf, qi, zB, qck, qEx, qEz, qEu, List.reduceReplicate, qEs, qEA, Nat.reduceAdd, Nat.reduceLT, yE, qEC, qEF, qaj, qba, qbW, qgq, qb4, qEv, qbe, qt, qcA, jK, qL, qfX, kA, qX, qZ, qu, kC, ql5, qx, qN, kp, qlD, qq0, qkr, zg]
  all_goals rfl
theorem qsG {L : List (List Nat)} {t : List Nat} (hz : L.length ≤ 1000000000000) {H : List Obj} :
    ∀ (k i : Nat), L.length - i = k → i ≤ L.length → ∃ x e, (x = .nrm ∨ x = .ret) ∧ get 2 e = .d (.b (decide (t ∈ L.drop i))) ∧
      qbm pg (qa5 0 [] (qam pg (.d (.s t)) (slV D.s L) (.d (.i .i64 (i : Nat))) H H.length)) qai = some (x, ⟨e, H, H.length⟩) := by
  intro k
  induction k with
  | zero =>
    intro i hk hi
    obtain rfl : i = L.length := by omega
    have h1 : ((L.length : Int) < (L.length : Int)) = False := by simp
    rw [qcs]
    simp only [j7, k_, m_, n_, e_, x_, h_, o_, g_, kg, yY, qA, qB, qo, qh, kZ, reduceCtorEq, qM, Nat.reduceEqDiff, qL, qD, qC, qP, kh, qaF, zR, qdx, qt, qm, kq, qED, kS, h1, decide_false, qf, qi, qJ, qS, qEl, ↓reduceIte, qbr, yW, j0, qz, qai, zt, qO, qX]
    exact ⟨_, _, .inr rfl, by rw [List.drop_length]; simp [get], rfl⟩
  | succ k ih =>
    intro i hk hi
    have h1 : ((i : Int) < (L.length : Int)) = True := by rw [eq_iff_iff]; simp; omega
    have hlt : i < L.length := by omega
    have hdr : L.drop i = L[i] :: L.drop (i + 1) := by simp
    have hia : iaV (.d (slD D.s L)) (.d (.i .i64 (i : Int))) 1 none = some (.cp (.s L[i])) := qmU (fun _ => rfl) (by omega) (by simp)
    have hw : wr .i64 ((i : Int) + 1) = ((i + 1 : Nat) : Int) := by rw [qcV (by omega) (by omega)]; omega
    rw [qcs]
    by_cases hc : L[i] = t
    · have h2 : (L[i] = t) = True := eq_true hc
      simp only [j7, k_, m_, n_, e_, x_, h_, o_, g_, kg, yY, qA, qB, qo, qh, kZ, reduceCtorEq, qM, Nat.reduceEqDiff, qL, qD, qC, qP, kh, qaF, zR, qdx, qt, qm, kq, qED, kS, h1, decide_true, qf, qi, qJ, qS, ↓reduceIte, qY, qK, ko, hia, qaY, qH, jL, jQ, yr, h2, zt, qO, qX, zH, zo, qai]
      exact ⟨_, _, .inr rfl, by rw [hdr, hc]; simp [get], rfl⟩
    · have h2 : (L[i] = t) = False := eq_false hc
      obtain ⟨x, e, q1, q2, q3⟩ := ih (i + 1) (by omega) (by omega)
      simp only [j7, k_, m_, n_, e_, x_, h_, o_, g_, kg, yY, qA, qB, qo, qh, kZ, reduceCtorEq, qM, Nat.reduceEqDiff, qL, qD, qC, qP, kh, qaF, zR, qdx, qt, qm, kq, qED, kS, h1, decide_true, qf, qi, qJ, qS, ↓reduceIte, qY, qK, ko, hia, qaY, qH, jL, jQ, yr, h2, decide_false, qEl, kc, qw, qz, kL, qEy, zt, jr, hw, qcg]
      refine ⟨x, e, q1, ?_, q3⟩
      rw [q2, hdr]
      have : (t = L[i]) = False := eq_false (fun h => hc h.symm)
      simp only [List.mem_cons, this, false_or]
theorem qni {t : List Nat} {H : List Obj} : qn pg 35 [.d (.s t)] H = some ⟨false, true, .d (.b (decide (t ∈ KW))), H, H.length⟩ := by
  obtain ⟨x, e, q1, q2, q3⟩ := qsG (L := KW) (t := t) (by decide) (H := H) KW.length 0 rfl (by omega)
  have hz0 : ((0 : Nat) : Int) = 0 := rfl
  rw [hz0] at q3
  rw [qEK] at q2
  rw [qg (fn := qbf) rfl rfl]
  simp only [qbf, k_, o_, c_, v_, i_, qs, qEu, qy, qA, qB, qo, qh, zt, qO, qP, kh, qf, qi, qE, qEA, qr, kj, qoH, qF, qq, Nat.min_self, qgm, jK, qL, qhD, kA, qK, qcg, reduceCtorEq, qM, kg, Nat.reduceEqDiff, yY]
  rw [q3]
  rcases q1 with rfl | rfl
  all_goals simp only [qhg, qu, kC, q2, jt, qx, qN, kp, qQ, qaP, jp, zg, qZ]
  all_goals rfl
end W

set_option linter.unusedSimpArgs false
set_option linter.unusedVariables false
namespace W
open Go (IntKind BinOp UnOp)
set_option maxRecDepth 20000
def RES : List (List Nat) := [[73, 78, 84, 69, 71, 69, 82], [67, 72, 65, 82], [66, 79, 79, 76, 69, 65, 78], [83, 69, 84], [65, 66, 83], [79, 68, 68], [76, 83, 76], [65, 83, 82], [82, 79, 82], [79, 82, 68], [67, 72, 82], [76, 69, 78], [73, 78, 67], [68, 69, 67], [73, 78, 67, 76], [69, 88, 67, 76], [78, 69, 87], [65, 83, 83, 69, 82, 84]]
def qzG : List Nat := [73, 78, 84, 69, 71, 69, 82, 32, 67, 72, 65, 82, 32, 66, 79, 79, 76, 69, 65, 78, 32, 83, 69, 84, 32, 65, 66, 83, 32, 79, 68, 68, 32, 76, 83, 76, 32, 65, 83, 82, 32, 82, 79, 82, 32, 79, 82, 68, 32, 67, 72, 82, 32, 76, 69, 78, 32, 73, 78, 67, 32, 68, 69, 67, 32, 73, 78, 67, 76, 32, 69, 88, 67, 76, 32, 78, 69, 87, 32, 65, 83, 83, 69, 82, 84]
theorem qxf : isD (qfD pg 4000 85 [.d (.s qzG)] []) (.sl (RES.map D.s)) = true := by decide +kernel
theorem qpT {t : List Nat} {H : List Obj} : qn pg 36 [.d (.s t)] H = some ⟨false, true, .d (.b (decide (t ∈ RES))), H, H.length⟩ := by
  rw [qg (fn := qaV) rfl rfl]
  by_cases h : t ∈ RES
  · rw [decide_eq_true h]
    simp only [RES, List.mem_cons, List.not_mem_nil, or_false] at h
    rcases h with rfl | rfl | rfl | rfl | rfl | rfl | rfl | rfl | rfl | rfl | rfl | rfl | rfl | rfl | rfl | rfl | rfl | rfl
    all_goals (simp only [qaV, k_, o_, m_, qs, qEu, qy, qA, qB, qo, qh, zt, qO, qP, kh, qf, qi, kZ, reduceCtorEq, qM, qL, qD, qC, qK, qm, kq, kL, qEy, yr, decide_true, qt, qJ, qS, ↓reduceIte, qY, qX, zH, zo, qZ, qu, kC, jt, qx, qN, kp, qQ, qaP, jp, zg, List.cons.injEq, Nat.reduceEqDiff, and_self, decide_false, qEl, and_true, and_false])
    all_goals rfl
  · rw [decide_eq_false h]
    simp only [RES, List.mem_cons, List.not_mem_nil, or_false, not_or] at h
    obtain ⟨h0, h1, h2, h3, h4, h5, h6, h7, h8, h9, h10, h11, h12, h13, h14, h15, h16, h17⟩ := h
    simp only [qaV, k_, o_, m_, qs, qEu, qy, qA, qB, qo, qh, zt, qO, qP, kh, qf, qi, kZ, reduceCtorEq, qM, qL, qD, qC, qK, qm, kq, kL, qEy, yr, eq_false h0, decide_false, qt, qJ, qS, qEl, ↓reduceIte, Nat.reduceEqDiff, eq_false h1, eq_false h2, eq_false h3, eq_false h4, eq_false h5, eq_false h6, eq_false h7, eq_false h8, eq_false h9, eq_false h10, eq_false h11, eq_false h12, eq_false h13, eq_false h14, eq_false h15, eq_false h16, eq_false h17, qY, kc, qz, qX, qZ, qu, kC, jt, qx, qN, kp, qQ, qaP, jp, zg]
    all_goals rfl
end W

set_option linter.unusedSimpArgs false
set_option linter.unusedVariables false
namespace W
open Go (IntKind BinOp UnOp)
set_option maxRecDepth 20000
theorem qld {t : List Nat} {H : List Obj} : qn pg 84 [.d (.sl (RES.map D.s)), .d (.s t)] H = some ⟨false, true, .d (.b (decide (t ∈ RES))), H, H.length⟩ := by
  obtain ⟨r, h1, h2⟩ := qko (L := RES) (t := t) (by decide) (H := H)
  have h2' : qn pg 181 [.d (.sl (RES.map D.s)), .d (.s t)] H = some ⟨false, true, .d (.i .i64 r), H, H.length⟩ := h2
  rw [qg (fn := f_slices_Contains___string_string_) rfl rfl, ← h1]
  by_cases h : (0 : Int) ≤ r
  all_goals simp only [f_slices_Contains___string_string_, k_, o_, v_, c_, g_, m_, qs, qEu, Nat.reduceAdd, qy, qA, qB, qo, qh, zt, qO, qP, kh, qf, qi, jK, reduceCtorEq, qM, qL, zi, kA, Nat.reduceEqDiff, qE, qEs, qEA, qk, qQ, qr, qEv, kj, h2', qF, ql, qq, Nat.min_self, qm, kq, kL, qEy, kZ, qD, jD, h, decide_true, qt, qC, qX, qZ, qu, kC, jt, qx, qN, kp, qaP, jp, zg, decide_false]
  all_goals rfl
theorem qoh : ∃ lo, qn pg 85 [.d (.s qzG)] [] = some ⟨false, true, .d (.sl (RES.map D.s)), [], lo⟩ := qlH qnk qxf
theorem qlR {t : List Nat} : ∃ lo, qn pg 34 [.d (.s t)] [] = some ⟨false, true, .d (.b (decide (t ∈ RES))), [], lo⟩ := by
  obtain ⟨lo, hf⟩ := qoh
  unfold qzG at hf
  rw [qg (fn := qcz) rfl rfl]
  simp only [qcz, k_, o_, v_, c_, qs, qEu, qy, qEz, qA, qB, qo, qh, zt, qO, qP, kh, qf, qi, qE, qEs, qEA, qk, qQ, qr, qEv, kj, hf, qF, ql, qq, jK, reduceCtorEq, qM, qL, zi, kA, kZ, Nat.reduceEqDiff, qD, qld, qC, qX, qZ, qu, kC, jt, qx, qN, kp]
  exact ⟨_, yA rfl (Nat.zero_le _) (Nat.zero_le _)⟩
def idF : Nat → List Nat → Bool
  | _, [] => true
  | i, c :: l => (cLt c || (decide (0 < i) && cDg c)) && idF (i + 1) l
def idB (s : List Nat) : Bool := !decide (s = []) && !decide (32 < s.length) && !decide (s ∈ KW) && !decide (s ∈ RES) && idF 0 s
theorem qnq {s : List Nat} (hs : ∀ c ∈ s, c < 256) (hz : s.length ≤ 1000000000000) {H : List Obj} :
    ∀ (k i : Nat), s.length - i = k → i ≤ s.length → ∃ x e, (x = .nrm ∨ x = .ret) ∧ get 2 e = .d (.b (idF i (s.drop i))) ∧
      qbm pg (qa5 0 [] (qa3 pg (.d (.s s)) (.d (.i .i64 (i : Nat))) H H.length)) qb3 = some (x, ⟨e, H, H.length⟩) := by
  intro k
  induction k with
  | zero =>
    intro i hk hi
    obtain rfl : i = s.length := by omega
    have h1 : ((s.length : Int) < (s.length : Int)) = False := by simp
    rw [qcZ]
    simp only [kx, k_, m_, o_, e_, q_, i_, u_, g_, kg, qA, qB, qo, qh, kZ, reduceCtorEq, qM, qL, qD, qC, qP, kh, qT, zz, qt, qm, kq, qED, Nat.reduceEqDiff, kS, h1, decide_false, qf, qi, qJ, qS, qEl, ↓reduceIte, qbr, yW, j0, qz, qb3, zt, qO, qX]
    exact ⟨_, _, .inr rfl, by rw [List.drop_length]; simp [get, idF], rfl⟩
  | succ k ih =>
    intro i hk hi
    have h1 : ((i : Int) < (s.length : Int)) = True := by rw [eq_iff_iff]; simp; omega
    have hlt : i < s.length := by omega
    have hdr : s.drop i = s[i] :: s.drop (i + 1) := by simp
    have hw : wr .i64 ((i : Int) + 1) = ((i + 1 : Nat) : Int) := by rw [qcV (by omega) (by omega)]; omega
    have hix : ixV (.d (.s s)) (.d (.i .i64 (i : Int))) = some (.d (.i .u8 ((s[i] : Nat) : Int))) := qoc (by omega) (by simp [hlt])
    have hc : s[i] < 256 := hs _ (List.getElem_mem hlt)
    rw [qcZ]
    obtain ⟨x, e, q1, q2, q3⟩ := ih (i + 1) (by omega) (by omega)
    rw [hdr]
    generalize s[i] = c at hix hc
    have g : c < 48 ∨ (48 ≤ c ∧ c < 58) ∨ (58 ≤ c ∧ c < 65) ∨ (65 ≤ c ∧ c < 91) ∨ (91 ≤ c ∧ c < 97) ∨ (97 ≤ c ∧ c < 123) ∨ 123 ≤ c := by omega
    rcases g with g | g | g | g | g | g | g
    · have hL : cLt c = false := by simp only [cLt, Bool.or_eq_true, qEn, decide_eq_true_eq, Bool.or_eq_false_iff, Bool.and_eq_false_iff, decide_eq_false_iff_not]; omega
      have hD : cDg c = false := by simp only [cDg, qEn, decide_eq_true_eq, Bool.and_eq_false_iff, decide_eq_false_iff_not]; omega
      have e97 : ((97 : Int) ≤ (c : Int)) = False := by rw [eq_iff_iff]; simp only [iff_true, iff_false]; omega
      have e122 : ((c : Int) ≤ 122) = True := by rw [eq_iff_iff]; simp only [iff_true, iff_false]; omega
      have e65 : ((65 : Int) ≤ (c : Int)) = False := by rw [eq_iff_iff]; simp only [iff_true, iff_false]; omega
      have e90 : ((c : Int) ≤ 90) = True := by rw [eq_iff_iff]; simp only [iff_true, iff_false]; omega
      have e48 : ((48 : Int) ≤ (c : Int)) = False := by rw [eq_iff_iff]; simp only [iff_true, iff_false]; omega
      have e57 : ((c : Int) ≤ 57) = True := by rw [eq_iff_iff]; simp only [iff_true, iff_false]; omega
      by_cases h0 : 0 < i
      · have h0' : ((0 : Int) < (i : Int)) = True := by rw [eq_iff_iff]; simp only [iff_true]; omega
        simp only [kx, k_, m_, o_, e_, q_, i_, u_, g_, kg, qA, qB, qo, qh, kZ, reduceCtorEq, qM, qL, qD, qC, qP, kh, qT, zz, qt, qm, kq, qED, Nat.reduceEqDiff, kS, h1, decide_true, qf, qi, qJ, qS, ↓reduceIte, qY, qK, kO, hix, kL, qEy, zt, jD, e97, decide_false, kv, kE, kK, qEl, ky, qU, q9, jA, zx, qEJ, e65, kU, zU, h0', e48, jW, qa6, qEp, qO, qX, zH, zo]
        exact ⟨_, _, .inr rfl, by simp [get, idF, hL, hD], rfl⟩
      · have h0' : ((0 : Int) < (i : Int)) = False := by rw [eq_iff_iff]; simp only [iff_false]; omega
        simp only [kx, k_, m_, o_, e_, q_, i_, u_, g_, kg, qA, qB, qo, qh, kZ, reduceCtorEq, qM, qL, qD, qC, qP, kh, qT, zz, qt, qm, kq, qED, Nat.reduceEqDiff, kS, h1, decide_true, qf, qi, qJ, qS, ↓reduceIte, qY, qK, kO, hix, kL, qEy, zt, jD, e97, decide_false, kv, kE, kK, qEl, ky, qU, q9, jA, zx, qEJ, e65, kU, zU, h0', jW, qa6, qEp, qO, qX, zH, zo]
        exact ⟨_, _, .inr rfl, by simp [get, idF, hL, hD], rfl⟩
    · have hL : cLt c = false := by simp only [cLt, Bool.or_eq_true, qEn, decide_eq_true_eq, Bool.or_eq_false_iff, Bool.and_eq_false_iff, decide_eq_false_iff_not]; omega
      have hD : cDg c = true := by simp only [cDg, qEn, decide_eq_true_eq, Bool.and_eq_false_iff, decide_eq_false_iff_not]; omega
      have e97 : ((97 : Int) ≤ (c : Int)) = False := by rw [eq_iff_iff]; simp only [iff_true, iff_false]; omega
      have e122 : ((c : Int) ≤ 122) = True := by rw [eq_iff_iff]; simp only [iff_true, iff_false]; omega
      have e65 : ((65 : Int) ≤ (c : Int)) = False := by rw [eq_iff_iff]; simp only [iff_true, iff_false]; omega
      have e90 : ((c : Int) ≤ 90) = True := by rw [eq_iff_iff]; simp only [iff_true, iff_false]; omega
      have e48 : ((48 : Int) ≤ (c : Int)) = True := by rw [eq_iff_iff]; simp only [iff_true, iff_false]; omega
      have e57 : ((c : Int) ≤ 57) = True := by rw [eq_iff_iff]; simp only [iff_true, iff_false]; omega
      by_cases h0 : 0 < i
      · have h0' : ((0 : Int) < (i : Int)) = True := by rw [eq_iff_iff]; simp only [iff_true]; omega
        simp only [kx, k_, m_, o_, e_, q_, i_, u_, g_, kg, qA, qB, qo, qh, kZ, reduceCtorEq, qM, qL, qD, qC, qP, kh, qT, zz, qt, qm, kq, qED, Nat.reduceEqDiff, kS, h1, decide_true, qf, qi, qJ, qS, ↓reduceIte, qY, qK, kO, hix, kL, qEy, zt, jD, e97, decide_false, kv, kE, kK, qEl, ky, qU, q9, jA, zx, qEJ, e65, kU, zU, h0', e48, ye, e57, jW, qa6, qEG, qEp, kc, qw, qz, jr, hw, y5]
        refine ⟨x, e, q1, ?_, q3⟩
        rw [q2]; simp [idF, hL, hD, h0]
      · have h0' : ((0 : Int) < (i : Int)) = False := by rw [eq_iff_iff]; simp only [iff_false]; omega
        simp only [kx, k_, m_, o_, e_, q_, i_, u_, g_, kg, qA, qB, qo, qh, kZ, reduceCtorEq, qM, qL, qD, qC, qP, kh, qT, zz, qt, qm, kq, qED, Nat.reduceEqDiff, kS, h1, decide_true, qf, qi, qJ, qS, ↓reduceIte, qY, qK, kO, hix, kL, qEy, zt, jD, e97, decide_false, kv, kE, kK, qEl, ky, qU, q9, jA, zx, qEJ, e65, kU, zU, h0', jW, qa6, qEp, qO, qX, zH, zo]
        exact ⟨_, _, .inr rfl, by simp [get, idF, hL, h0], rfl⟩
    · have hL : cLt c = false := by simp only [cLt, Bool.or_eq_true, qEn, decide_eq_true_eq, Bool.or_eq_false_iff, Bool.and_eq_false_iff, decide_eq_false_iff_not]; omega
      have hD : cDg c = false := by simp only [cDg, qEn, decide_eq_true_eq, Bool.and_eq_false_iff, decide_eq_false_iff_not]; omega
      have e97 : ((97 : Int) ≤ (c : Int)) = False := by rw [eq_iff_iff]; simp only [iff_true, iff_false]; omega
      have e122 : ((c : Int) ≤ 122) = True := by rw [eq_iff_iff]; simp only [iff_true, iff_false]; omega
      have e65 : ((65 : Int) ≤ (c : Int)) = False := by rw [eq_iff_iff]; simp only [iff_true, iff_false]; omega
      have e90 : ((c : Int) ≤ 90) = True := by rw [eq_iff_iff]; simp only [iff_true, iff_false]; omega
      have e48 : ((48 : Int) ≤ (c : Int)) = True := by rw [eq_iff_iff]; simp only [iff_true, iff_false]; omega
      have e57 : ((c : Int) ≤ 57) = False := by rw [eq_iff_iff]; simp only [iff_true, iff_false]; omega
      by_cases h0 : 0 < i
      · have h0' : ((0 : Int) < (i : Int)) = True := by rw [eq_iff_iff]; simp only [iff_true]; omega
        simp only [kx, k_, m_, o_, e_, q_, i_, u_, g_, kg, qA, qB, qo, qh, kZ, reduceCtorEq, qM, qL, qD, qC, qP, kh, qT, zz, qt, qm, kq, qED, Nat.reduceEqDiff, kS, h1, decide_true, qf, qi, qJ, qS, ↓reduceIte, qY, qK, kO, hix, kL, qEy, zt, jD, e97, decide_false, kv, kE, kK, qEl, ky, qU, q9, jA, zx, qEJ, e65, kU, zU, h0', e48, ye, e57, jW, qa6, qEp, qO, qX, zH, zo]
        exact ⟨_, _, .inr rfl, by simp [get, idF, hL, hD], rfl⟩
      · have h0' : ((0 : Int) < (i : Int)) = False := by rw [eq_iff_iff]; simp only [iff_false]; omega
        simp only [kx, k_, m_, o_, e_, q_, i_, u_, g_, kg, qA, qB, qo, qh, kZ, reduceCtorEq, qM, qL, qD, qC, qP, kh, qT, zz, qt, qm, kq, qED, Nat.reduceEqDiff, kS, h1, decide_true, qf, qi, qJ, qS, ↓reduceIte, qY, qK, kO, hix, kL, qEy, zt, jD, e97, decide_false, kv, kE, kK, qEl, ky, qU, q9, jA, zx, qEJ, e65, kU, zU, h0', jW, qa6, qEp, qO, qX, zH, zo]
        exact ⟨_, _, .inr rfl, by simp [get, idF, hL, hD], rfl⟩
    · have hL : cLt c = true := by simp only [cLt, Bool.or_eq_true, qEn, decide_eq_true_eq, Bool.or_eq_false_iff, Bool.and_eq_false_iff, decide_eq_false_iff_not]; omega
      have hD : cDg c = false := by simp only [cDg, qEn, decide_eq_true_eq, Bool.and_eq_false_iff, decide_eq_false_iff_not]; omega
      have e97 : ((97 : Int) ≤ (c : Int)) = False := by rw [eq_iff_iff]; simp only [iff_true, iff_false]; omega
      have e122 : ((c : Int) ≤ 122) = True := by rw [eq_iff_iff]; simp only [iff_true, iff_false]; omega
      have e65 : ((65 : Int) ≤ (c : Int)) = True := by rw [eq_iff_iff]; simp only [iff_true, iff_false]; omega
      have e90 : ((c : Int) ≤ 90) = True := by rw [eq_iff_iff]; simp only [iff_true, iff_false]; omega
      have e48 : ((48 : Int) ≤ (c : Int)) = True := by rw [eq_iff_iff]; simp only [iff_true, iff_false]; omega
      have e57 : ((c : Int) ≤ 57) = False := by rw [eq_iff_iff]; simp only [iff_true, iff_false]; omega
      simp only [kx, k_, m_, o_, e_, q_, i_, u_, g_, kg, qA, qB, qo, qh, kZ, reduceCtorEq, qM, qL, qD, qC, qP, kh, qT, zz, qt, qm, kq, qED, Nat.reduceEqDiff, kS, h1, decide_true, qf, qi, qJ, qS, ↓reduceIte, qY, qK, kO, hix, kL, qEy, zt, jD, e97, decide_false, kv, kE, kK, qEl, ky, qU, q9, jA, zx, qEJ, e65, ye, e90, kU, qEG, qhB, qc3, jW, qa6, qEp, kc, qw, qz, jr, hw, y5]
      refine ⟨x, e, q1, ?_, q3⟩
      rw [q2]; simp [idF, hL]
    · have hL : cLt c = false := by simp only [cLt, Bool.or_eq_true, qEn, decide_eq_true_eq, Bool.or_eq_false_iff, Bool.and_eq_false_iff, decide_eq_false_iff_not]; omega
      have hD : cDg c = false := by simp only [cDg, qEn, decide_eq_true_eq, Bool.and_eq_false_iff, decide_eq_false_iff_not]; omega
      have e97 : ((97 : Int) ≤ (c : Int)) = False := by rw [eq_iff_iff]; simp only [iff_true, iff_false]; omega
      have e122 : ((c : Int) ≤ 122) = True := by rw [eq_iff_iff]; simp only [iff_true, iff_false]; omega
      have e65 : ((65 : Int) ≤ (c : Int)) = True := by rw [eq_iff_iff]; simp only [iff_true, iff_false]; omega
      have e90 : ((c : Int) ≤ 90) = False := by rw [eq_iff_iff]; simp only [iff_true, iff_false]; omega
      have e48 : ((48 : Int) ≤ (c : Int)) = True := by rw [eq_iff_iff]; simp only [iff_true, iff_false]; omega
      have e57 : ((c : Int) ≤ 57) = False := by rw [eq_iff_iff]; simp only [iff_true, iff_false]; omega
      by_cases h0 : 0 < i
      · have h0' : ((0 : Int) < (i : Int)) = True := by rw [eq_iff_iff]; simp only [iff_true]; omega
        simp only [kx, k_, m_, o_, e_, q_, i_, u_, g_, kg, qA, qB, qo, qh, kZ, reduceCtorEq, qM, qL, qD, qC, qP, kh, qT, zz, qt, qm, kq, qED, Nat.reduceEqDiff, kS, h1, decide_true, qf, qi, qJ, qS, ↓reduceIte, qY, qK, kO, hix, kL, qEy, zt, jD, e97, decide_false, kv, kE, kK, qEl, ky, qU, q9, jA, zx, qEJ, e65, ye, e90, kU, zU, h0', e48, e57, jW, qa6, qEp, qO, qX, zH, zo]
        exact ⟨_, _, .inr rfl, by simp [get, idF, hL, hD], rfl⟩
      · have h0' : ((0 : Int) < (i : Int)) = False := by rw [eq_iff_iff]; simp only [iff_false]; omega
        simp only [kx, k_, m_, o_, e_, q_, i_, u_, g_, kg, qA, qB, qo, qh, kZ, reduceCtorEq, qM, qL, qD, qC, qP, kh, qT, zz, qt, qm, kq, qED, Nat.reduceEqDiff, kS, h1, decide_true, qf, qi, qJ, qS, ↓reduceIte, qY, qK, kO, hix, kL, qEy, zt, jD, e97, decide_false, kv, kE, kK, qEl, ky, qU, q9, jA, zx, qEJ, e65, ye, e90, kU, zU, h0', jW, qa6, qEp, qO, qX, zH, zo]
        exact ⟨_, _, .inr rfl, by simp [get, idF, hL, hD], rfl⟩
    · have hL : cLt c = true := by simp only [cLt, Bool.or_eq_true, qEn, decide_eq_true_eq, Bool.or_eq_false_iff, Bool.and_eq_false_iff, decide_eq_false_iff_not]; omega
      have hD : cDg c = false := by simp only [cDg, qEn, decide_eq_true_eq, Bool.and_eq_false_iff, decide_eq_false_iff_not]; omega
      have e97 : ((97 : Int) ≤ (c : Int)) = True := by rw [eq_iff_iff]; simp only [iff_true, iff_false]; omega
      have e122 : ((c : Int) ≤ 122) = True := by rw [eq_iff_iff]; simp only [iff_true, iff_false]; omega
      have e65 : ((65 : Int) ≤ (c : Int)) = True := by rw [eq_iff_iff]; simp only [iff_true, iff_false]; omega
      have e90 : ((c : Int) ≤ 90) = False := by rw [eq_iff_iff]; simp only [iff_true, iff_false]; omega
      have e48 : ((48 : Int) ≤ (c : Int)) = True := by rw [eq_iff_iff]; simp only [iff_true, iff_false]; omega
      have e57 : ((c : Int) ≤ 57) = False := by rw [eq_iff_iff]; simp only [iff_true, iff_false]; omega
      simp only [kx, k_, m_, o_, e_, q_, i_, u_, g_, kg, qA, qB, qo, qh, kZ, reduceCtorEq, qM, qL, qD, qC, qP, kh, qT, zz, qt, qm, kq, qED, Nat.reduceEqDiff, kS, h1, decide_true, qf, qi, qJ, qS, ↓reduceIte, qY, qK, kO, hix, kL, qEy, zt, jD, e97, kv, kE, kK, ye, e122, qU, kU, zx, qEG, qEl, ky, qhB, q9, qc3, jW, qa6, qEp, kc, qw, qz, jr, hw, y5]
      refine ⟨x, e, q1, ?_, q3⟩
      rw [q2]; simp [idF, hL]
    · have hL : cLt c = false := by simp only [cLt, Bool.or_eq_true, qEn, decide_eq_true_eq, Bool.or_eq_false_iff, Bool.and_eq_false_iff, decide_eq_false_iff_not]; omega
      have hD : cDg c = false := by simp only [cDg, qEn, decide_eq_true_eq, Bool.and_eq_false_iff, decide_eq_false_iff_not]; omega
      have e97 : ((97 : Int) ≤ (c : Int)) = True := by rw [eq_iff_iff]; simp only [iff_true, iff_false]; omega
      have e122 : ((c : Int) ≤ 122) = False := by rw [eq_iff_iff]; simp only [iff_true, iff_false]; omega
      have e65 : ((65 : Int) ≤ (c : Int)) = True := by rw [eq_iff_iff]; simp only [iff_true, iff_false]; omega
      have e90 : ((c : Int) ≤ 90) = False := by rw [eq_iff_iff]; simp only [iff_true, iff_false]; omega
      have e48 : ((48 : Int) ≤ (c : Int)) = True := by rw [eq_iff_iff]; simp only [iff_true, iff_false]; omega
      have e57 : ((c : Int) ≤ 57) = False := by rw [eq_iff_iff]; simp only [iff_true, iff_false]; omega
      by_cases h0 : 0 < i
      · have h0' : ((0 : Int) < (i : Int)) = True := by rw [eq_iff_iff]; simp only [iff_true]; omega
        simp only [kx, k_, m_, o_, e_, q_, i_, u_, g_, kg, qA, qB, qo, qh, kZ, reduceCtorEq, qM, qL, qD, qC, qP, kh, qT, zz, qt, qm, kq, qED, Nat.reduceEqDiff, kS, h1, decide_true, qf, qi, qJ, qS, ↓reduceIte, qY, qK, kO, hix, kL, qEy, zt, jD, e97, kv, kE, kK, ye, e122, decide_false, qU, kU, zx, qEJ, e65, e90, qEl, zU, h0', e48, e57, jW, qa6, qEp, qO, qX, zH, zo]
        exact ⟨_, _, .inr rfl, by simp [get, idF, hL, hD], rfl⟩
      · have h0' : ((0 : Int) < (i : Int)) = False := by rw [eq_iff_iff]; simp only [iff_false]; omega
        simp only [kx, k_, m_, o_, e_, q_, i_, u_, g_, kg, qA, qB, qo, qh, kZ, reduceCtorEq, qM, qL, qD, qC, qP, kh, qT, zz, qt, qm, kq, qED, Nat.reduceEqDiff, kS, h1, decide_true, qf, qi, qJ, qS, ↓reduceIte, qY, qK, kO, hix, kL, qEy, zt, jD, e97, kv, kE, kK, ye, e122, decide_false, qU, kU, zx, qEJ, e65, e90, qEl, zU, h0', ky, q9, jA, jW, qa6, qEp, qO, qX, zH, zo]
        exact ⟨_, _, .inr rfl, by simp [get, idF, hL, hD], rfl⟩
theorem qm4 {s : List Nat} (hs : ∀ c ∈ s, c < 256) (hz : s.length ≤ 1000000000000) {H : List Obj} : qn pg 15 [.d (.s s)] H = some ⟨false, true, .d (.b (idB s)), H, H.length⟩ := by
  rw [qg (fn := jR) rfl rfl]
  have hk := qni (t := s) (H := H)
  have ht := qpT (t := s) (H := H)
  obtain ⟨x, e, q1, q2, q3⟩ := qnq hs hz (H := H) s.length 0 rfl (by omega)
  have hz0 : ((0 : Nat) : Int) = 0 := rfl
  rw [hz0] at q3
  rw [qEK] at q2
  unfold idB
  have e0 : (s = ([] : List Nat)) = (s = []) := rfl
  by_cases h1 : s = []
  · subst h1
    simp only [jR, k_, o_, m_, q_, i_, qs, qEu, qy, qA, qB, qo, qh, zt, qO, qP, kh, qf, qi, kZ, reduceCtorEq, qM, qL, qD, qC, qm, kq, kL, qEy, yr, decide_true, qt, kv, zx, qEG, kK, qEl, ↓reduceIte, ky, Nat.reduceEqDiff, qU, q9, qc3, qJ, qS, qX, zo, qZ, qu, kC, jt, qx, qN, kp, qQ, qaP, jp, zg, qEz, Nat.reduceLT, decide_false, qEJ, Bool.and_true, Bool.false_and]
    all_goals rfl
  · have e1 : (s = []) = False := eq_false h1
    by_cases h2 : 32 < s.length
    · have e2 : ((32 : Int) < (s.length : Int)) = True := by rw [eq_iff_iff]; simp; omega
      simp only [jR, k_, o_, m_, q_, i_, qs, qEu, qy, qA, qB, qo, qh, zt, qO, qP, kh, qf, qi, kZ, reduceCtorEq, qM, qL, qD, qC, qm, kq, kL, qEy, yr, e1, decide_false, qt, kv, zx, qEJ, kK, ↓reduceIte, Nat.reduceEqDiff, qT, zz, zU, e2, decide_true, qU, kU, qEl, qEG, ky, q9, qc3, qJ, qS, qX, zo, qZ, qu, kC, jt, qx, qN, kp, qQ, qaP, jp, zg, Bool.true_and]
      rw [decide_eq_true h2]; simp
    · have e2 : ((32 : Int) < (s.length : Int)) = False := by rw [eq_iff_iff]; simp; omega
      rw [decide_eq_false h1, decide_eq_false h2]
      by_cases h3 : s ∈ KW
      · rw [decide_eq_true h3] at hk
        simp only [jR, k_, o_, m_, q_, i_, qs, qEu, qy, qA, qB, qo, qh, zt, qO, qP, kh, qf, qi, kZ, reduceCtorEq, qM, qL, qD, qC, qm, kq, kL, qEy, yr, e1, decide_false, qt, kv, zx, qEJ, kK, ↓reduceIte, Nat.reduceEqDiff, qT, zz, zU, e2, qU, kU, qEl, qE, qEs, qEA, qk, qQ, qr, qEv, kj, hk, qF, ql, qq, Nat.min_self, qEG, ky, q9, qc3, qJ, qS, qX, zo, qZ, qu, kC, jt, qx, qN, kp, qaP, jp, zg, Bool.true_and]
        rw [decide_eq_true h3]; simp
      · rw [decide_eq_false h3] at hk
        rw [decide_eq_false h3]
        by_cases h4 : s ∈ RES
        · rw [decide_eq_true h4] at ht
          simp only [jR, k_, o_, m_, q_, i_, qs, qEu, qy, qA, qB, qo, qh, zt, qO, qP, kh, qf, qi, kZ, reduceCtorEq, qM, qL, qD, qC, qm, kq, kL, qEy, yr, e1, decide_false, qt, kv, zx, qEJ, kK, ↓reduceIte, Nat.reduceEqDiff, qT, zz, zU, e2, qU, kU, qEl, qE, qEs, qEA, qk, qQ, qr, qEv, kj, hk, qF, ql, qq, Nat.min_self, ht, qJ, qS, qX, zo, qZ, qu, kC, jt, qx, qN, kp, qaP, jp, zg, Bool.true_and]
          rw [decide_eq_true h4]; simp
        · rw [decide_eq_false h4] at ht
          rw [decide_eq_false h4]
          simp only [jR, k_, o_, m_, q_, i_, qs, qEu, qy, qA, qB, qo, qh, zt, qO, qP, kh, qf, qi, kZ, reduceCtorEq, qM, qL, qD, qC, qm, kq, kL, qEy, yr, e1, decide_false, qt, kv, zx, qEJ, kK, ↓reduceIte, Nat.reduceEqDiff, qT, zz, zU, e2, qU, kU, qEl, qE, qEs, qEA, qk, qQ, qr, qEv, kj, hk, qF, ql, qq, Nat.min_self, ht, qJ, qS, qY, qK, y5, kg, Bool.true_and]
          rw [q3]
          rcases q1 with rfl | rfl
          all_goals simp only [qhg, qu, kC, q2, jt, qx, qN, kp, qQ, qaP, jp, zg, qZ]
          all_goals simp
          all_goals rfl
end W

set_option linter.unusedSimpArgs false
set_option linter.unusedVariables false
namespace W
open Go (IntKind BinOp UnOp)
set_option maxRecDepth 20000
theorem qqg : ∀ (l : List Nat) (i : Nat), 0 < i → idF i l = l.all cNm
  | [], _, _ => rfl
  | c :: l, i, h => by simp [idF, qqg l (i + 1) (by omega), h, cNm]
theorem qnK {P : Nat → Bool} : ∀ {l : List Nat}, l.all P = true → run P l = l.length
  | [], _ => rfl
  | c :: l, h => by
    simp only [List.all_cons, qEn] at h
    simp [run, h.1, qnK h.2]
theorem qox {P : Nat → Bool} : ∀ {l : List Nat}, run P l = l.length → l.all P = true
  | [], _ => rfl
  | c :: l, h => by
    have := qga P l
    simp only [run, qEx] at h
    cases hp : P c with
    | false => simp [hp] at h
    | true => rw [hp] at h; simp only [cond_true, Nat.add_right_cancel_iff] at h; simp [hp, qox h]
theorem qyG {c : Nat} (h : cLt c = true) : blk c = false ∧ c ≠ 40 := by
  simp only [cLt, Bool.or_eq_true, qEn, decide_eq_true_eq] at h
  refine ⟨?_, by omega⟩
  simp only [blk, Bool.or_eq_false_iff, decide_eq_false_iff_not]
  omega
theorem qxS {s : List Nat} (h : idB s = true) : qeJ s (s.length + 1) 0 [] = .inr [⟨1, 0, s.length, s, 0⟩, ⟨0, s.length, s.length, [], 0⟩] := by
  simp only [idB, qEn, Bool.not_eq_true', decide_eq_false_iff_not] at h
  obtain ⟨⟨⟨⟨h1, h2⟩, h3⟩, h4⟩, h5⟩ := h
  cases hs : s with
  | nil => exact absurd hs h1
  | cons c l =>
    rw [hs] at h5
    simp only [idF, qEn, Bool.or_eq_true, decide_eq_true_eq, Nat.lt_irrefl, false_and, or_false] at h5
    have hb := qyG h5.1
    have hsk : sk 0 0 0 (c :: l) = (true, 0) := by
      cases l with
      | nil => simp [sk, hb.1]
      | cons d l => simp [sk, hb.1, hb.2]
    have hall : (c :: l).all cNm = true := by
      rw [List.all_cons, ← qqg l 1 (by omega), h5.2]; simp [cNm, h5.1]
    have hrun := qnK hall
    have hn : qg3 s 0 = .ok 1 0 s.length s 0 := by
      unfold qg3
      rw [qEK, hs, hsk]
      have : ¬ (0 = (c :: l).length) := by simp
      simp only [this, if_false]
      unfold qnc
      simp only [qEK, h5.1, if_true]
      unfold qks
      rw [qEK, hrun]
      rw [hs] at h2 h3
      rw [if_neg h2, List.take_length, if_neg h3]
      simp [qs8]
    have hn2 : qg3 s s.length = .ok 0 s.length s.length [] 0 := by
      unfold qg3
      rw [List.drop_length]
      simp [sk]
    rw [← hs, qeJ, hn]
    simp only [List.nil_append]
    have hl : ∃ f, s.length = f + 1 := ⟨l.length, by rw [hs]; rfl⟩
    obtain ⟨f, hf⟩ := hl
    have h10 : ¬ ((1 : Int) = 0) := by omega
    simp only [h10, if_false]
    conv => lhs; arg 2; rw [hf]
    rw [qeJ, hn2]
    simp
theorem qmd {s : List Nat} : ∀ (f a : Nat) (acc L' : List Tk), qeJ s f a acc = .inr L' → ∃ T, L' = acc ++ T
  | 0, _, _, _, h => by cases h
  | f + 1, a, acc, L', h => by
    rw [qeJ] at h
    split at h
    · cases h
    · rename_i k p e t n hn
      split at h
      · cases h; exact ⟨_, rfl⟩
      · obtain ⟨T, hT⟩ := qmd f _ _ L' h
        exact ⟨⟨k, p, e, t, n⟩ :: T, by rw [hT]; simp⟩
theorem qxo {s : List Nat} {f : Nat} {x : Tk} {L : List Tk} (h : qeJ s (f + 1) 0 [] = .inr (x :: L)) (hk : x.k = 1) (ht : x.t = s) : s ≠ [] ∧ s.length ≤ 32 ∧ s ∉ KW ∧ idF 0 s = true := by
  rw [qeJ] at h
  split at h
  · cases h
  · rename_i k p e t n hn
    have hx : (⟨k, p, e, t, n⟩ : Tk) = x := by
      split at h
      · simp at h; exact h.1
      · obtain ⟨T, hT⟩ := qmd f _ _ _ h
        simp at hT; exact hT.1.symm
    subst hx
    simp only at hk ht
    subst hk
    unfold qg3 at hn
    split at hn
    · cases hn
    · rename_i j hj
      by_cases hjs : j = s.length
      · rw [if_pos hjs] at hn; cases hn
      · rw [if_neg hjs] at hn
        cases hr : qnc s j with
        | bad x => rw [hr] at hn; cases hn
        | ok k' t' n' e' =>
          rw [hr] at hn
          simp only [qs8, Nx.ok.injEq] at hn
          obtain ⟨rfl, rfl, rfl, rfl, rfl⟩ := hn
          unfold qnc at hr
          split at hr
          · cases hr
          · rename_i c l hd
            split at hr
            · rename_i hc
              unfold qks at hr
              split at hr
              · cases hr
              · rename_i h32
                split at hr
                · cases hr
                · rename_i hkw
                  simp only [Sy.ok.injEq] at hr
                  obtain ⟨-, h2, -, -⟩ := hr
                  have hle := qga cNm (s.drop j)
                  have hlen : s.length = run cNm (s.drop j) := by
                    have := congrArg List.length h2
                    rw [ht] at this
                    simp only [List.length_take] at this
                    omega
                  have hj0 : j = 0 := by
                    simp only [List.length_drop] at hle
                    have : (s.drop j).length = l.length + 1 := by rw [hd]; rfl
                    simp only [List.length_drop] at this
                    omega
                  subst hj0
                  rw [qEK] at hd h2 hlen h32 hkw
                  rw [ht] at h2
                  rw [h2] at hkw
                  have hall := qox hlen.symm
                  refine ⟨by rw [hd]; simp, by omega, hkw, ?_⟩
                  rw [hd] at hall ⊢
                  simp only [List.all_cons, qEn] at hall
                  simp [idF, hc, qqg l 1 (by omega), hall.2]
            · split at hr
              · unfold qrX at hr
                split at hr
                · unfold qj6 at hr
                  split at hr <;> cases hr
                · split at hr
                  · unfold qj6 at hr
                    split at hr <;> cases hr
                  · unfold qj6 at hr
                    split at hr <;> cases hr
              · split at hr
                · unfold ql8 at hr
                  split at hr
                  · split at hr <;> cases hr
                  · cases hr
                · unfold qlZ at hr
                  repeat (first | cases hr | split at hr)
end W

set_option linter.unusedSimpArgs false
set_option linter.unusedVariables false
namespace W
open Go (IntKind BinOp UnOp)
set_option maxRecDepth 20000
theorem qnl {s : List Nat} (hs : ∀ c ∈ s, c < 256) (hz : s.length ≤ 1000000000000) :
    ∃ lo, qn pg 14 [.d (.s s)] [] = some ⟨false, true, .d (.b (idB s)), [], lo⟩ := by
  obtain ⟨lo, hlo, ha⟩ := qv3 hs hz (H := [])
  obtain ⟨lo', hr⟩ := qlR (t := s)
  rw [qg (fn := jS) rfl rfl]
  by_cases h1 : 20000 < s.length
  · have hid : idB s = false := by
      have : decide (32 < s.length) = true := by simp; omega
      simp [idB, this]
    rw [if_pos h1] at ha
    have i0 : qhQ .lenL (.d (.sl [.agg [.i .i64 20000, .i .i64 34]])) ([] : List Obj) = some (.d (.i .i64 1)) := rfl
    rw [hid]
    simp only [jS, k_, o_, m_, c_, r_, n_, g_, q_, i_, l_, qs, qEu, qy, qEz, qA, qB, qo, qh, zt, qO, qP, kh, qf, qi, kZ, reduceCtorEq, qM, qL, qD, qC, qE, qEs, qEA, qk, qQ, qr, qEv, kj, ha, qF, ql, qq, ky, q9, zK, qcn, qcr, qt, Nat.reduceEqDiff, qcd, zR, i0, qm, kq, kL, qEy, jm, Int.reduceEq, decide_false, kv, kE, kK, qEl, ↓reduceIte, qU, jA, qX, qZ, qu, kC, jt, qx, qN, kp]
    exact ⟨_, yA rfl (Nat.zero_le _) (Nat.zero_le _)⟩
  · rw [if_neg h1] at ha
    have hg : idB s = true → qeJ s (s.length + 1) 0 [] = .inr [⟨1, 0, s.length, s, 0⟩, ⟨0, s.length, s.length, [], 0⟩] := qxS
    have hb : ∀ {x : Tk} {L : List Tk}, qeJ s (s.length + 1) 0 [] = .inr (x :: L) → x.k = 1 → x.t = s → s ∉ RES → idB s = true := by
      intro x L a b c d
      obtain ⟨q1, q2, q3, q4⟩ := qxo a b c
      simp only [idB, q1, q3, d, q4, decide_false, qEJ, Bool.true_and, Bool.and_true, Bool.not_eq_true', decide_eq_false_iff_not]
      omega
    generalize qeJ s (s.length + 1) 0 [] = r at ha hg hb
    cases r with
    | inl q =>
      obtain ⟨p, x⟩ := q
      have hid : idB s = false := by
        cases h : idB s with
        | false => rfl
        | true => cases hg h
      have i0 : qhQ .lenL (.d (.sl [.agg [.i .i64 (p : Nat), .i .i64 x]])) ([] : List Obj) = some (.d (.i .i64 1)) := rfl
      rw [hid]
      simp only at ha
      simp only [jS, k_, o_, m_, c_, r_, n_, g_, q_, i_, l_, qs, qEu, qy, qEz, qA, qB, qo, qh, zt, qO, qP, kh, qf, qi, kZ, reduceCtorEq, qM, qL, qD, qC, qE, qEs, qEA, qk, qQ, qr, qEv, kj, ha, qF, ql, qq, ky, q9, zK, qcn, qcr, qt, Nat.reduceEqDiff, qcd, zR, i0, qm, kq, kL, qEy, jm, Int.reduceEq, decide_false, kv, kE, kK, qEl, ↓reduceIte, qU, jA, qX, qZ, qu, kC, jt, qx, qN, kp]
      exact ⟨_, yA rfl (Nat.zero_le _) (Nat.zero_le _)⟩
    | inr L =>
      simp only at ha
      by_cases h2 : L.length = 2
      · obtain ⟨x, y, rfl⟩ : ∃ x y, L = [x, y] := by
          match L, h2 with
          | [x, y], _ => exact ⟨x, y, rfl⟩
        have hlen : qhQ .lenL (.d (slD eTk [x, y])) ([] : List Obj) = some (.d (.i .i64 2)) := rfl
        have hia : iaV (.d (slD eTk [x, y])) (.d (.i .i64 0)) 5 none = some (.cp (.agg [.i .i64 x.k, .i .i64 x.p, .i .i64 x.e, .s x.t, .i .i32 x.n])) := rfl
        by_cases e1 : x.k = 1
        · by_cases e2 : x.t = s
          · by_cases e3 : s ∈ RES
            · have hid : idB s = false := by simp [idB, e3]
              have e3' : decide (s ∈ RES) = true := by simp [e3]
              rw [hid]
              rw [e3'] at hr
              simp only [jS, k_, o_, m_, c_, r_, n_, g_, q_, i_, l_, qs, qEu, qy, qEz, qA, qB, qo, qh, zt, qO, qP, kh, qf, qi, kZ, reduceCtorEq, qM, qL, qD, qC, qE, qEs, qEA, qk, qQ, qr, qEv, kj, ha, qF, ql, qq, ky, q9, zK, qcn, qcr, qt, Nat.reduceEqDiff, qcd, zR, qeD, qm, kq, kL, qEy, jm, decide_true, kv, kE, kK, ↓reduceIte, hlen, qU, kU, ko, hia, e1, e2, qaY, qp, jL, qhy, qEm, qoF, qH, qaU, qEq, qn1, jQ, qED, yr, hr, jW, qa6, qEG, qEp, qX, qZ, qu, kC, jt, qx, qN, kp]
              exact ⟨_, yA rfl (Nat.zero_le _) (Nat.zero_le _)⟩
            · have hid : idB s = true := hb rfl e1 e2 e3
              have e3' : decide (s ∈ RES) = false := by simp [e3]
              rw [hid]
              rw [e3'] at hr
              simp only [jS, k_, o_, m_, c_, r_, n_, g_, q_, i_, l_, qs, qEu, qy, qEz, qA, qB, qo, qh, zt, qO, qP, kh, qf, qi, kZ, reduceCtorEq, qM, qL, qD, qC, qE, qEs, qEA, qk, qQ, qr, qEv, kj, ha, qF, ql, qq, ky, q9, zK, qcn, qcr, qt, Nat.reduceEqDiff, qcd, zR, qeD, qm, kq, kL, qEy, jm, decide_true, kv, kE, kK, ↓reduceIte, hlen, qU, kU, ko, hia, e1, e2, qaY, qp, jL, qhy, qEm, qoF, qH, qaU, qEq, qn1, jQ, qED, yr, hr, jW, qa6, qEJ, qEp, qX, qZ, qu, kC, jt, qx, qN, kp]
              exact ⟨_, yA rfl (Nat.zero_le _) (Nat.zero_le _)⟩
          · have hid : idB s = false := by
              cases h : idB s with
              | false => rfl
              | true =>
                have := hg h
                simp only [Sum.inr.injEq, List.cons.injEq] at this
                exact absurd (by rw [this.1]) e2
            have e2' : (x.t = s) = False := eq_false e2
            rw [hid]
            simp only [jS, k_, o_, m_, c_, r_, n_, g_, q_, i_, l_, qs, qEu, qy, qEz, qA, qB, qo, qh, zt, qO, qP, kh, qf, qi, kZ, reduceCtorEq, qM, qL, qD, qC, qE, qEs, qEA, qk, qQ, qr, qEv, kj, ha, qF, ql, qq, ky, q9, zK, qcn, qcr, qt, Nat.reduceEqDiff, qcd, zR, qeD, qm, kq, kL, qEy, jm, decide_true, kv, kE, kK, ↓reduceIte, hlen, qU, kU, ko, hia, e1, qaY, qp, jL, qhy, qEm, qoF, qH, qaU, qEq, qn1, jQ, qED, yr, e2', decide_false, qEl, jA, qX, qZ, qu, kC, jt, qx, qN, kp]
            exact ⟨_, yA rfl (Nat.zero_le _) (Nat.zero_le _)⟩
        · have hid : idB s = false := by
            cases h : idB s with
            | false => rfl
            | true =>
              have := hg h
              simp only [Sum.inr.injEq, List.cons.injEq] at this
              exact absurd (by rw [this.1]) e1
          have e1' : (x.k = 1) = False := eq_false e1
          rw [hid]
          simp only [jS, k_, o_, m_, c_, r_, n_, g_, q_, i_, l_, qs, qEu, qy, qEz, qA, qB, qo, qh, zt, qO, qP, kh, qf, qi, kZ, reduceCtorEq, qM, qL, qD, qC, qE, qEs, qEA, qk, qQ, qr, qEv, kj, ha, qF, ql, qq, ky, q9, zK, qcn, qcr, qt, Nat.reduceEqDiff, qcd, zR, qeD, qm, kq, kL, qEy, jm, decide_true, kv, kE, kK, ↓reduceIte, hlen, qU, kU, ko, hia, qaY, qp, jL, qhy, qEm, qoF, qH, qaU, e1', decide_false, qEl, jA, qX, qZ, qu, kC, jt, qx, qN, kp]
          exact ⟨_, yA rfl (Nat.zero_le _) (Nat.zero_le _)⟩
      · have hid : idB s = false := by
          cases h : idB s with
          | false => rfl
          | true =>
            have := hg h
            simp only [Sum.inr.injEq] at this
            rw [this] at h2
            exact absurd rfl h2
        have h2' : ((L.length : Int) = 2) = False := by rw [eq_iff_iff]; simp only [iff_false]; omega
        have hlen : qhQ .lenL (.d (slD eTk L)) ([] : List Obj) = some (.d (.i .i64 (L.length : Nat))) := qdx
        rw [hid]
        simp only [jS, k_, o_, m_, c_, r_, n_, g_, q_, i_, l_, qs, qEu, qy, qEz, qA, qB, qo, qh, zt, qO, qP, kh, qf, qi, kZ, reduceCtorEq, qM, qL, qD, qC, qE, qEs, qEA, qk, qQ, qr, qEv, kj, ha, qF, ql, qq, ky, q9, zK, qcn, qcr, qt, Nat.reduceEqDiff, qcd, zR, qeD, qm, kq, kL, qEy, jm, decide_true, kv, kE, kK, ↓reduceIte, hlen, h2', decide_false, qU, kU, qEl, jA, qX, qZ, qu, kC, jt, qx, qN, kp]
        exact ⟨_, yA rfl (Nat.zero_le _) (Nat.zero_le _)⟩
end W

set_option linter.unusedSimpArgs false
set_option linter.unusedVariables false
namespace W
open Go (IntKind BinOp UnOp)
set_option maxRecDepth 20000
def small : List Nat → Bool
  | [] => true
  | c :: l => bif Nat.ble c 255 then small l else false
theorem qjt {t : List Nat} : small t = true ↔ ∀ c ∈ t, c < 256 := by
  induction t with
  | nil => simp [small]
  | cons c l ih =>
    simp only [small, qEt, List.mem_cons, forall_eq_or_imp]
    by_cases h : c ≤ 255
    · rw [if_pos (Nat.ble_eq_true_of_le h), ih]; constructor
      · exact fun q => ⟨by omega, q⟩
      · exact fun q => q.2
    · rw [if_neg (fun q => h (Nat.le_of_ble_eq_true q))]; constructor
      · intro q; cases q
      · exact fun q => absurd q.1 (by omega)
def idX (vs : List V) (H : List Obj) : Option Cr :=
  match vs with
  | [.d (.s t)] => bif small t && Nat.ble t.length 1000000000000 then some ⟨false, true, .d (.b (idB t)), H, H.length⟩ else none
  | _ => none
theorem qzS {vs : List V} {H : List Obj} {r : Cr} (h : idX vs H = some r) : H.length ≤ r.H.length ∧ (∀ id, id < r.lo → id < H.length → r.H[id]? = H[id]?) ∧ (r.same = true → r.H = H) := by
  unfold idX at h
  split at h
  · rw [qEt] at h
    split at h
    · exact qiG h
    · cases h
  · cases h
def pgK : Pg := ⟨fun n => bif qEr n 14 || qEr n 15 || qEr n 302 then none else pg.fn n, fun i vs H => bif qEr i 14 || qEr i 15 then idX vs H else bif qEr i 302 then ixX vs H else pg.ext i vs H⟩
theorem qqW : qae pgK.ext := by
  intro i vs H r h
  simp only [pgK, qEt] at h
  split at h
  · exact qzS h
  · split at h
    · exact qpR h
    · exact qnk _ _ _ _ h
theorem qtj : isD (qfD pgK 4000 8 [] []) (.b true) = true := by decide +kernel
theorem qpP : ∃ lo, qn pgK 8 [] [] = some ⟨false, true, .d (.b true), [], lo⟩ := qlH qqW qtj
theorem qvF {s : List Nat} (hs : ∀ c ∈ s, c < 256) (hz : s.length ≤ 1000000000000) {H : List Obj} : idX [.d (.s s)] H = some ⟨false, true, .d (.b (idB s)), H, H.length⟩ := by
  have h1 : small s = true := qjt.2 hs
  have h2 : Nat.ble s.length 1000000000000 = true := Nat.ble_eq_true_of_le hz
  simp only [idX, h1, h2]; rfl
theorem qEi {s : List Nat} (hs : ∀ c ∈ s, c < 256) (hz : s.length ≤ 1000000000000) {H : List Obj} : qn pgK 14 [.d (.s s)] H = some ⟨false, true, .d (.b (idB s)), H, H.length⟩ := by
  rw [qdv]; unfold zC
  rw [show pgK.fn 14 = none from rfl]
  exact qvF hs hz
theorem qDa {s : List Nat} (hs : ∀ c ∈ s, c < 256) (hz : s.length ≤ 1000000000000) {H : List Obj} : qn pgK 15 [.d (.s s)] H = some ⟨false, true, .d (.b (idB s)), H, H.length⟩ := by
  rw [qdv]; unfold zC
  rw [show pgK.fn 15 = none from rfl]
  exact qvF hs hz
end W

/- A call of no arguments whose result is data is the same beside whatever objects there are. -/
set_option linter.unusedSimpArgs false
set_option linter.unusedVariables false
namespace W
open Go (World Value Addr IntKind Program TypeId FuncId)
theorem qrG {P : Program} {M : Maps} {call : Call} (hsim : y3 P M call) {i : Nat} {x : D} {H1 : List Obj} {lo : Nat} {same : Bool} (h : call i [] [] = some ⟨false, same, .d x, H1, lo⟩)
    {f' : FuncId} (hl : look M.fm f' = some i) {g : Gh} {w : World} {H : List Obj} (hH : RelH M g w H) : qk0 P f' #[] w (zW M g w ⟨false, true, .d x, H, H.length⟩) := by
  have hH0 : RelH M { n := 0, φ := fun _ => 0, own := fun _ => none, pub := g.pub } w [] := ⟨rfl, fun id o h => by simp at h, fun b hb => ⟨rfl, (hH.fresh b hb).2⟩, hH.gl⟩
  have hd := hsim i [] [] _ h f' hl _ w [] (.nil _) hH0
  intro o a K Q hK hQ
  refine hd o a K Q ?_ ?_
  · rintro v w' ⟨_, g1, hR1, hE, hA⟩
    refine hK v w' ?_
    have hb : ∀ b, b < w.heap.size → w'.heap[b]? = w.heap[b]? ∧ g1.pub b = g.pub b := fun b hb => (hE.keep b hb (.inl rfl)).2
    have hg : Grow g w { n := g.n, φ := g.φ, own := fun b => if b < w.heap.size then g.own b else none, pub := g1.pub } w' := ⟨hE.size, hE.pub, hE.cell⟩
    have hlt : ∀ b ℓ, g.own b = some ℓ → b < w.heap.size := fun b ℓ ho => by
      rcases Nat.lt_or_ge b w.heap.size with h1 | h1
      · exact h1
      · rw [(hH.fresh b h1).1] at ho; cases ho
    have hk : ∀ ℓ, Kept g w { n := g.n, φ := g.φ, own := fun b => if b < w.heap.size then g.own b else none, pub := g1.pub } w' ℓ := fun ℓ => ⟨fun b ho => by
      have := hlt b ℓ ho
      exact ⟨by simp only [this, if_true]; exact ho, (hb b this).1, (hb b this).2⟩⟩
    refine ⟨rfl, { n := g.n, φ := g.φ, own := fun b => if b < w.heap.size then g.own b else none, pub := g1.pub }, ⟨hH.n, fun id o ho => (hH.h id o ho).mono hg (qEo _) (fun _ _ => rfl) (by rw [hH.n]; exact (List.getElem?_eq_some_iff.1 ho).1) (hk _) (fun i => hk _), fun b hb' => ⟨?_, (hR1.fresh b hb').2⟩, hH.gl.mono hg⟩, ⟨hg, qEo _, fun _ _ => rfl, fun b hb' ho => ⟨by simp only [hb', if_true], (hb b hb').1, (hb b hb').2⟩, hE.io⟩, ?_⟩
    · have : ¬ b < w.heap.size := by have := hE.size; omega
      simp only [this, if_false]
    · cases hA with
      | s hA => cases hA with
        | d _ _ hr => exact .s (.d _ _ hr)
  · rintro ch w' ⟨hp, _⟩
    cases hp
theorem qkK {P : Program} {M : Maps} {call : Call} (hsim : y3 P M call) {i : Nat} {l : List D} {x : D} {H1 : List Obj} {lo : Nat} {same : Bool} (h : call i (l.map .d) [] = some ⟨false, same, .d x, H1, lo⟩)
    {f' : FuncId} (hl : look M.fm f' = some i) {g : Gh} {w : World} {H : List Obj} (hH : RelH M g w H) {argv : List Value} (ha : ArgsRep M g w 0 (l.map .d) argv) : qk0 P f' argv.toArray w (zW M g w ⟨false, true, .d x, H, H.length⟩) := by
  have hH0 : RelH M { n := 0, φ := fun _ => 0, own := fun _ => none, pub := g.pub } w [] := ⟨rfl, fun id o h => by simp at h, fun b hb => ⟨rfl, (hH.fresh b hb).2⟩, hH.gl⟩
  have ha0 : ArgsRep M { n := 0, φ := fun _ => 0, own := fun _ => none, pub := g.pub } w 0 (l.map .d) argv := by
    clear h
    have hk' : ∀ k, ArgsRep M g w k (l.map .d) argv → ArgsRep M { n := 0, φ := fun _ => 0, own := fun _ => none, pub := g.pub } w k (l.map .d) argv := by
      clear ha
      induction l generalizing argv with
      | nil => intro k ha; cases ha; exact .nil _
      | cons y l ih =>
        intro k ha
        rw [qEs] at ha ⊢
        cases ha with
        | cons h0 ha =>
          refine .cons ?_ (ih _ ha)
          cases h0 with
          | s h0 => cases h0 with
            | d _ _ hr => exact .s (.d _ _ hr)
    exact hk' 0 ha
  have hd := hsim i (l.map .d) [] _ h f' hl _ w argv ha0 hH0
  intro o a K Q hK hQ
  refine hd o a K Q ?_ ?_
  · rintro v w' ⟨_, g1, hR1, hE, hA⟩
    refine hK v w' ?_
    have hb : ∀ b, b < w.heap.size → w'.heap[b]? = w.heap[b]? ∧ g1.pub b = g.pub b := fun b hb => (hE.keep b hb (.inl rfl)).2
    have hg : Grow g w { n := g.n, φ := g.φ, own := fun b => if b < w.heap.size then g.own b else none, pub := g1.pub } w' := ⟨hE.size, hE.pub, hE.cell⟩
    have hlt : ∀ b ℓ, g.own b = some ℓ → b < w.heap.size := fun b ℓ ho => by
      rcases Nat.lt_or_ge b w.heap.size with h1 | h1
      · exact h1
      · rw [(hH.fresh b h1).1] at ho; cases ho
    have hk : ∀ ℓ, Kept g w { n := g.n, φ := g.φ, own := fun b => if b < w.heap.size then g.own b else none, pub := g1.pub } w' ℓ := fun ℓ => ⟨fun b ho => by
      have := hlt b ℓ ho
      exact ⟨by simp only [this, if_true]; exact ho, (hb b this).1, (hb b this).2⟩⟩
    refine ⟨rfl, { n := g.n, φ := g.φ, own := fun b => if b < w.heap.size then g.own b else none, pub := g1.pub }, ⟨hH.n, fun id o ho => (hH.h id o ho).mono hg (qEo _) (fun _ _ => rfl) (by rw [hH.n]; exact (List.getElem?_eq_some_iff.1 ho).1) (hk _) (fun i => hk _), fun b hb' => ⟨?_, (hR1.fresh b hb').2⟩, hH.gl.mono hg⟩, ⟨hg, qEo _, fun _ _ => rfl, fun b hb' ho => ⟨by simp only [hb', if_true], (hb b hb').1, (hb b hb').2⟩, hE.io⟩, ?_⟩
    · have : ¬ b < w.heap.size := by have := hE.size; omega
      simp only [this, if_false]
    · cases hA with
      | s hA => cases hA with
        | d _ _ hr => exact .s (.d _ _ hr)
  · rintro ch w' ⟨hp, _⟩
    cases hp
end W

/- What stands in for strings.IndexByte, strconv.toError and scan.Keywords does what these do. -/
set_option linter.unusedSimpArgs false
set_option linter.unusedVariables false
namespace W
open Go (World Value Addr IntKind Program TypeId FuncId Func Calls Code)
def IxC (P : Program) (K : FuncId) : Prop :=
  ∀ (s : ByteArray) (c : Int) (w : World), Calls P K #[.string s, .int .u8 c] w fun e w' => e = .returned (.int .i64 (Go.Lib.indexByte s.data.toList c.toNat.toUInt8)) ∧ w' = w
def TeC (P : Program) (K : FuncId) (gl : Nat) (code : Int) : Prop :=
  ∀ (fn s : ByteArray) (base bits : Int) (ev : Value) (w : World), s.size ≤ 281474976710656 → w.cell? ⟨gl, 0, none⟩ = some ev → (ev = .nilIface ∨ ∃ te pe, ev = .iface te pe) →
    Calls P K #[.string fn, .string s, .int .i64 base, .int .i64 bits, .iface 323 (.int .i64 code)] w fun e w' => ∃ N, e = .returned (.iface 325 (.pointer (some ⟨N, 0, none⟩))) ∧ Go.RowKit.Below w.heap.size w w'
theorem qtB (c : Nat) : ∀ l : List UInt8, ixN (c % 256) (l.map (·.toNat)) = Go.Lib.indexByte l c.toUInt8
  | [] => rfl
  | b :: l => by
    have ih := qtB c l
    have hge := Go.Lib.indexByte_ge l c.toUInt8
    have hb : qEr b.toNat (c % 256) = (b == c.toUInt8) := by
      have hc : c.toUInt8.toNat = c % 256 := by simp [Nat.toUInt8]
      rw [← hc]
      by_cases h : b = c.toUInt8
      · subst h; simp
      · have h2 : ¬ b.toNat = c.toUInt8.toNat := fun e => h (UInt8.toNat_inj.1 e)
        have h3 : qEr b.toNat c.toUInt8.toNat = false := by rw [Bool.eq_false_iff]; intro e; exact h2 (qEE e)
        rw [h3]; symm; simpa using h
    simp only [qEs, ixN, Go.Lib.indexByte, hb]
    cases b == c.toUInt8 with
    | true => rfl
    | false =>
      simp only [cond_false, qEl, if_false]
      rw [ih]
      generalize Go.Lib.indexByte l c.toUInt8 = v at hge ⊢
      cases v with
      | ofNat n => simp
      | negSucc m =>
        have : m = 0 := by omega
        subst this
        rfl
theorem qqQ {P : Program} {M : Maps} {K : FuncId} (hI : IxC P K) {fn : Func} {c : Code} (hf : P.funcs[K]? = some fn) (hname : (fn.name == "runtime.NumGoroutine") = false) (hbody : fn.body = some c)
    {g : Gh} {w : World} {vs : List V} {H : List Obj} {r : Cr} (h : ixX vs H = some r) {argv : List Value} (ha : ArgsRep M g w 0 vs argv) (hH : RelH M g w H) : qk0 P K argv.toArray w (zW M g w r) := by
  refine qfH ⟨?_, ?_⟩
  · unfold ixX at h
    split at h
    · simp only [Option.some.injEq] at h
      subst h
      cases ha with
      | cons h0 ha => cases ha with
        | cons h1 ha => cases ha; cases h0 with
          | s h0 => cases h0 with
            | d _ _ h0 => cases h0 with
              | s _ x hx => cases h1 with
                | s h1 => cases h1 with
                  | d _ _ h1 => cases h1 with
                    | i k n =>
                      refine (hI x _ w).mono ?_
                      rintro e w' ⟨rfl, rfl⟩
                      refine ⟨rfl, g, hH, Evo.refl g w', .s (.d _ _ ?_)⟩
                      rw [← hx, qtB]
                      exact .i _ _
    · cases h
  · have hn : ¬ fn.name = "runtime.NumGoroutine" := by simpa using hname
    simp [Go.callFunc, hf, hn, hbody]
theorem qwM {P : Program} {M : Maps} {K : FuncId} {gS gR : Nat} (hS : TeC P K gS 2) (hR : TeC P K gR 1) (mS : gS ∈ M.gi) (mR : gR ∈ M.gi) (m2 : look M.tm 325 = some 325) (m0 : ∀ t', look M.tm t' = some 323 → t' = 323)
    {fn : Func} {c : Code} (hf : P.funcs[K]? = some fn) (hname : (fn.name == "runtime.NumGoroutine") = false) (hbody : fn.body = some c)
    {g : Gh} {w : World} {vs : List V} {H : List Obj} {r : Cr} (h : teX vs H = some r) {argv : List Value} (ha : ArgsRep M g w 0 vs argv) (hH : RelH M g w H) : qk0 P K argv.toArray w (zW M g w r) := by
  refine qfH ⟨?_, ?_⟩
  · unfold teX at h
    split at h
    · rename_i f t k1 k2 e
      rw [qEt] at h
      split at h
      · rename_i hb
        simp only [Option.some.injEq] at h
        subst h
        simp only [qEn, Bool.or_eq_true, Nat.ble_eq] at hb
        have hcode : e = 1 ∨ e = 2 := by
          rcases hb.1 with h | h
          · left; rw [qkl] at h; exact of_decide_eq_true h
          · right; rw [qkl] at h; exact of_decide_eq_true h
        obtain ⟨⟨evS, hvS, hevS⟩, _⟩ := hH.gl.2 gS mS
        obtain ⟨⟨evR, hvR, hevR⟩, _⟩ := hH.gl.2 gR mR
        cases ha with
        | cons h0 ha => cases ha with
          | cons h1 ha => cases ha with
            | cons h2 ha => cases ha with
              | cons h3 ha => cases ha with
                | cons h4 ha => cases ha; cases h0 with
                  | s h0 => cases h0 with
                    | d _ _ h0 => cases h0 with
                      | s _ x hx => cases h1 with
                        | s h1 => cases h1 with
                          | d _ _ h1 => cases h1 with
                            | s _ y hy => cases h2 with
                              | s h2 => cases h2 with
                                | d _ _ h2 => cases h2 with
                                  | i _ _ => cases h3 with
                                    | s h3 => cases h3 with
                                      | d _ _ h3 => cases h3 with
                                        | i _ _ => cases h4 with
                                          | s h4 => cases h4 with
                                            | ifc _ t' _ cv ht hcv => cases hcv with
                                              | d _ _ hcv => cases hcv with
                                                | i _ _ =>
                                                  have e1 := m0 t' ht
                                                  subst e1
                                                  have hsz : y.size ≤ 281474976710656 := by
                                                    have := congrArg List.length hy
                                                    rw [List.length_map] at this
                                                    have h2 : y.data.toList.length = y.size := Array.length_toList
                                                    omega
                                                  have post : ∀ e w', (∃ N, e = .returned (.iface 325 (.pointer (some ⟨N, 0, none⟩))) ∧ Go.RowKit.Below w.heap.size w w') → zW M g w ⟨false, true, .ifc 325 .undef, H, H.length⟩ e w' := by
                                                    rintro e w' ⟨N, rfl, hB⟩
                                                    obtain ⟨q1, q2⟩ := qsw hH hB
                                                    exact ⟨rfl, g, q1, q2, .s (.ifc _ 325 _ _ m2 (.undef _))⟩
                                                  rcases hcode with rfl | rfl
                                                  · exact (hR x y _ _ evR w hsz hvR hevR).mono post
                                                  · exact (hS x y _ _ evS w hsz hvS hevS).mono post
      · cases h
    · cases h
  · have hn : ¬ fn.name = "runtime.NumGoroutine" := by simpa using hname
    simp [Go.callFunc, hf, hn, hbody]
end W

/- The contracts of strings.IndexByte and strconv.toError at this program, laid by the shelf's program. -/
namespace Go.Proofs
open Go.Shelf
def Tryz.lays137_ren : Go.Shelf.Ren := ⟨fun | 137 => 257 | 217 => 302 | 266 => 323 | n => n, fun | 9 => 9 | 5 => 5 | 3 => 3 | n => n, fun | n => n⟩
theorem Tryz.lays137 : Go.Proofs.Lays.n137 Tryz.prog Tryz.lays137_ren := {
  mixed := by kernel_rfl
  f137 := Tryz.func257.trans (congrArg some (by kernel_rfl))
  f217 := Tryz.func302.trans (congrArg some (by kernel_rfl))
  f266 := Tryz.func323.trans (congrArg some (by kernel_rfl))
  t3 := Tryz.underlying3
  a3 := Tryz.isAgg3
  z3 := Tryz.sizeOf3
  v3 := Tryz.zeroValue3
  t5 := Tryz.underlying5
  a5 := Tryz.isAgg5
  z5 := Tryz.sizeOf5
  v5 := Tryz.zeroValue5
  t9 := Tryz.underlying9
  a9 := Tryz.isAgg9
  z9 := Tryz.sizeOf9
  v9 := Tryz.zeroValue9 }
open Go.RowKit in
theorem Tryz.strings_IndexByte (s : ByteArray) (c : Int) (w : World) :
    Calls Tryz.prog 257 #[.string s, .int .u8 c] w fun e w' => e = .returned (.int .i64 (Lib.indexByte s.data.toList c.toNat.toUInt8)) ∧ w' = w := Any.strings_IndexByte Tryz.lays137 s c w
def Tryz.lays217_ren : Go.Shelf.Ren := ⟨fun | 217 => 302 | 266 => 323 | n => n, fun | 9 => 9 | 5 => 5 | 3 => 3 | n => n, fun | n => n⟩
theorem Tryz.lays217 : Go.Proofs.Lays.n217 Tryz.prog Tryz.lays217_ren := {
  mixed := by kernel_rfl
  f217 := Tryz.func302.trans (congrArg some (by kernel_rfl))
  f266 := Tryz.func323.trans (congrArg some (by kernel_rfl))
  t3 := Tryz.underlying3
  a3 := Tryz.isAgg3
  z3 := Tryz.sizeOf3
  v3 := Tryz.zeroValue3
  t5 := Tryz.underlying5
  a5 := Tryz.isAgg5
  z5 := Tryz.sizeOf5
  v5 := Tryz.zeroValue5
  t9 := Tryz.underlying9
  a9 := Tryz.isAgg9
  z9 := Tryz.sizeOf9
  v9 := Tryz.zeroValue9 }
open Go.RowKit Go.Lib in
theorem Tryz.stringslite_IndexByte (s : ByteArray) (c : Int) (w : World) :
    Calls Tryz.prog 302 #[.string s, .int .u8 c] w fun e w' => e = .returned (.int .i64 (Lib.indexByte s.data.toList c.toNat.toUInt8)) ∧ w' = w := Any.stringslite_IndexByte Tryz.lays217 s c w
def Tryz.laysPu17_ren : Go.Shelf.Ren := ⟨fun | 17 => 304 | 21 => 326 | 22 => 327 | 23 => 328 | 24 => 329 | 25 => 342 | 27 => 344 | 26 => 343 | 28 => 353 | 29 => 363 | 30 => 364 | 31 => 365 | 32 => 366 | 33 => 367 | 35 => 369 | 34 => 368 | 36 => 370 | 37 => 371 | 38 => 372 | 39 => 373 | 40 => 374 | n => n, fun | 9 => 9 | 3 => 3 | 24 => 278 | 34 => 323 | 4 => 4 | 39 => 325 | 44 => 334 | 37 => 43 | 0 => 0 | 47 => 342 | 50 => 345 | 48 => 343 | 2 => 2 | 52 => 352 | 22 => 276 | 5 => 5 | 55 => 355 | 59 => 358 | 60 => 281 | 20 => 20 | 61 => 359 | 36 => 153 | 65 => 362 | 66 => 363 | 67 => 182 | n => n, fun | 0 => 3 | 1 => 4 | 2 => 5 | 3 => 6 | 4 => 7 | n => n⟩
theorem Tryz.laysPu17 : Go.Proofs.LaysPu.n17 Tryz.prog Tryz.laysPu17_ren := {
  mixed := by kernel_rfl
  f17 := Tryz.func304.trans (congrArg some (by kernel_rfl))
  f21 := Tryz.func326.trans (congrArg some (by kernel_rfl))
  f22 := Tryz.func327.trans (congrArg some (by kernel_rfl))
  f23 := Tryz.func328.trans (congrArg some (by kernel_rfl))
  f24 := Tryz.func329.trans (congrArg some (by kernel_rfl))
  f25 := Tryz.func342.trans (congrArg some (by kernel_rfl))
  f26 := Tryz.func343.trans (congrArg some (by kernel_rfl))
  f27 := Tryz.func344.trans (congrArg some (by kernel_rfl))
  f28 := Tryz.func353.trans (congrArg some (by kernel_rfl))
  f29 := Tryz.func363.trans (congrArg some (by kernel_rfl))
  f30 := Tryz.func364.trans (congrArg some (by kernel_rfl))
  f31 := Tryz.func365.trans (congrArg some (by kernel_rfl))
  f32 := Tryz.func366.trans (congrArg some (by kernel_rfl))
  f33 := Tryz.func367.trans (congrArg some (by kernel_rfl))
  f34 := Tryz.func368.trans (congrArg some (by kernel_rfl))
  f35 := Tryz.func369.trans (congrArg some (by kernel_rfl))
  f36 := Tryz.func370.trans (congrArg some (by kernel_rfl))
  f37 := Tryz.func371.trans (congrArg some (by kernel_rfl))
  f38 := Tryz.func372.trans (congrArg some (by kernel_rfl))
  f39 := Tryz.func373.trans (congrArg some (by kernel_rfl))
  f40 := Tryz.func374.trans (congrArg some (by kernel_rfl))
  t0 := Tryz.underlying0
  a0 := Tryz.isAgg0
  z0 := Tryz.sizeOf0
  v0 := Tryz.zeroValue0
  i0 := by kernel_rfl
  t2 := Tryz.underlying2
  a2 := Tryz.isAgg2
  z2 := Tryz.sizeOf2
  v2 := Tryz.zeroValue2
  i2 := by kernel_rfl
  t3 := Tryz.underlying3
  a3 := Tryz.isAgg3
  z3 := Tryz.sizeOf3
  v3 := Tryz.zeroValue3
  i3 := by kernel_rfl
  t4 := Tryz.underlying4
  a4 := Tryz.isAgg4
  z4 := Tryz.sizeOf4
  v4 := Tryz.zeroValue4
  i4 := by kernel_rfl
  t5 := Tryz.underlying5
  a5 := Tryz.isAgg5
  z5 := Tryz.sizeOf5
  v5 := Tryz.zeroValue5
  i5 := by kernel_rfl
  t9 := Tryz.underlying9
  a9 := Tryz.isAgg9
  z9 := Tryz.sizeOf9
  v9 := Tryz.zeroValue9
  i9 := by kernel_rfl
  t20 := Tryz.underlying20
  a20 := Tryz.isAgg20
  z20 := Tryz.sizeOf20
  v20 := Tryz.zeroValue20
  i20 := by kernel_rfl
  t22 := Tryz.underlying276
  a22 := Tryz.isAgg276
  z22 := Tryz.sizeOf276
  v22 := Tryz.zeroValue276
  i22 := by kernel_rfl
  t24 := Tryz.underlying278
  a24 := Tryz.isAgg278
  z24 := Tryz.sizeOf278
  v24 := Tryz.zeroValue278
  i24 := by kernel_rfl
  t34 := Tryz.underlying323
  a34 := Tryz.isAgg323
  z34 := Tryz.sizeOf323
  v34 := Tryz.zeroValue323
  i34 := by kernel_rfl
  c34 := by kernel_rfl
  t36 := Tryz.underlying153
  a36 := Tryz.isAgg153
  z36 := Tryz.sizeOf153
  v36 := Tryz.zeroValue153
  i36 := by kernel_rfl
  t37 := Tryz.underlying43
  a37 := Tryz.isAgg43
  z37 := Tryz.sizeOf43
  v37 := Tryz.zeroValue43
  i37 := by kernel_rfl
  t39 := Tryz.underlying325
  a39 := Tryz.isAgg325
  z39 := Tryz.sizeOf325
  v39 := Tryz.zeroValue325
  i39 := by kernel_rfl
  t44 := Tryz.underlying334
  a44 := Tryz.isAgg334
  z44 := Tryz.sizeOf334
  v44 := Tryz.zeroValue334
  i44 := by kernel_rfl
  t47 := Tryz.underlying342
  a47 := Tryz.isAgg342
  z47 := Tryz.sizeOf342
  v47 := Tryz.zeroValue342
  i47 := by kernel_rfl
  t48 := Tryz.underlying343
  a48 := Tryz.isAgg343
  z48 := Tryz.sizeOf343
  v48 := Tryz.zeroValue343
  i48 := by kernel_rfl
  t50 := Tryz.underlying345
  a50 := Tryz.isAgg345
  z50 := Tryz.sizeOf345
  v50 := Tryz.zeroValue345
  i50 := by kernel_rfl
  t52 := Tryz.underlying352
  a52 := Tryz.isAgg352
  z52 := Tryz.sizeOf352
  v52 := Tryz.zeroValue352
  i52 := by kernel_rfl
  t55 := Tryz.underlying355
  a55 := Tryz.isAgg355
  z55 := Tryz.sizeOf355
  v55 := Tryz.zeroValue355
  i55 := by kernel_rfl
  t59 := Tryz.underlying358
  a59 := Tryz.isAgg358
  z59 := Tryz.sizeOf358
  v59 := Tryz.zeroValue358
  i59 := by kernel_rfl
  t60 := Tryz.underlying281
  a60 := Tryz.isAgg281
  z60 := Tryz.sizeOf281
  v60 := Tryz.zeroValue281
  i60 := by kernel_rfl
  t61 := Tryz.underlying359
  a61 := Tryz.isAgg359
  z61 := Tryz.sizeOf359
  t65 := Tryz.underlying362
  a65 := Tryz.isAgg362
  z65 := Tryz.sizeOf362
  v65 := Tryz.zeroValue362
  i65 := by kernel_rfl
  t66 := Tryz.underlying363
  a66 := Tryz.isAgg363
  z66 := Tryz.sizeOf363
  v66 := Tryz.zeroValue363
  i66 := by kernel_rfl
  t67 := Tryz.underlying182
  a67 := Tryz.isAgg182
  z67 := Tryz.sizeOf182
  v67 := Tryz.zeroValue182
  i67 := by kernel_rfl
  g0 := by kernel_rfl
  m0 := by kernel_rfl
  g1 := by kernel_rfl
  m1 := by kernel_rfl
  g2 := by kernel_rfl
  m2 := by kernel_rfl
  g3 := by kernel_rfl
  m3 := by kernel_rfl
  g4 := by kernel_rfl
  m4 := by kernel_rfl }
open Go.RowKit in
theorem Tryz.toError_syntax (fn s : ByteArray) (base bits : Int) (ev : Value) (w : World) (hlim : s.size ≤ 281474976710656) (hv : w.cell? ⟨(Tryz.laysPu17_ren.g 0), 0, none⟩ = some ev) (hev : ev = .nilIface ∨ ∃ te pe, ev = .iface te pe) :
    Calls Tryz.prog 304 #[.string fn, .string s, .int .i64 base, .int .i64 bits, .iface 323 (.int .i64 2)] w fun e w' => ∃ N, e = .returned (.iface 325 (.pointer (some ⟨N, 0, none⟩))) ∧ w.heap.size ≤ N ∧ w'.heap[N]? = some (.cells #[.string fn, .string s, ev] (Tryz.laysPu17_ren.t 44) (0, 0)) ∧ Below w.heap.size w w' := AnyPu.strconv_toError_syntax Tryz.laysPu17 fn s base bits ev w hlim hv hev
open Go.RowKit in
theorem Tryz.toError_range (fn s : ByteArray) (base bits : Int) (ev : Value) (w : World) (hlim : s.size ≤ 281474976710656) (hv : w.cell? ⟨(Tryz.laysPu17_ren.g 1), 0, none⟩ = some ev) (hev : ev = .nilIface ∨ ∃ te pe, ev = .iface te pe) :
    Calls Tryz.prog 304 #[.string fn, .string s, .int .i64 base, .int .i64 bits, .iface 323 (.int .i64 1)] w fun e w' => ∃ N, e = .returned (.iface 325 (.pointer (some ⟨N, 0, none⟩))) ∧ w.heap.size ≤ N ∧ w'.heap[N]? = some (.cells #[.string fn, .string s, ev] (Tryz.laysPu17_ren.t 44) (0, 0)) ∧ Below w.heap.size w w' := AnyPu.strconv_toError_range Tryz.laysPu17 fn s base bits ev w hlim hv hev
end Go.Proofs

/-
  From the small semantics to a law's statement: what is read stays; the answer is true.
-/
set_option linter.unusedSimpArgs false
set_option linter.unusedVariables false
namespace W
open Go (World Value Addr IntKind Program TypeId FuncId Operand Act Oper Next Result Sem Ending Exit Code Func DataW MemPlace Calls trodAll_cons_mk)
open Go.ChangeShapes Go.RowKit Go.WideShapes Go.ChangeAt
section
variable {P : Program} {Hh : Type} {enc : TypeId × Value → Hh}
theorem qqs {W W' : World} (hb : ∀ b, b < W.heap.size → W'.heap[b]? = W.heap[b]?) {p : MemPlace} (hp : p.block < W.heap.size) : W.sameAt W' p := by
  cases p with
  | cell b o => exact qbR (hb b hp) o
  | map b => exact hb b hp
theorem qhZ (hl : Go.laidOutB P = true) {W W' : World} (hb : ∀ b, b < W.heap.size → W'.heap[b]? = W.heap[b]?) {sp : Nat → Bool} : ∀ {ts : List TypeId} {vs : List Value} {ds : List (DataW Hh)} {ps : List MemPlace}, (∀ t ∈ ts, P.readableRec t = true ∧ t < P.types.size) →
    DataW.TrodAll enc P W 0 (fun _ => true) true ts vs ds ps → (∀ p ∈ ps, p.block < W.heap.size) → (∀ p ∈ ps, sp p.block = true) → DataW.TrodAll enc P W' 0 sp true ts vs ds ps
  | [], vs, ds, ps, hr, h, hlt, hs => by
    obtain ⟨rfl, rfl, rfl⟩ := trodAll_nil h
    exact trodAll_mk0
  | t :: ts, vs, ds, ps, hr, h, hlt, hs => by
    obtain ⟨v, vs', d, ds', p, q, rfl, rfl, rfl, hd, hrest⟩ := trodAll_cons h
    refine trodAll_cons_mk (Go.WideElems.Trod_stays hl (hr t (by simp)).1 (hr t (by simp)).2 hd (fun x hx => qqs hb (hlt x (by simp [hx]))) (fun x hx => hs x (by simp [hx])))
      (qhZ hl hb (fun u hu => hr u (by simp [hu])) hrest (fun x hx => hlt x (by simp [hx])) (fun x hx => hs x (by simp [hx])))
theorem qtU {f : Func} {s : Go.ChangeSpec} {apart fresh handsOn again : Bool} {W W' : World} {args : Array Value} {ds gs : List (DataW Hh)} {before : List MemPlace} {tb : TypeId} (hvars : s.vars = [])
    (hW : DataW.Whole enc P f.params.toList s.vars apart W args.toList ds gs before) (hs : s.fn Hh ds = { results := [.lit (.bool true)], args := ds }) (hres : f.resultTypes = #[tb]) (htb : P.underlying tb = some .bool)
    (hl : Go.laidOutB P = true) (hread : ∀ t ∈ f.params.toList, P.readableRec t = true ∧ t < P.types.size)
    (hio : W'.os = W.os ∧ W'.output = W.output) (hb : ∀ b, b < W.heap.size → W'.heap[b]? = W.heap[b]?) :
    s.post enc P f apart fresh handsOn again W args (.bool true) W' := by
  have hlt : ∀ p ∈ before, p.block < W.heap.size := fun p hp => by simpa using hW.lt p hp
  have hW' := hW
  obtain ⟨p, q, hA, hV, rfl, hfz, hnd⟩ := hW
  rw [hvars] at hV
  obtain ⟨rfl, rfl⟩ := trodVars_none hV
  have hfn : s.fn Hh (ds ++ []) = { results := [.lit (.bool true)], args := ds } := by rw [List.append_nil]; exact hs
  have hargs : ∀ sp : Nat → Bool, (∀ x ∈ p ++ [], sp x.block = true) → DataW.TrodAll enc P W' 0 sp true f.params.toList args.toList ds p := fun sp hsp =>
    qhZ hl hb hread hA (fun x hx => hlt x (by simp [hx])) (fun x hx => hsp x (by simp [hx]))
  have hk : W.keptBut W' (fun _ => False) := by
    refine ⟨hio.1, hio.2, fun i hi => ?_⟩
    rw [hb i hi]
    cases hq : W.heap[i]? with
    | none => rfl
    | some o => cases o <;> first | rfl | exact ⟨rfl, rfl, rfl, fun _ _ => rfl⟩ | exact .inr ⟨rfl, rfl⟩
  have hresT : ∀ (b : Nat) (sp : Nat → Bool) (hd : Bool), DataW.TrodAll enc P W' b sp hd f.resultTypes.toList ((Value.bool true).resultList f.resultTypes.size) [.lit (.bool true)] [] := fun b sp hd => by
    rw [hres]
    exact trodAll_cons_mk (shut_bool htb _) trodAll_mk0
  have hfz' : ∀ a : Addr, a.block < W.heap.size → W'.frozen? a = W.frozen? a := fun a ha => by simp only [World.frozen?, hb a.block ha]
  have hres2 : ∀ (b : Nat) (sp : Nat → Bool) (hd : Bool), DataW.TrodAll enc P W' b sp hd f.resultTypes.toList ((Value.bool true).resultList f.resultTypes.size) (s.fn Hh (ds ++ [])).results [] := fun b sp hd => by rw [hfn]; exact hresT b sp hd
  have hargs2 : ∀ sp : Nat → Bool, (∀ x ∈ p ++ [], sp x.block = true) → DataW.TrodAll enc P W' 0 sp true f.params.toList args.toList (s.fn Hh (ds ++ [])).args p := fun sp hsp => by rw [hfn]; exact hargs sp hsp
  have hvars2 : ∀ sp : Nat → Bool, DataW.TrodVars enc P W' sp s.vars (s.fn Hh (ds ++ [])).vars [] := fun sp => by rw [hfn, hvars]; rfl
  have hold : ∀ x ∈ p ++ [], (fun b => decide (b < W.heap.size)) x.block = true := fun x hx => by simpa using hlt x hx
  refine ⟨ds, [], p ++ [], [], p, [], hW', hres2 _ _ _, hargs2 _ hold, hvars2 _, Go.World.keptBut_mono (fun _ h => h.elim) hk, fun _ => ?_⟩
  refine ⟨ok_one hres rfl (okWide_bool_mk htb _), _, _, ([] ++ p) ++ [], ⟨[] ++ p, [], trodAll_append (hargs2 _ (fun _ _ => rfl)) (hres2 _ _ _), hvars2 _, rfl, ?_, ?_⟩, ?_⟩
  · intro b off hp
    rw [hfz' _ (hlt (.cell b off) (by simpa using hp))]
    exact hfz b off (by simpa using hp)
  · intro ha
    simpa using hnd ha
  · intro x hx _
    simpa using hx
end
end W

/-
  Arguments that were read are data.
-/
set_option linter.unusedSimpArgs false
set_option linter.unusedVariables false
namespace W
open Go (World Value Addr IntKind Program TypeId FuncId Operand Act Oper Next Result Sem Ending Exit Code Func DataW MemPlace Calls TypeDesc Lit)
mutual
def D.bulk : D → Nat
  | .s x => x.length + 1
  | .sl xs => D.bulks xs + 1
  | .agg cs => D.bulks cs + 1
  | _ => 1
def D.bulks : List D → Nat
  | [] => 0
  | x :: l => D.bulk x + D.bulks l
end
theorem qi2 : ∀ (a b : List D), D.bulks (a ++ b) = D.bulks a + D.bulks b
  | [], b => by simp [D.bulks]
  | x :: a, b => by simp only [List.cons_append, D.bulks, qi2 a b]; omega
def tiles (P : Program) : Nat → List Go.Field → Bool
  | _, [] => true
  | off, f :: l => f.offset == off && tiles P (off + P.cellsOf f.type) l
def qgP (P : Program) : List Go.Field → Nat
  | [] => 0
  | f :: l => P.cellsOf f.type + qgP P l
def qkT (P : Program) (ts : List TypeId) (t : TypeId) : Bool :=
  match P.underlying t with
  | some .bool | some (.int _) | some .string => true
  | some (.slice e) => ts.contains e && Nat.blt 0 (P.cellsOf e)
  | some (.struct fs) => fs.toList.all (fun f => ts.contains f.type) && tiles P 0 fs.toList && qEr (P.cellsOf t) (qgP P fs.toList)
  | some (.array n e) => ts.contains e && qEr (P.cellsOf t) (n * P.cellsOf e)
  | _ => false
def covers (P : Program) (ts : List TypeId) : Bool := ts.all (qkT P ts)
def qep (P : Program) (t : TypeId) : Bool :=
  match P.underlying t with
  | some (.struct _) | some (.array _ _) => true
  | _ => false
def elD : Bool → List D → D
  | true, xs => .agg xs
  | false, [x] => x
  | false, _ => .np
def Ty (P : Program) : Nat → TypeId → List D → Prop
  | 0, _, _ => False
  | n + 1, t, xs => match P.underlying t with
    | some .bool => ∃ b, xs = [.b b]
    | some (.int k) => ∃ z, xs = [.i k z] ∧ (Lit.int k z).wf = true
    | some .string => ∃ s, xs = [.s s] ∧ s.length ≤ Go.maxLen ∧ ∀ c ∈ s, c < 256
    | some (.slice e) => xs = [.nil] ∨ ∃ yss : List (List D), xs = [.sl (yss.map (elD (qep P e)))] ∧ yss.length ≤ Go.maxLen ∧ ∀ q ∈ yss, Ty P n e q
    | some (.struct fs) => ∃ yss : List (List D), xs = yss.flatten ∧ yss.length = fs.toList.length ∧ ∀ (i : Nat) (f : Go.Field) (q : List D), fs.toList[i]? = some f → yss[i]? = some q → Ty P n f.type q
    | some (.array m e) => ∃ yss : List (List D), xs = yss.flatten ∧ yss.length = m ∧ ∀ q ∈ yss, Ty P n e q
    | _ => False
def Arg (P : Program) (t : TypeId) (x : D) : Prop := ∃ n xs, Ty P n t xs ∧ x = elD (qep P t) xs
structure Bulk {Hh : Type} (B : DataW Hh → Nat) (BA : List (DataW Hh) → Nat) : Prop where
  str : ∀ bytes, B (.lit (.string bytes)) = bytes.length + 1
  lit : ∀ l, 1 ≤ B (.lit l)
  nil : B .nil = 1
  sl : ∀ es sp, B (.slice es sp) = BA es + BA sp + 1
  agg : ∀ ps, B (.agg ps) = BA ps + 1
  n : BA [] = 0
  c : ∀ d r, BA (d :: r) = B d + BA r
def g0 (W : World) : Gh := { n := 0, φ := fun _ => 0, own := fun _ => none, pub := fun b => match W.heap[b]? with | some (.cells c _ _) => c.size | _ => 0 }
theorem qwQ (M : Maps) (W : World) (hgl : GlOk M (g0 W) W) : RelH M (g0 W) W [] := ⟨rfl, fun id o h => by simp at h, fun b hb => ⟨rfl, by
  show (match W.heap[b]? with | some (.cells c _ _) => c.size | _ => 0) = 0
  rw [Array.getElem?_eq_none hb]⟩, hgl⟩
theorem qyx {W W' : World} {g' : Gh} (h : Evo (g0 W) W g' W') : ∀ b, b < W.heap.size → W'.heap[b]? = W.heap[b]? := fun b hb => (h.keep b hb (.inl rfl)).2.1
theorem qnE {W : World} {b o : Nat} {v : Value} (h : W.cell? ⟨b, o, none⟩ = some v) : o < (g0 W).pub b := by
  simp only [World.cell?] at h
  show o < (match W.heap[b]? with | some (.cells c _ _) => c.size | _ => 0)
  split at h
  · rename_i c e f hq
    rw [hq]
    simp at h
    exact (Array.getElem?_eq_some_iff.1 h).1
  · cases h
theorem qnb {W : World} {a : Addr} {v : Value} (h : W.cell? a = some v) : a.spot = none := by
  simp only [World.cell?] at h
  split at h
  · cases hs : a.spot with
    | none => rfl
    | some s => simp [hs] at h
  · cases h
section
variable {P : Program} {Hh : Type} {enc : TypeId × Value → Hh} {W : World}
theorem RepDL.split {pub : Nat → Nat} {w : World} : ∀ {a : List (List D)} {b : List (List Value)}, a.length = b.length → (∀ (i : Nat) (q : List D) (r : List Value), a[i]? = some q → b[i]? = some r → RepDL pub w q r) → RepDL pub w a.flatten b.flatten
  | [], [], _, _ => .nil
  | q :: a, r :: b, hl, h => by
    simp only [List.flatten_cons]
    exact (h 0 q r rfl rfl).append (RepDL.split (by simpa using hl) (fun i q' r' hq hr => h (i + 1) q' r' (by simpa using hq) (by simpa using hr)))
  | [], _ :: _, hl, _ => by simp at hl
  | _ :: _, [], hl, _ => by simp at hl
theorem qhY (cs : List Value) : ∀ (fs : List Go.Field) (off : Nat), tiles P off fs = true → (fs.map fun f => (cs.drop f.offset).take (P.cellsOf f.type)).flatten = (cs.drop off).take (qgP P fs)
  | [], off, _ => by simp [qgP]
  | f :: fs, off, h => by
    simp only [tiles, qEn, beq_iff_eq] at h
    simp only [qEs, List.flatten_cons, qgP, qhY cs fs _ h.2, h.1]
    rw [List.take_add, List.drop_drop]
theorem qh3 (cs : List Value) (sz : Nat) : ∀ n, ((List.range n).map fun i => (cs.drop (i * sz)).take sz).flatten = cs.take (n * sz)
  | 0 => by simp
  | n + 1 => by
    rw [List.range_succ, List.map_append, List.flatten_append, qh3 cs sz n, Nat.succ_mul, List.take_add]
    simp
theorem qlI {n : Nat} {t : TypeId} {xs : List D} (h : Ty P n t xs) : (elD (qep P t) xs).cells = xs := by
  cases n with
  | zero => exact h.elim
  | succ n =>
    unfold Ty at h
    unfold qep
    split at h
    · rename_i hu; rw [hu]; obtain ⟨b, rfl⟩ := h; rfl
    · rename_i k hu; rw [hu]; obtain ⟨b, rfl, _⟩ := h; rfl
    · rename_i hu; rw [hu]; obtain ⟨b, rfl, _⟩ := h; rfl
    · rename_i e hu; rw [hu]
      rcases h with rfl | ⟨yss, rfl, _⟩ <;> rfl
    · rename_i fs hu; rw [hu]; rfl
    · rename_i m e hu; rw [hu]; rfl
    · exact h.elim
theorem qoM {a b : List D} (h1 : D.ones a = true) (h2 : D.ones b = true) : D.ones (a ++ b) = true := by
  induction a with
  | nil => exact h2
  | cons q a ih => simp only [List.cons_append, D.ones, qEn] at h1 ⊢; exact ⟨h1.1, ih h1.2⟩
theorem qeP : ∀ {l : List (List D)}, (∀ q ∈ l, D.ones q = true) → D.ones l.flatten = true
  | [], _ => rfl
  | q :: l, h => qoM (h q (by simp)) (qeP fun r hr => h r (by simp [hr]))
theorem qmP : ∀ {n : Nat} {t : TypeId} {xs : List D}, Ty P n t xs → D.ones xs = true
  | 0, _, _, h => h.elim
  | n + 1, t, xs, h => by
    unfold Ty at h
    split at h
    · obtain ⟨b, rfl⟩ := h; rfl
    · obtain ⟨b, rfl, _⟩ := h; rfl
    · obtain ⟨b, rfl, _⟩ := h; rfl
    · rcases h with rfl | ⟨yss, rfl, _⟩ <;> rfl
    · obtain ⟨yss, rfl, hl, h⟩ := h
      refine qeP fun q hq => ?_
      obtain ⟨i, hi⟩ := List.getElem?_of_mem hq
      have hlt := (List.getElem?_eq_some_iff.1 hi).1
      rename_i fs hu
      exact qmP (h i (fs.toList[i]'(by omega)) q (by simp [hl ▸ hlt]) hi)
    · obtain ⟨yss, rfl, hl, h⟩ := h
      exact qeP fun q hq => qmP (h q hq)
    · exact h.elim
end
end W

/-
  Arguments that were read are data: the reading itself.
-/
set_option linter.unusedSimpArgs false
set_option linter.unusedVariables false
namespace W
open Go (World Value Addr IntKind Program TypeId FuncId Operand Act Oper Next Result Sem Ending Exit Code Func DataW MemPlace Calls TypeDesc Lit)
theorem qfu {α : Type} {R : Nat → α → Prop} : ∀ (n : Nat), (∀ i, i < n → ∃ a, R i a) → ∃ l : List α, l.length = n ∧ ∀ (i : Nat) (a : α), l[i]? = some a → R i a
  | 0, _ => ⟨[], rfl, fun i a h => by simp at h⟩
  | n + 1, h => by
    obtain ⟨l, h1, h2⟩ := qfu n (fun i hi => h i (by omega))
    obtain ⟨a, ha⟩ := h n (by omega)
    refine ⟨l ++ [a], by simp [h1], fun i b hb => ?_⟩
    rw [List.getElem?_append] at hb
    split at hb
    · exact h2 i b hb
    · rename_i hge
      have hi : i - l.length = 0 := by
        rcases Nat.eq_zero_or_pos (i - l.length) with h0 | h0
        · exact h0
        · rw [List.getElem?_eq_none (by simp; omega)] at hb; cases hb
      rw [hi] at hb
      simp only [qEm, Option.some.injEq] at hb
      subst hb
      rwa [show i = n by omega]
theorem qjS {α : Type} {c : Nat} : ∀ (l : List (List α)), (∀ q ∈ l, q.length = c) → ∀ (j : Nat) (v : α), l.flatten[j]? = some v → ∃ i r q, j = i * c + r ∧ l[i]? = some q ∧ q[r]? = some v
  | [], _, j, v, h => by simp at h
  | q :: l, hc, j, v, h => by
    have hq := hc q (by simp)
    rw [List.flatten_cons, List.getElem?_append] at h
    split at h
    · exact ⟨0, j, q, by simp, rfl, h⟩
    · rename_i hge
      obtain ⟨i, r, q', h1, h2, h3⟩ := qjS l (fun x hx => hc x (by simp [hx])) _ v h
      exact ⟨i + 1, r, q', by rw [Nat.succ_mul]; omega, by simpa using h2, h3⟩
theorem qhi {α : Type} {c : Nat} : ∀ (l : List (List α)), (∀ q ∈ l, q.length = c) → l.flatten.length = l.length * c
  | [], _ => by simp
  | q :: l, hc => by
    rw [List.flatten_cons, List.length_append, hc q (by simp), qhi l (fun x hx => hc x (by simp [hx])), qEx, Nat.succ_mul]; omega
section
variable {P : Program} {Hh : Type} {enc : TypeId × Value → Hh} {W : World}
theorem qqG {n : Nat} {t : TypeId} {q : List D} (h : Ty P n t q) {b : Nat} (hb : D.bulks q + (if qep P t then 1 else 0) ≤ b) : D.bulk (elD (qep P t) q) ≤ b := by
  cases ha : qep P t with
  | true => rw [ha] at hb; simpa [elD, D.bulk] using hb
  | false =>
    rw [ha] at hb
    have h1 := qlI h
    rw [ha] at h1
    match q, h1, hb with
    | [x], _, hb => simpa [elD, D.bulks] using hb
    | [], h1, _ => simp [elD, D.cells] at h1
    | x :: y :: l, h1, _ => simp [elD, D.cells] at h1
theorem qod {B : DataW Hh → Nat} {BA : List (DataW Hh) → Nat} (hB : Bulk B BA) : ∀ {ys : List D} {ds : List (DataW Hh)}, ys.length = ds.length → (∀ (i : Nat) (y : D) (d : DataW Hh), ys[i]? = some y → ds[i]? = some d → D.bulk y ≤ B d) → D.bulks ys ≤ BA ds
  | [], [], _, _ => by simp [D.bulks]
  | y :: ys, d :: ds, hl, h => by
    rw [hB.c, D.bulks]
    have h1 := h 0 y d rfl rfl
    have h2 := qod hB (ys := ys) (ds := ds) (by simpa using hl) (fun i y d hy hd => h (i + 1) y d (by simpa using hy) (by simpa using hd))
    omega
  | [], _ :: _, hl, _ => by simp at hl
  | _ :: _, [], hl, _ => by simp at hl
theorem qfK {B : DataW Hh → Nat} {BA : List (DataW Hh) → Nat} (hB : Bulk B BA) : ∀ {ys : List (List D)} {ds : List (DataW Hh)}, ys.length = ds.length → (∀ (i : Nat) (y : List D) (d : DataW Hh), ys[i]? = some y → ds[i]? = some d → D.bulks y ≤ B d) → D.bulks ys.flatten ≤ BA ds
  | [], [], _, _ => by simp [D.bulks]
  | y :: ys, d :: ds, hl, h => by
    rw [hB.c, List.flatten_cons, qi2]
    have h1 := h 0 y d rfl rfl
    have h2 := qfK hB (ys := ys) (ds := ds) (by simpa using hl) (fun i y d hy hd => h (i + 1) y d (by simpa using hy) (by simpa using hd))
    omega
  | [], _ :: _, hl, _ => by simp at hl
  | _ :: _, [], hl, _ => by simp at hl
theorem qlc {a : Addr} {n : Nat} {cs : List Value} (h : W.cells? 0 a n = some cs) : cs.length = n ∧ ∀ (i : Nat) (v : Value), cs[i]? = some v → W.cell? (a.add i) = some v := by
  unfold World.cells? at h
  simp only [Nat.zero_le, if_true] at h
  have hl := Go.mapM_some_length h
  refine ⟨by simpa using hl, fun i v hv => ?_⟩
  have hi : i < n := by
    have := (List.getElem?_eq_some_iff.1 hv).1
    rw [hl] at this; simpa using this
  have := Go.mapM_some_get h i i (by simp [hi])
  rw [this, hv]
theorem quS (ys : List D) : D.bulks [.sl ys] = D.bulks ys + 1 := by simp [D.bulks, D.bulk]
theorem qiQ {ts : List TypeId} (hts : covers P ts = true) {B : DataW Hh → Nat} {BA : List (DataW Hh) → Nat} (hB : Bulk B BA) : ∀ (n : Nat) (t : TypeId) (cs : List Value) (x : DataW Hh × List MemPlace), t ∈ ts →
    DataW.trod enc P W 0 (fun _ => true) true n t cs = some x → ∃ xs, Ty P n t xs ∧ RepDL (g0 W).pub W xs cs ∧ D.bulks xs + (if qep P t then 1 else 0) ≤ B x.1
  | 0, t, cs, x, _, h => by simp [DataW.trod] at h
  | n + 1, t, cs, x, ht, h => by
    have hcov : qkT P ts t = true := by
      simp only [covers, List.all_eq_true] at hts
      exact hts t ht
    unfold qkT at hcov
    unfold Ty qep
    split at hcov
    · -- bool
      rename_i hu
      obtain ⟨b, rfl, rfl⟩ := DataW.trod_bool hu h
      rw [hu]
      exact ⟨[.b b], ⟨b, rfl⟩, .cons _ _ _ _ (.b b) .nil, by have := hB.lit (.bool b); simpa [D.bulks, D.bulk] using this⟩
    · rename_i k hu
      obtain ⟨z, rfl, rfl, hw⟩ := DataW.trod_int hu h
      rw [hu]
      exact ⟨[.i k z], ⟨z, rfl, hw⟩, .cons _ _ _ _ (.i k z) .nil, by have := hB.lit (.int k z); simpa [D.bulks, D.bulk] using this⟩
    · rename_i hu
      obtain ⟨z, rfl, rfl, hm⟩ := DataW.trod_string hu h
      rw [hu]
      have hl : (z.data.toList.map (·.toNat)).length = z.size := by simp
      refine ⟨[.s (z.data.toList.map (·.toNat))], ⟨_, rfl, by rw [hl]; exact hm, fun c hc => ?_⟩, .cons _ _ _ _ (.s _ z rfl) .nil, ?_⟩
      · obtain ⟨b, _, rfl⟩ := List.mem_map.1 hc
        exact b.toNat_lt
      · simp only [D.bulks, D.bulk, hB.str]
        simp
    · -- slice
      rename_i e hu
      simp only [qEn, List.contains_iff_mem, Nat.blt_eq] at hcov
      obtain ⟨he, hpos⟩ := hcov
      rw [hu]
      rcases DataW.trod_slice hu h with ⟨rfl, rfl⟩ | ⟨a, len, cap, elems, rest, m, hm, rfl, rfl, hb, hlc, hcap, hlen, hel, _, _⟩
      · exact ⟨[.nil], .inl rfl, .cons _ _ _ _ .nil .nil, by rw [hB.nil]; simp [D.bulks, D.bulk]⟩
      · cases hm
        -- each element
        obtain ⟨l, hl1, hl2⟩ := qfu (R := fun i (p : List D × List Value) => ∃ y, elems[i]? = some y ∧ W.cells? 0 (a.add (i * P.cellsOf e)) (P.cellsOf e) = some p.2 ∧ Ty P n e p.1 ∧ RepDL (g0 W).pub W p.1 p.2 ∧ D.bulks p.1 + (if qep P e then 1 else 0) ≤ B y.1) len (fun i hi => by
          have h1 := hel i hi
          rw [List.getElem?_eq_getElem (by omega)] at h1
          obtain ⟨cs', h2, h3⟩ := Option.bind_eq_some_iff.1 h1
          obtain ⟨xs, h4, h5, h6⟩ := qiQ hts hB n e cs' _ he h3
          exact ⟨(xs, cs'), _, List.getElem?_eq_getElem (by omega), h2, h4, h5, h6⟩)
        have htys : ∀ q ∈ l.map (·.1), Ty P n e q := fun q hq => by
          obtain ⟨p, hp, rfl⟩ := List.mem_map.1 hq
          obtain ⟨i, hi⟩ := List.getElem?_of_mem hp
          obtain ⟨y, _, _, h4, _⟩ := hl2 i p hi
          exact h4
        have hbulk : D.bulks ((l.map (·.1)).map (elD (qep P e))) ≤ BA (elems.map (·.1)) := by
          refine qod hB (by simp [hl1, hlen]) (fun i y d hy hd => ?_)
          simp only [List.getElem?_map, Option.map_map, Option.map_eq_some_iff] at hy hd
          obtain ⟨p, hp, rfl⟩ := hy
          obtain ⟨z, hz, rfl⟩ := hd
          obtain ⟨y, h1, _, h4, _, h6⟩ := hl2 i p hp
          rw [hz] at h1
          cases h1
          exact qqG h4 h6
        refine ⟨[.sl ((l.map (·.1)).map (elD (qep P e)))], .inr ⟨l.map (·.1), rfl, by simp only [List.length_map, hl1]; omega, htys⟩, .cons _ _ _ _ ?_ .nil, ?_⟩
        · cases hle : l with
          | nil =>
            rw [hle] at hl1
            simp at hl1
            subst hl1
            exact .sl0 a cap
          | cons p0 l' =>
            rw [← hle]
            have hlpos : 0 < len := by rw [← hl1, hle]; simp
            have hcl : ∀ p ∈ l, p.2.length = P.cellsOf e := fun p hp => by
              obtain ⟨i, hi⟩ := List.getElem?_of_mem hp
              obtain ⟨y, _, h2, _⟩ := hl2 i p hi
              exact (qlc h2).1
            have hcell : ∀ i p, l[i]? = some p → ∀ r v, p.2[r]? = some v → W.cell? ((a.add (i * P.cellsOf e)).add r) = some v := fun i p hi r v hv => by
              obtain ⟨y, _, h2, _⟩ := hl2 i p hi
              exact (qlc h2).2 r v hv
            have hspot : a.spot = none := by
              have h0 : l[0]? = some p0 := by rw [hle]; rfl
              have hp0 := hcl p0 (by rw [hle]; simp)
              have hlt : 0 < p0.2.length := by omega
              have := qnb (hcell 0 p0 h0 0 p0.2[0] (by simp [hlt]))
              rw [Nat.zero_mul] at this
              unfold Addr.add at this
              simpa using this
            obtain ⟨b, off, sp⟩ := a
            simp only at hspot
            subst hspot
            have hvlen : (l.map (·.2)).flatten.length = len * P.cellsOf e := by
              rw [qhi _ (fun q hq => by obtain ⟨p, hp, rfl⟩ := List.mem_map.1 hq; exact hcl p hp)]; simp [hl1]
            have hflat : ((l.map (·.1)).map (elD (qep P e))).flatMap D.cells = (l.map (·.1)).flatten := by
              rw [List.flatMap_map, List.flatMap_def]
              congr 1
              rw [List.map_congr_left (g := id)]
              · simp
              · intro q hq; exact qlI (htys q hq)
            have hrep : RepDL (g0 W).pub W (((l.map (·.1)).map (elD (qep P e))).flatMap D.cells) (l.map (·.2)).flatten := by
              rw [hflat]
              refine RepDL.split (by simp) (fun i q r hq hr => ?_)
              simp only [List.getElem?_map, Option.map_eq_some_iff] at hq hr
              obtain ⟨p, hp, rfl⟩ := hq
              obtain ⟨p', hp', rfl⟩ := hr
              rw [hp] at hp'
              cases hp'
              obtain ⟨y, _, _, _, h5, _⟩ := hl2 i p hp
              exact h5
            have hcs : ∀ j v, (l.map (·.2)).flatten[j]? = some v → W.cell? ⟨b, off + j, none⟩ = some v := fun j v hj => by
              obtain ⟨i, r, q, h1, h2, h3⟩ := qjS _ (fun q hq => by obtain ⟨p, hp, rfl⟩ := List.mem_map.1 hq; exact hcl p hp) j v hj
              simp only [List.getElem?_map, Option.map_eq_some_iff] at h2
              obtain ⟨p, hp, rfl⟩ := h2
              have := hcell i p hp r v h3
              rw [qau, qau] at this
              rw [h1, ← Nat.add_assoc]; exact this
            have hlenD : ((l.map (·.1)).map (elD (qep P e))).length = len := by simp [hl1]
            have hsl := RepD.sl (pub := (g0 W).pub) (w := W) ((l.map (·.1)).map (elD (qep P e))) b off cap (P.cellsOf e) (l.map (·.2)).flatten (by rw [hle]; simp) (fun x hx => ?_) hrep hcs ?_ (by rw [hlenD]; exact hlc) ?_
            · rw [hlenD] at hsl; exact hsl
            · obtain ⟨q, hq, rfl⟩ := List.mem_map.1 hx
              rw [qlI (htys q hq)]
              obtain ⟨p, hp, rfl⟩ := List.mem_map.1 hq
              obtain ⟨i, hi⟩ := List.getElem?_of_mem hp
              obtain ⟨y, _, _, _, h5, _⟩ := hl2 i p hi
              rw [h5.length]; exact hcl p hp
            · have hp : 0 < len * P.cellsOf e := Nat.mul_pos hlpos hpos
              have hlt : (l.map (·.2)).flatten.length - 1 < (l.map (·.2)).flatten.length := by rw [hvlen]; omega
              have := qnE (hcs _ _ (List.getElem?_eq_getElem hlt))
              rw [hvlen] at this ⊢
              omega
            · refine hrep.ones ?_
              rw [hflat]
              exact qeP fun q hq => qmP (htys q hq)
        · rw [quS, hB.sl]
          simp only [qEl, if_false]
          omega
    · -- struct
      rename_i fs hu
      simp only [qEn, List.all_eq_true, List.contains_iff_mem, Nat.beq_eq] at hcov
      obtain ⟨⟨hf, htile⟩, hsum⟩ := hcov
      obtain ⟨ys, m, hm, rfl, hlc, hlen, hel⟩ := DataW.trod_struct hu h
      cases hm
      rw [hu]
      obtain ⟨l, hl1, hl2⟩ := qfu (R := fun i (p : List D) => ∃ f y, fs[i]? = some f ∧ ys[i]? = some y ∧ Ty P n f.type p ∧ RepDL (g0 W).pub W p ((cs.drop f.offset).take (P.cellsOf f.type)) ∧ D.bulks p + (if qep P f.type then 1 else 0) ≤ B y.1) fs.size (fun i hi => by
        have hfi : fs[i]? = some fs[i] := by simp [hi]
        have h1 := hel i fs[i] hfi
        rw [List.getElem?_eq_getElem (by omega)] at h1
        obtain ⟨xs, h4, h5, h6⟩ := qiQ hts hB n _ _ _ (hf fs[i] (by simp)) h1
        exact ⟨xs, fs[i], _, hfi, List.getElem?_eq_getElem (by omega), h4, h5, h6⟩)
      refine ⟨l.flatten, ⟨l, rfl, by simp [hl1], fun i f q hfi hq => ?_⟩, ?_, ?_⟩
      · obtain ⟨f', y, h1, h2, h3, _⟩ := hl2 i q hq
        have : fs[i]? = some f := by simpa using hfi
        rw [h1] at this; cases this
        exact h3
      · have hall : cs = (fs.toList.map fun f => (cs.drop f.offset).take (P.cellsOf f.type)).flatten := by
          rw [qhY cs _ 0 htile, ← hsum, ← hlc]; simp
        rw [hall]
        refine RepDL.split (by simp [hl1]) (fun i q r hq hr => ?_)
        simp only [List.getElem?_map, Option.map_eq_some_iff] at hr
        obtain ⟨f, hfi, rfl⟩ := hr
        obtain ⟨f', y, h1, h2, h3, h4, _⟩ := hl2 i q hq
        have : fs[i]? = some f := by simpa using hfi
        rw [h1] at this; cases this
        exact h4
      · simp only [hB.agg, if_true]
        have := qfK hB (ys := l) (ds := ys.map (·.1)) (by simp [hl1, hlen]) (fun i q d hq hd => by
          simp only [List.getElem?_map, Option.map_eq_some_iff] at hd
          obtain ⟨z, hz, rfl⟩ := hd
          obtain ⟨f', y, h1, h2, h3, h4, h5⟩ := hl2 i q hq
          rw [hz] at h2; cases h2
          omega)
        omega
    · -- array
      rename_i k e hu
      simp only [qEn, List.contains_iff_mem, Nat.beq_eq] at hcov
      obtain ⟨he, hsum⟩ := hcov
      obtain ⟨ys, m, hm, rfl, hlc, hlen, hel⟩ := DataW.trod_array hu h
      cases hm
      rw [hu]
      obtain ⟨l, hl1, hl2⟩ := qfu (R := fun i (p : List D) => ∃ y, ys[i]? = some y ∧ Ty P n e p ∧ RepDL (g0 W).pub W p ((cs.drop (i * P.cellsOf e)).take (P.cellsOf e)) ∧ D.bulks p + (if qep P e then 1 else 0) ≤ B y.1) k (fun i hi => by
        have h1 := hel i hi
        rw [List.getElem?_eq_getElem (by omega)] at h1
        obtain ⟨xs, h4, h5, h6⟩ := qiQ hts hB n _ _ _ he h1
        exact ⟨xs, _, List.getElem?_eq_getElem (by omega), h4, h5, h6⟩)
      refine ⟨l.flatten, ⟨l, rfl, hl1, fun q hq => ?_⟩, ?_, ?_⟩
      · obtain ⟨i, hi⟩ := List.getElem?_of_mem hq
        obtain ⟨y, h2, h3, _⟩ := hl2 i q hi
        exact h3
      · have hall : cs = ((List.range k).map fun i => (cs.drop (i * P.cellsOf e)).take (P.cellsOf e)).flatten := by
          rw [qh3, ← hsum, ← hlc]; simp
        rw [hall]
        refine RepDL.split (by simp [hl1]) (fun i q r hq hr => ?_)
        simp only [List.getElem?_map, Option.map_eq_some_iff] at hr
        obtain ⟨i', hi', rfl⟩ := hr
        have hik : i < k := by rw [← hl1]; exact (List.getElem?_eq_some_iff.1 hq).1
        rw [List.getElem?_range hik] at hi'
        cases hi'
        obtain ⟨y, h2, h3, h4, _⟩ := hl2 i q hq
        exact h4
      · simp only [hB.agg, if_true]
        have := qfK hB (ys := l) (ds := ys.map (·.1)) (by simp [hl1, hlen]) (fun i q d hq hd => by
          simp only [List.getElem?_map, Option.map_eq_some_iff] at hd
          obtain ⟨z, hz, rfl⟩ := hd
          obtain ⟨y, h2, h3, h4, h5⟩ := hl2 i q hq
          rw [hz] at h2; cases h2
          omega)
        omega
    · cases hcov
end
end W

/-
  A law's contract from runs of the small semantics, one for every way that its arguments may read.
-/
set_option linter.unusedSimpArgs false
set_option linter.unusedVariables false
namespace W
open Go (World Value Addr IntKind Program TypeId FuncId Operand Act Oper Next Result Sem Ending Exit Code Func DataW MemPlace Calls TypeDesc Lit)
open Go.ChangeShapes Go.RowKit
section
variable {P : Program} {Hh : Type} {enc : TypeId × Value → Hh} {W : World} {M : Maps}
theorem qxn {r : Go.Reach} {b : Nat} {t : TypeId} {v : Value} (hv : Value.okWide P W r b t v) : (qep P t = true → ∃ cs, v = .agg cs) ∧
    (qep P t = false → (∃ d, P.underlying t = some d ∧ (d = .bool ∨ (∃ k, d = .int k) ∨ d = .string ∨ ∃ e, d = .slice e)) → v.cells.toList = [v]) := by
  unfold Value.okWide at hv
  unfold qep
  split at hv
  · rename_i hu
    rw [hu]
    obtain ⟨cs, rfl, _⟩ := hv
    exact ⟨fun _ => ⟨cs, rfl⟩, fun h => by cases h⟩
  · rename_i hu
    rw [hu]
    obtain ⟨cs, rfl, _⟩ := hv
    exact ⟨fun _ => ⟨cs, rfl⟩, fun h => by cases h⟩
  · rename_i h1 h2
    refine ⟨fun h => ?_, fun _ ⟨d, hu, hd⟩ => ?_⟩
    · exfalso
      split at h
      · rename_i hu; exact h1 _ hu
      · rename_i hu; exact h2 _ _ hu
      · cases h
    · cases v with
      | agg cs => rcases hd with rfl | ⟨k, rfl⟩ | rfl | ⟨e, rfl⟩ <;> simp [Go.Cell.okWide, Go.Cell.ok, hu] at hv
      | _ => rfl
theorem qwn {ts : List TypeId} (hts : covers P ts = true) {B : DataW Hh → Nat} {BA : List (DataW Hh) → Nat} (hB : Bulk B BA) {r : Go.Reach} {b : Nat} {t : TypeId} {v : Value} {d : DataW Hh} {ps : List MemPlace} (ht : t ∈ ts)
    (hv : Value.okWide P W r b t v) (h : DataW.Trod enc P W 0 (fun _ => true) true t v d ps) : ∃ x, Arg P t x ∧ RepS M (g0 W) W (.d x) v ∧ D.bulk x ≤ B d := by
  obtain ⟨n, hn⟩ := h
  obtain ⟨xs, h1, h2, h3⟩ := qiQ hts hB n t _ _ ht hn
  refine ⟨elD (qep P t) xs, ⟨n, xs, h1, rfl⟩, ?_, qqG h1 h3⟩
  obtain ⟨f1, f2⟩ := qxn hv
  cases ha : qep P t with
  | true =>
    obtain ⟨cs, rfl⟩ := f1 ha
    exact .d _ _ (.agg xs cs h2)
  | false =>
    have hcov : qkT P ts t = true := by
      simp only [covers, List.all_eq_true] at hts
      exact hts t ht
    have hc := f2 ha (by
      unfold qkT at hcov
      split at hcov
      · rename_i hu; exact ⟨_, hu, .inl rfl⟩
      · rename_i hu; exact ⟨_, hu, .inr (.inl ⟨_, rfl⟩)⟩
      · rename_i hu; exact ⟨_, hu, .inr (.inr (.inl rfl))⟩
      · rename_i hu; exact ⟨_, hu, .inr (.inr (.inr ⟨_, rfl⟩))⟩
      · rename_i hu; simp [qep, hu] at ha
      · rename_i hu; simp [qep, hu] at ha
      · cases hcov)
    rw [hc] at h2
    cases h2 with
    | cons x _ l _ hx hl =>
      cases hl
      exact .d _ _ hx
theorem qnN {ts : List TypeId} (hts : covers P ts = true) {B : DataW Hh → Nat} {BA : List (DataW Hh) → Nat} (hB : Bulk B BA) {r : Go.Reach} {b : Nat} : ∀ {tys : List TypeId} {vs : List Value} {ds : List (DataW Hh)} {ps : List MemPlace} (j : Nat),
    (∀ t ∈ tys, t ∈ ts) → (∀ (i : Nat) t v, tys[i]? = some t → vs[i]? = some v → Value.okWide P W r b t v) → DataW.TrodAll enc P W 0 (fun _ => true) true tys vs ds ps →
    ∃ xs : List D, All2 (Arg P) tys xs ∧ ArgsRep M (g0 W) W j (xs.map .d) vs ∧ D.bulks xs ≤ BA ds
  | [], vs, ds, ps, j, _, _, h => by
    obtain ⟨rfl, rfl, rfl⟩ := trodAll_nil h
    exact ⟨[], .nil, .nil j, by simp [D.bulks]⟩
  | t :: tys, vs, ds, ps, j, ht, hv, h => by
    obtain ⟨v, vs', d, ds', p, q, rfl, rfl, rfl, hd, hrest⟩ := trodAll_cons h
    obtain ⟨x, h1, h2, h3⟩ := qwn (M := M) hts hB (ht t (by simp)) (hv 0 t v rfl rfl) hd
    obtain ⟨xs, h4, h5, h6⟩ := qnN hts hB (j + 1) (fun u hu => ht u (by simp [hu])) (fun i u w' hu hw => hv (i + 1) u w' (by simpa using hu) (by simpa using hw)) hrest
    refine ⟨x :: xs, .cons h1 h4, .cons (.s h2) h5, ?_⟩
    rw [hB.c, D.bulks]
    omega
theorem qmH {f : Func} {fid : FuncId} {s : Go.ChangeSpec} {apart fresh handsOn again : Bool} {args : Array Value} {ds gs : List (DataW Hh)} {before : List MemPlace} {tb : TypeId} {ts : List TypeId} {pg : Pg} {i : Nat} {r : Go.Reach} {b : Nat}
    (hgl : GlOk M (g0 W) W) (hm : P.follows .mixedOrders = true) (hT : Tab P M pg) (hx : y3 P M pg.ext) (hxlo : qae pg.ext) (hlook : look M.fm fid = some i) (hext : pg.fn i ≠ none)
    (hts : covers P ts = true) (hpar : ∀ t ∈ f.params.toList, t ∈ ts) {B : DataW Hh → Nat} {BA : List (DataW Hh) → Nat} (hB : Bulk B BA)
    (hval : ∀ (j : Nat) t v, f.params[j]? = some t → args[j]? = some v → Value.okWide P W r b t v)
    (hvars : s.vars = []) (hW : DataW.Whole enc P f.params.toList s.vars apart W args.toList ds gs before) (hs : s.fn Hh ds = { results := [.lit (.bool true)], args := ds }) (hres : f.resultTypes = #[tb]) (htb : P.underlying tb = some .bool)
    (hl : Go.laidOutB P = true) (hread : ∀ t ∈ f.params.toList, P.readableRec t = true ∧ t < P.types.size)
    (run : ∀ xs : List D, All2 (Arg P) f.params.toList xs → D.bulks xs ≤ BA ds → ∃ n r, qc0 pg n i (xs.map .d) [] = some r ∧ r.pan = false ∧ r.v = .d (.b true)) :
    Calls P fid args W fun e W' => ∃ v, e = .returned v ∧ s.post enc P f apart fresh handsOn again W args v W' := by
  have hW' := hW
  obtain ⟨p, q, hA, hV, rfl, hfz, hnd⟩ := hW
  obtain ⟨xs, h1, h2, h3⟩ := qnN (M := M) hts hB 0 hpar (fun j t v ht hv => hval j t v (by simpa using ht) (by simpa using hv)) hA
  obtain ⟨n, q2, hrun, hp, hv⟩ := run xs h1 h3
  have hc := qnV hm hT hx hxlo hrun hlook hext h2 (qwQ M W hgl)
  have ha : args.toList.toArray = args := by simp
  rw [ha] at hc
  refine hc.mono (fun e W' he => ?_)
  cases e with
  | returned v =>
    obtain ⟨_, g', hH, hE, hr⟩ := he
    rw [hv] at hr
    have hvb : v = .bool true := by
      cases hr with
      | s h => cases h with
        | d _ _ h => cases h; rfl
    subst hvb
    exact ⟨_, rfl, qtU hvars hW' hs hres htb hl hread hE.io (qyx hE)⟩
  | panicked ch =>
    obtain ⟨h, _⟩ := he
    rw [hp] at h; cases h
  | outgrown => exact he.elim
end
end W

/-
  What arguments read as, kind by kind.
-/
set_option linter.unusedSimpArgs false
set_option linter.unusedVariables false
namespace W
open Go (World Value Addr IntKind Program TypeId FuncId Func DataW MemPlace TypeDesc Lit)
theorem qhx {n a b : Nat} (h : look ((List.range n).map fun i => (i, i)) a = some b) : a = b := by
  have key : ∀ (l : List Nat), look (l.map fun i => (i, i)) a = some b → a = b := by
    intro l
    induction l with
    | nil => intro h; cases h
    | cons x l ih =>
      intro h
      simp only [qEs, look, qEt] at h
      split at h
      · rename_i hb
        cases h
        exact qEE hb
      · exact ih h
  exact key _ h
variable {P : Program} {t e : TypeId} {x : D}
theorem qi5 {k : IntKind} (hu : P.underlying t = some (.int k)) (h : Arg P t x) : ∃ z, x = .i k z ∧ (Lit.int k z).wf = true := by
  obtain ⟨n, xs, ht, rfl⟩ := h
  cases n with
  | zero => exact ht.elim
  | succ n =>
    simp only [Ty, hu] at ht
    obtain ⟨z, rfl, hw⟩ := ht
    exact ⟨z, by simp [qep, hu, elD], hw⟩
inductive SlD {α : Type} (e : α → D) : D → List α → Prop
  | nil : SlD e .nil []
  | sl (L : List α) : SlD e (.sl (L.map e)) L
theorem SlD.len {α : Type} {e : α → D} {x : D} {L : List α} (h : SlD e x L) {H : List Obj} : qhQ .lenL (.d x) H = some (.d (.i .i64 L.length)) := by
  cases h with
  | nil => rfl
  | sl => simp [qhQ]
end W

/-
  Tables that the rows list are what the small semantics reads.
-/
set_option linter.unusedSimpArgs false
set_option linter.unusedVariables false
namespace W
open Go (World Value Addr IntKind Program TypeId FuncId Func DataW MemPlace Lit)
theorem qrR {W : World} {b i : Nat} {v : Value} (h : W.cell? ⟨b, i, none⟩ = some v) : i < (g0 W).pub b := by
  show i < (match W.heap[b]? with | some (.cells c _ _) => c.size | _ => 0)
  simp only [World.cell?] at h
  split at h
  · rename_i c t f hb
    rw [hb]
    simp only [Option.isSome_none, qEl, if_false] at h
    exact (Array.getElem?_eq_some_iff.1 h).1
  · cases h
theorem qnL {pub : Nat → Nat} {w : World} (k : IntKind) : ∀ zs : List Int, RepDL pub w (zs.map (D.i k)) (zs.map fun z => Value.int k z)
  | [] => .nil
  | z :: zs => .cons _ _ _ _ (.i k z) (qnL k zs)
theorem qmf {P : Program} {W : World} {name : String} {k : IntKind} {zs : List Int} {g : Nat} {t e : TypeId} {n : Nat}
    (hg : P.globalNamed name = some g) (hty : (P.globals[g]?).map (·.type) = some t) (ht : P.underlying t = some (.array n e)) (he : P.underlying e = some (.int k)) (hce : P.cellsOf e = 1) (hct : P.cellsOf t = n) :
    ∀ {laid : List (String × DataW Unit)} {ps : List MemPlace}, DataW.LaidVars P W laid ps → (name, Go.Lib.tabData k zs) ∈ laid → Go.Lib.TabIs P W name k zs
  | [], _, _, hm => by cases hm
  | (nm, d) :: rest, ps, h, hm => by
    obtain ⟨g', t', cs, fuel, p, q, hg', ht', hvar, hd, hrest, _⟩ := h
    rcases List.mem_cons.1 hm with e | hm
    · cases e
      obtain rfl := Option.some.inj (hg.symm.trans hg')
      obtain rfl := Option.some.inj (hty.symm.trans ht')
      unfold Go.Lib.TabIs
      rw [hvar, ← Go.Lib.cells_of_tab ht he hce hct hd]
    · exact qmf hg hty ht he hce hct hrest hm
theorem qsL {M : Maps} {P : Program} {W : World} (h2 : qya M (g0 W) W) (h : ∀ n x, look M.gl n = some x → ∃ name k zs, P.globalNamed name = some n ∧ x = .agg (zs.map (D.i k)) ∧ zs ≠ [] ∧ Go.Lib.TabIs P W name k zs) : GlOk M (g0 W) W := by
  refine ⟨?_, h2⟩
  intro n x hn
  obtain ⟨name, k, zs, hg, rfl, hne, ht⟩ := h n x hn
  refine ⟨zs.map fun z => Value.int k z, qnL k zs, fun j v hj => ?_, ?_⟩
  · have hlt : j < zs.length := by
      have := (List.getElem?_eq_some_iff.1 hj).1
      simpa using this
    rw [qEu, ht.cell hg j hlt]
    have : (zs.map fun z => Value.int k z)[j]? = some (.int k (zs.getD j 0)) := by simp [List.getD, hlt]
    rw [this] at hj
    exact hj
  · have hpos : 0 < zs.length := by cases zs with | nil => exact absurd rfl hne | cons => simp
    have := qrR (ht.cell hg (zs.length - 1) (by omega))
    simp only [List.length_map]
    omega
theorem qmY {P : Program} {W : World} {name : String} {g t : Nat} {tn : String} {x : DataW Unit}
    (hg : P.globalNamed name = some g) (hty : (P.globals[g]?).map (·.type) = some t) (hct : P.cellsOf t = 1) :
    ∀ {laid : List (String × DataW Unit)} {ps : List MemPlace}, DataW.LaidVars P W laid ps → (name, DataW.iface tn x) ∈ laid → (∃ ev, W.cell? ⟨g, 0, none⟩ = some ev ∧ (ev = .nilIface ∨ ∃ te pe, ev = .iface te pe)) ∧ 0 < (g0 W).pub g
  | [], _, _, hm => by cases hm
  | (nm, d) :: rest, ps, h, hm => by
    obtain ⟨g', t', cs, fuel, p, q, hg', ht', hvar, hd, hrest, _⟩ := h
    rcases List.mem_cons.1 hm with e | hm
    · cases e
      obtain rfl := Option.some.inj (hg.symm.trans hg')
      obtain rfl := Option.some.inj (hty.symm.trans ht')
      have hcs : ∃ u v, cs.toList = [.iface u v] := by
        generalize hl : cs.toList = l at hd
        cases fuel with
        | zero => simp [DataW.trod] at hd
        | succ fuel =>
          unfold DataW.trod at hd
          split at hd
          all_goals try (exact ⟨_, _, rfl⟩)
          all_goals exfalso
          all_goals try (cases hd; done)
          all_goals try (simp only [Option.map_eq_some_iff, qEw, Prod.mk.injEq, reduceCtorEq, false_and, and_false, exists_false, exists_const] at hd; done)
          all_goals try split at hd
          all_goals try (cases hd; done)
          all_goals try (simp only [Option.map_eq_some_iff, qEw, Prod.mk.injEq, reduceCtorEq, false_and, and_false, exists_false, exists_const] at hd; done)
          all_goals try split at hd
          all_goals try (cases hd; done)
          all_goals try (simp only [Option.map_eq_some_iff, qEw, Prod.mk.injEq, reduceCtorEq, false_and, and_false, exists_false, exists_const] at hd; done)
          all_goals (obtain ⟨en, _, hd⟩ := Option.bind_eq_some_iff.1 hd; simp only at hd; split at hd <;> cases hd)
      obtain ⟨u, v, hcs⟩ := hcs
      have hc1 : cs = #[.iface u v] := by rw [← Array.toList_inj]; exact hcs
      subst hc1
      have hh : ∃ T f, W.heap[g]? = some (.cells #[.iface u v] T f) := by
        simp only [World.var?, hg, Option.bind_some] at hvar
        split at hvar
        · rename_i cs' T f he
          simp only [Option.some.injEq] at hvar
          subst hvar
          exact ⟨T, f, he⟩
        · cases hvar
      obtain ⟨T, f, hh⟩ := hh
      refine ⟨⟨.iface u v, ?_, .inr ⟨u, v, rfl⟩⟩, ?_⟩
      · simp [World.cell?, hh]
      · simp [g0, hh]
    · exact qmY hg hty hct hrest hm
end W

/- The program is what the small semantics runs: the seat's table, shared by its laws. -/
set_option linter.unusedVariables false
set_option linter.unusedSimpArgs false
namespace Go.Proofs.YtdgbjjpdepdmmaaGreatDoor
open Go.ChangeShapes Go.WideShapes Go.ChangeAt Go.RowKit W
set_option maxRecDepth 100000
theorem own : ownKnob Tryz.prog.godebug = none := by kernel_rfl
theorem qwN {H : Type} : Bulk (Rows.uptoBulk (H := H)) Rows.uptoBulkAll :=
  ⟨fun _ => rfl, fun l => by cases l <;> simp [Rows.uptoBulk], rfl, fun _ _ => rfl, fun _ => rfl, rfl, fun _ _ => rfl⟩
def pg0 : W.Pg := ⟨W.prog, fun _ _ _ => none⟩
def maps : Maps := { fm := (List.range 408).map fun i => (i, i), tm := (List.range 378).map fun i => (i, i), gl := [(0, glD 0), (5, glD 5), (6, glD 6), (7, glD 7)], bk := [(141, ⟨4, true⟩), (239, ⟨6, true⟩), (240, ⟨10, true⟩)], gi := [3, 4] }
theorem qDx : kr maps Tryz.prog { loc := [12, 13], org := [(12, 12), (13, 13)], mv := [(6, 2, 0), (3, 1, 0)], bl := [], ll := [] } true Tryz.f6 = some f_waferlaw17_CheckNames := by kernel_rfl
theorem qDX : kr maps Tryz.prog { loc := [1, 2], org := [(1, 1), (2, 2), (13, 2)], mv := [(3, 6, 1)], bl := [], ll := [] } true Tryz.f8 = some qfa := by kernel_rfl
theorem qBT : kr maps Tryz.prog { loc := [2, 7], org := [(2, 2), (13, 2), (25, 2), (43, 2), (7, 7)], mv := [(13, 0, 0), (13, 3, 0), (3, 3, 0), (3, 4, 1)], bl := [(1, [2, 4, 5, 26, 27, 28]), (0, [2, 4, 5])], ll := [(0, [2, 4, 5, 26, 27, 28])] } true Tryz.f11 = some f_recheck_Check := by kernel_rfl
theorem qBM : kr maps Tryz.prog { loc := [2], org := [(2, 2)], mv := [(2, 3, 0), (2, 1, 0), (2, 2, 1), (1, 3, 0)], bl := [], ll := [] } true Tryz.f13 = some f_waferlaw17_told := by kernel_rfl
theorem qA4 : kr maps Tryz.prog { loc := [], org := [], mv := [], bl := [], ll := [] } true Tryz.f14 = some jS := by kernel_rfl
theorem qBe : kr maps Tryz.prog { loc := [], org := [], mv := [], bl := [(1, [0, 3]), (0, [])], ll := [(0, [0, 3])] } true Tryz.f15 = some jR := by kernel_rfl
theorem qB5 : kr maps Tryz.prog { loc := [2], org := [(2, 2), (10, 2), (32, 2), (39, 2), (53, 2)], mv := [(13, 0, 0), (13, 3, 0), (4, 5, 0), (3, 4, 0), (3, 2, 0), (3, 3, 1)], bl := [(1, [2, 5, 6]), (0, [2, 5])], ll := [(0, [2, 5, 6])] } true Tryz.f16 = some f_waferref17_Check := by kernel_rfl
theorem qCX : kr maps Tryz.prog { loc := [2], org := [(2, 2), (15, 2)], mv := [], bl := [], ll := [] } false Tryz.f20 = some f_recheck_Check_1 := by kernel_rfl
theorem qBB : kr maps Tryz.prog { loc := [], org := [], mv := [], bl := [], ll := [] } false Tryz.f21 = some f_recheck_must := by kernel_rfl
theorem qBq : kr maps Tryz.prog { loc := [1], org := [(1, 1), (7, 1), (12, 1), (18, 1), (24, 1), (32, 1), (38, 1), (44, 1), (50, 1), (56, 1), (61, 1), (64, 1), (67, 1), (81, 1)], mv := [(6, 3, 0), (5, 3, 0), (4, 3, 0), (1, 4, 0)], bl := [], ll := [] } true Tryz.f22 = some qdu := by kernel_rfl
theorem qBg : kr maps Tryz.prog { loc := [10], org := [(10, 10), (47, 10)], mv := [], bl := [(3, [4, 5, 6, 22, 23, 24]), (2, [4, 5, 6, 22, 23, 24]), (1, [4, 5, 6, 22, 23, 24]), (0, [5])], ll := [(0, [4, 5, 6, 22, 23, 24])], rl := [(2, [4, 5, 6, 8, 22, 23, 24])], rk := [(2, 141)] } true Tryz.f23 = some f_front_NewEnv := by kernel_rfl
theorem qAU : kr maps Tryz.prog { loc := [2, 8, 10, 12, 14, 16], org := [(2, 2), (21, 2), (25, 2), (30, 2), (37, 2), (48, 2), (60, 2), (72, 2), (84, 2), (96, 2), (108, 2), (8, 8), (68, 8), (10, 10), (80, 10), (12, 12), (92, 12), (14, 14), (104, 14), (16, 16), (116, 16)], mv := [(9, 4, 0), (9, 5, 1), (1, 3, 0)], bl := [(1, [0, 2, 4, 38, 39, 40]), (0, [2, 4]), (3, [2, 4, 61, 62, 63]), (2, [2, 4]), (5, [2, 4, 73, 74, 75]), (4, [2, 4]), (7, [2, 4, 85, 86, 87]), (6, [2, 4]), (9, [2, 4, 97, 98, 99]), (8, [2, 4]), (11, [4, 109, 110, 111]), (10, [])], ll := [(0, [0, 2, 4, 38, 39, 40]), (2, [2, 4, 61, 62, 63]), (4, [2, 4, 73, 74, 75]), (6, [2, 4, 85, 86, 87]), (8, [2, 4, 97, 98, 99]), (10, [4, 109, 110, 111])] } false Tryz.f24 = some f_recheck_checker_heads := by kernel_rfl
theorem qAE : kr maps Tryz.prog { loc := [3, 5, 10, 12], org := [(3, 3), (31, 3), (43, 3), (5, 5), (57, 5), (68, 5), (75, 5), (107, 5), (125, 5), (10, 10), (98, 10), (104, 10), (12, 12), (114, 12), (119, 12)], mv := [(11, 0, 0), (11, 1, 0)], bl := [(1, [0, 17, 18, 19]), (0, [0]), (5, [0, 5, 8, 51, 52, 53, 91, 92, 93]), (4, [0, 5, 51, 52, 53]), (7, [0, 5, 51, 52, 53, 108, 109, 110]), (6, [0, 5, 51, 52, 53]), (3, [0, 51, 52, 53]), (2, [])], ll := [(0, [0, 17, 18, 19]), (2, [0, 51, 52, 53]), (4, [0, 5, 8, 51, 52, 53, 91, 92, 93]), (6, [0, 5, 51, 52, 53, 108, 109, 110])] } false Tryz.f25 = some f_recheck_checker_records := by kernel_rfl
theorem qA5 : kr maps Tryz.prog { loc := [3, 5, 8, 10], org := [(3, 3), (22, 3), (25, 3), (26, 3), (30, 3), (31, 3), (32, 3), (5, 5), (49, 5), (8, 8), (65, 8), (80, 8), (83, 8), (10, 10), (104, 10)], mv := [], bl := [(1, [0, 15, 16, 17]), (0, [0]), (3, [0, 42, 43, 44]), (2, [0]), (5, [0, 6, 57, 58, 59]), (4, [0]), (7, [0, 90, 91, 92]), (6, [])], ll := [(0, [0, 15, 16, 17]), (2, [0, 42, 43, 44]), (4, [0, 6, 57, 58, 59]), (6, [0, 90, 91, 92])] } false Tryz.f26 = some f_recheck_checker_declared := by kernel_rfl
theorem qBA : kr maps Tryz.prog { loc := [3, 6, 9, 11], org := [(3, 3), (20, 3), (23, 3), (57, 3), (64, 3), (67, 3), (71, 3), (77, 3), (82, 3), (109, 3), (112, 3), (122, 3), (6, 6), (31, 6), (33, 6), (40, 6), (42, 6), (45, 6), (48, 6), (51, 6), (9, 9), (90, 9), (92, 9), (97, 9), (11, 11), (124, 11)], mv := [(14, 3, 0), (11, 4, 0)], bl := [(1, [0, 3, 4, 24, 25, 26]), (0, [0, 3, 4]), (3, [0, 3, 4, 83, 84, 85]), (2, [0, 3, 4]), (5, [0, 3, 113, 114, 115]), (4, [])], ll := [(0, [0, 3, 4, 24, 25, 26]), (2, [0, 3, 4, 83, 84, 85]), (4, [0, 3, 113, 114, 115])] } false Tryz.f27 = some f_recheck_checker_procedure := by kernel_rfl
theorem qB0 : kr maps Tryz.prog { loc := [5], org := [(5, 5), (17, 5)], mv := [(7, 1, 0), (7, 2, 1)], bl := [(3, [0, 8, 9, 10, 18, 19, 20]), (2, [0, 8, 9, 10]), (1, [0, 8, 9, 10]), (0, [])], ll := [(0, [0, 8, 9, 10]), (2, [0, 8, 9, 10, 18, 19, 20])] } false Tryz.f28 = some f_recheck_checker_body := by kernel_rfl
theorem qCU : kr maps Tryz.prog { loc := [5], org := [(5, 5), (21, 5)], mv := [(6, 4, 1), (6, 0, 9), (6, 3, 0), (5, 3, 1), (2, 3, 1)], bl := [(1, [2, 3, 4]), (0, [2, 3])], ll := [(0, [2, 3, 4])] } false Tryz.f33 = some f_scan_All := by kernel_rfl
theorem qBj : kr maps Tryz.prog { loc := [], org := [], mv := [(1, 3, 0), (1, 1, 0), (1, 2, 1)], bl := [], ll := [] } true Tryz.f34 = some qcz := by kernel_rfl
theorem qA0 : kr maps Tryz.prog { loc := [], org := [], mv := [(1, 1, 0)], bl := [(1, [0, 3, 4]), (0, [])], ll := [(0, [0, 3, 4])] } true Tryz.f35 = some qbf := by kernel_rfl
theorem qBc : kr maps Tryz.prog { loc := [], org := [], mv := [], bl := [(0, [])], ll := [] } true Tryz.f36 = some qaV := by kernel_rfl
theorem qCV : kr maps Tryz.prog { loc := [1], org := [(1, 1), (7, 1), (12, 1), (19, 1), (26, 1), (32, 1), (39, 1), (45, 1), (52, 1), (58, 1), (64, 1), (70, 1), (78, 1), (84, 1), (93, 1), (104, 1), (110, 1), (119, 1), (129, 1), (139, 1), (145, 1)], mv := [], bl := [(1, [1, 3]), (0, [1]), (3, [1, 4]), (2, [1]), (5, [1, 5]), (4, [1]), (7, [1, 6]), (6, [])], ll := [(0, [1, 3]), (2, [1, 4]), (4, [1, 5]), (6, [1, 6])] } true Tryz.f37 = some qaM := by kernel_rfl
theorem qBd : kr maps Tryz.prog { loc := [], org := [], mv := [(6, 7, 0), (6, 0, 0), (6, 6, 0)], bl := [(1, [0, 1, 5, 6]), (0, [5])], ll := [(0, [0, 1, 5, 6])] } true Tryz.f38 = some f_waferref17_Others := by kernel_rfl
theorem qAO : kr maps Tryz.prog { loc := [8], org := [(8, 8)], mv := [], bl := [(3, [0, 3, 4, 5, 6]), (2, [0, 3, 4, 5]), (1, [0, 3, 4, 5]), (0, [3])], ll := [(0, [0, 3, 4, 5]), (2, [0, 3, 4, 5, 6])] } true Tryz.f39 = some f_waferref11_Recs := by kernel_rfl
theorem qCB : kr maps Tryz.prog { loc := [3, 6], org := [(3, 3), (12, 3), (17, 3), (22, 3), (34, 3), (39, 3), (45, 3), (6, 6)], mv := [], bl := [(1, [0, 3, 4]), (0, [])], ll := [(0, [0, 3, 4])] } true Tryz.f40 = some f_waferref17_ctx_names := by kernel_rfl
theorem qAH : kr maps Tryz.prog { loc := [3, 5, 7], org := [(3, 3), (30, 3), (36, 3), (51, 3), (57, 3), (62, 3), (143, 3), (151, 3), (163, 3), (171, 3), (5, 5), (46, 5), (7, 7), (65, 7), (80, 7), (85, 7), (123, 7), (131, 7)], mv := [(21, 0, 0), (21, 1, 0), (20, 8, 0), (20, 0, 0), (20, 7, 0)], bl := [(1, [0, 3, 4]), (0, [0, 3]), (5, [0, 3, 6, 7, 8, 9, 11, 12]), (4, [0, 3, 6, 7, 8, 11]), (7, [0, 3, 6, 7, 15]), (6, [0, 3, 6]), (3, [0, 3, 6]), (2, [0, 3]), (9, [0, 3, 18]), (8, [0, 3]), (11, [0, 3, 21, 22]), (10, [])], ll := [(0, [0, 3, 4]), (2, [0, 3, 6]), (4, [0, 3, 6, 7, 8, 9, 11, 12]), (6, [0, 3, 6, 7, 15]), (8, [0, 3, 18]), (10, [0, 3, 21, 22])] } true Tryz.f41 = some f_waferref17_ctx_types := by kernel_rfl
theorem qB2 : kr maps Tryz.prog { loc := [3, 8, 12], org := [(3, 3), (26, 3), (32, 3), (84, 3), (90, 3), (135, 3), (140, 3), (141, 3), (144, 3), (149, 3), (156, 3), (163, 3), (168, 3), (175, 3), (182, 3), (184, 3), (8, 8), (39, 8), (47, 8), (51, 8), (57, 8), (63, 8), (71, 8), (73, 8), (79, 8), (81, 8), (12, 12), (97, 12), (108, 12), (116, 12), (118, 12)], mv := [(30, 4, 0), (27, 3, 0), (27, 9, 0), (25, 5, 0), (25, 0, 0), (25, 4, 0), (14, 5, 0), (14, 0, 0), (14, 4, 0)], bl := [(1, [0, 3, 5, 6, 7]), (0, [0, 3, 5, 6]), (3, [0, 3, 5, 6, 11]), (2, [0, 3, 5, 6])], ll := [(0, [0, 3, 5, 6, 7]), (2, [0, 3, 5, 6, 11])] } true Tryz.f42 = some f_waferref17_ctx_procedure := by kernel_rfl
theorem qBn : kr maps Tryz.prog { loc := [], org := [], mv := [], bl := [(1, [0, 1, 5]), (0, [])], ll := [(0, [0, 1, 5])] } true Tryz.f43 = some f_waferref17_ctx_body := by kernel_rfl
theorem qCq : kr maps Tryz.prog { loc := [], org := [], mv := [], bl := [], ll := [] } true Tryz.f49 = some qeu := by kernel_rfl
theorem qBL : kr maps Tryz.prog { loc := [], org := [], mv := [], bl := [], ll := [] } true Tryz.f50 = some qew := by kernel_rfl
theorem qCa : kr maps Tryz.prog { loc := [], org := [], mv := [(1, 3, 0)], bl := [], ll := [] } true Tryz.f51 = some qbJ := by kernel_rfl
theorem qCu : kr maps Tryz.prog { loc := [5], org := [(5, 5), (16, 5)], mv := [(9, 1, 0), (9, 2, 0)], bl := [(3, [3, 8, 9, 10, 17, 18, 19]), (2, [3, 8, 9, 10]), (1, [3, 8, 9, 10]), (0, [3])], ll := [(0, [3, 8, 9, 10]), (2, [3, 8, 9, 10, 17, 18, 19])] } true Tryz.f52 = some qez := by kernel_rfl
theorem qBR : kr maps Tryz.prog { loc := [4], org := [(4, 4), (15, 4), (21, 4), (28, 4), (35, 4), (40, 4)], mv := [], bl := [(1, [9, 10, 11]), (0, [])], ll := [(0, [9, 10, 11])] } true Tryz.f53 = some qbE := by kernel_rfl
theorem qC3 : kr maps Tryz.prog { loc := [], org := [], mv := [(1, 1, 0), (1, 2, 1), (1, 0, 0), (1, 2, 0)], bl := [], ll := [] } true Tryz.f54 = some zw := by kernel_rfl
theorem qCx : kr maps Tryz.prog { loc := [], org := [], mv := [(1, 0, 0), (1, 1, 0)], bl := [], ll := [] } true Tryz.f55 = some qcj := by kernel_rfl
theorem qBk : kr maps Tryz.prog { loc := [], org := [], mv := [(1, 1, 0), (1, 2, 1), (1, 0, 0), (1, 2, 0)], bl := [], ll := [] } true Tryz.f56 = some kN := by kernel_rfl
theorem qCC : kr maps Tryz.prog { loc := [1], org := [(1, 1), (3, 1), (8, 1)], mv := [], bl := [], ll := [] } true Tryz.f57 = some qct := by kernel_rfl
theorem qBH : kr maps Tryz.prog { loc := [1], org := [(1, 1)], mv := [], bl := [], ll := [] } true Tryz.f58 = some qcb := by kernel_rfl
theorem qCN : kr maps Tryz.prog { loc := [], org := [], mv := [(1, 1, 0), (1, 2, 1), (1, 0, 0), (1, 2, 0)], bl := [], ll := [] } true Tryz.f59 = some zk := by kernel_rfl
theorem qBa : kr maps Tryz.prog { loc := [1], org := [(1, 1), (3, 1), (8, 1), (14, 1)], mv := [], bl := [], ll := [] } true Tryz.f60 = some qcq := by kernel_rfl
theorem qBJ : kr maps Tryz.prog { loc := [], org := [], mv := [(1, 1, 0), (1, 2, 1), (1, 0, 0), (1, 2, 0)], bl := [], ll := [] } true Tryz.f61 = some kX := by kernel_rfl
theorem qCL : kr maps Tryz.prog { loc := [1], org := [(1, 1)], mv := [], bl := [], ll := [] } true Tryz.f62 = some qca := by kernel_rfl
theorem qAF : kr maps Tryz.prog { loc := [1], org := [(1, 1), (3, 1), (8, 1), (15, 1), (22, 1), (28, 1), (33, 1), (36, 1), (41, 1), (46, 1)], mv := [], bl := [], ll := [] } true Tryz.f63 = some qbu := by kernel_rfl
theorem qA6 : kr maps Tryz.prog { loc := [], org := [], mv := [], bl := [], ll := [] } true Tryz.f64 = some f_slices_Backward___api_Rec_api_Rec_ := by kernel_rfl
theorem qB7 : kr maps Tryz.prog { loc := [], org := [], mv := [(0, 0, 0), (0, 1, 0)], bl := [], ll := [] } false Tryz.f65 = some f_recheck_name := by kernel_rfl
theorem qCo : kr maps Tryz.prog { loc := [], org := [], mv := [(0, 2, 0)], bl := [], ll := [] } false Tryz.f66 = some f_recheck_checker_heads_1 := by kernel_rfl
theorem qBx : kr maps Tryz.prog { loc := [10, 12], org := [(10, 10), (61, 10), (69, 10), (72, 10), (12, 12), (79, 12), (87, 12)], mv := [], bl := [(1, [2, 3, 4, 5, 6, 26, 27, 28]), (0, [2, 3, 4, 5, 6]), (3, [2, 3, 4, 5, 6]), (2, [2, 3, 4, 5, 6]), (5, [6]), (4, [6])], ll := [(0, [2, 3, 4, 5, 6, 26, 27, 28])], rl := [(2, [2, 3, 4, 5, 6]), (4, [2, 3, 4, 6])], rk := [(2, 239), (4, 240)] } true Tryz.f67 = some f_front_Env_Import := by kernel_rfl
theorem qCn : kr maps Tryz.prog { loc := [], org := [], mv := [], bl := [], ll := [] } true Tryz.f68 = some f_recheck_checker_own := by kernel_rfl
theorem qCw : kr maps Tryz.prog { loc := [10, 12], org := [(10, 10), (25, 10), (12, 12), (32, 12), (35, 12)], mv := [(11, 4, 1), (11, 0, 9), (11, 3, 0), (10, 4, 1), (5, 0, 0), (5, 1, 0), (1, 1, 0), (1, 2, 1), (1, 0, 0), (1, 2, 0)], bl := [(3, [8, 26, 27, 28]), (2, [8]), (1, [8]), (0, [8])], ll := [(2, [8, 26, 27, 28])], rl := [(0, [4, 5, 8])], rk := [(0, 141)] } false Tryz.f69 = some f_types_Fields := by kernel_rfl
theorem qBp : kr maps Tryz.prog { loc := [3], org := [(3, 3)], mv := [(4, 0, 0), (4, 1, 0)], bl := [], ll := [] } true Tryz.f70 = some f_recheck_checker_typ := by kernel_rfl
theorem qA2 : kr maps Tryz.prog { loc := [3, 5, 7, 8], org := [(3, 3), (10, 3), (13, 3), (22, 3), (33, 3), (44, 3), (93, 3), (94, 3), (100, 3), (109, 3), (114, 3), (119, 3), (138, 3), (143, 3), (51, 3), (53, 3), (60, 3), (5, 5), (7, 7), (8, 8)], mv := [(26, 0, 0), (26, 2, 0), (24, 0, 0), (24, 2, 0), (19, 0, 0), (19, 2, 0), (17, 0, 0), (17, 2, 0), (2, 4, 0)], bl := [(1, [0, 23, 24, 25]), (0, []), (3, [0, 3, 34, 35, 36]), (2, [0, 3]), (4, [])], ll := [(0, [0, 23, 24, 25]), (2, [0, 3, 34, 35, 36])] } false Tryz.f71 = some f_recheck_checker_expr := by kernel_rfl
theorem qBN : kr maps Tryz.prog { loc := [], org := [], mv := [(0, 0, 0), (0, 1, 0)], bl := [], ll := [] } false Tryz.f72 = some f_recheck_typed := by kernel_rfl
theorem qCW : kr maps Tryz.prog { loc := [5, 6], org := [(5, 5), (6, 6)], mv := [(2, 2, 0)], bl := [], ll := [] } false Tryz.f73 = some f_recheck_checker_local := by kernel_rfl
theorem qBD : kr maps Tryz.prog { loc := [1], org := [(1, 1)], mv := [(1, 3, 0)], bl := [], ll := [] } true Tryz.f74 = some f_front_Plain := by kernel_rfl
theorem qAP : kr maps Tryz.prog { loc := [2, 3], org := [(2, 2), (3, 3)], mv := [(1, 5, 0)], bl := [], ll := [] } true Tryz.f75 = some f_recheck_same := by kernel_rfl
theorem qCi : kr maps Tryz.prog { loc := [3, 4, 6], org := [(3, 3), (7, 3), (17, 3), (23, 3), (28, 3), (38, 3), (49, 3), (54, 3), (65, 3), (98, 3), (101, 3), (106, 3), (109, 3), (116, 3), (128, 3), (131, 3), (4, 4), (69, 4), (73, 4), (74, 4), (79, 4), (6, 6)], mv := [(2, 0, 0), (2, 2, 0), (30, 0, 0), (30, 2, 0), (28, 0, 0), (28, 2, 0), (26, 0, 0), (26, 2, 0), (22, 0, 0), (22, 2, 0), (19, 0, 0), (19, 2, 0), (17, 0, 0), (17, 2, 0), (7, 5, 0)], bl := [(2, [0, 4, 80, 81, 82]), (1, [0, 4]), (0, [])], ll := [(1, [0, 4, 80, 81, 82])] } false Tryz.f77 = some f_recheck_checker_stmt := by kernel_rfl
theorem qCr : kr maps Tryz.prog { loc := [3], org := [(3, 3), (16, 3)], mv := [(5, 4, 1)], bl := [], ll := [] } false Tryz.f82 = some f_scan_All_1 := by kernel_rfl
theorem qBE : kr maps Tryz.prog { loc := [2, 4], org := [(2, 2), (4, 4), (61, 4), (62, 4)], mv := [(4, 2, 1), (12, 2, 1), (11, 2, 0), (10, 2, 1), (9, 10, 0), (8, 2, 1), (7, 10, 0)], bl := [(0, [0, 2, 3, 4])], ll := [] } true Tryz.f83 = some f_scan_scanner_next := by kernel_rfl
theorem qCb : kr maps Tryz.prog { loc := [], org := [], mv := [(1, 1, 0), (1, 2, 1), (1, 0, 0), (1, 2, 0)], bl := [], ll := [] } true Tryz.f84 = some f_slices_Contains___string_string_ := by kernel_rfl
theorem qAL : kr maps Tryz.prog { loc := [], org := [], mv := [(14, 2, 0), (13, 2, 0), (13, 0, 0), (13, 1, 0), (9, 4, 0)], bl := [(1, [0, 3, 4, 5, 6]), (0, [0, 3, 5]), (3, [0, 9, 10, 12]), (2, [0, 9, 10, 12]), (7, [0, 9, 10, 12]), (6, [0, 9, 10, 12]), (5, [0, 9, 10, 11, 12]), (4, [0, 9, 10, 11])], ll := [(0, [0, 3, 4, 5, 6]), (2, [0, 9, 10, 12]), (4, [0, 9, 10, 11, 12]), (6, [0, 9, 10, 12])] } true Tryz.f85 = some qfU := by kernel_rfl
theorem qCE : kr maps Tryz.prog { loc := [], org := [], mv := [(1, 1, 0)], bl := [], ll := [] } true Tryz.f86 = some qaZ := by kernel_rfl
theorem qCv : kr maps Tryz.prog { loc := [], org := [], mv := [], bl := [], ll := [] } true Tryz.f87 = some qbw := by kernel_rfl
theorem qB8 : kr maps Tryz.prog { loc := [], org := [], mv := [], bl := [(1, [0, 3]), (0, [])], ll := [(0, [0, 3])] } true Tryz.f88 = some yB := by kernel_rfl
theorem qCJ : kr maps Tryz.prog { loc := [], org := [], mv := [], bl := [(3, [0, 3, 4, 5]), (2, [0, 3, 4]), (1, [0, 3, 4]), (0, [3])], ll := [(0, [0, 3, 4]), (2, [0, 3, 4, 5])] } true Tryz.f89 = some qbc := by kernel_rfl
theorem qA9 : kr maps Tryz.prog { loc := [], org := [], mv := [], bl := [(3, [0, 3, 4]), (2, [0, 3]), (1, [0, 3]), (0, [])], ll := [(0, [0, 3]), (2, [0, 3, 4])] } true Tryz.f90 = some yC := by kernel_rfl
theorem qAX : kr maps Tryz.prog { loc := [], org := [], mv := [], bl := [(1, [0, 3]), (0, [])], ll := [(0, [0, 3])] } true Tryz.f91 = some yb := by kernel_rfl
theorem qCZ : kr maps Tryz.prog { loc := [1], org := [(1, 1), (4, 1), (9, 1), (16, 1), (22, 1), (28, 1), (34, 1), (40, 1), (46, 1), (52, 1), (61, 1)], mv := [], bl := [(1, [1, 3]), (0, [])], ll := [(0, [1, 3])] } true Tryz.f92 = some yi := by kernel_rfl
theorem qB9 : kr maps Tryz.prog { loc := [], org := [], mv := [], bl := [(1, [0, 3, 4]), (0, [])], ll := [(0, [0, 3, 4])] } true Tryz.f93 = some f_waferref17_once := by kernel_rfl
theorem qCR : kr maps Tryz.prog { loc := [1], org := [(1, 1), (9, 1), (13, 1), (20, 1), (29, 1), (36, 1), (45, 1), (52, 1), (61, 1), (68, 1), (77, 1), (84, 1)], mv := [(21, 9, 0), (21, 0, 0), (21, 8, 0), (17, 9, 0), (17, 0, 0), (17, 8, 0), (13, 9, 0), (13, 0, 0), (13, 8, 0), (9, 9, 0), (9, 0, 0), (9, 8, 0), (5, 9, 0), (5, 0, 0), (5, 8, 0), (1, 3, 0)], bl := [(1, [1, 3, 4]), (0, [1, 3]), (3, [1, 3, 5]), (2, [1, 3]), (5, [1, 3, 6]), (4, [1, 3]), (7, [1, 3, 7]), (6, [1, 3]), (9, [1, 3, 8]), (8, [3])], ll := [(0, [1, 3, 4]), (2, [1, 3, 5]), (4, [1, 3, 6]), (6, [1, 3, 7]), (8, [1, 3, 8])] } true Tryz.f94 = some f_waferref17_all := by kernel_rfl
theorem qBP : kr maps Tryz.prog { loc := [2], org := [(2, 2), (7, 2), (13, 2)], mv := [], bl := [(1, [1, 2, 5]), (0, [])], ll := [(0, [1, 2, 5])] } true Tryz.f95 = some f_waferref17_imported := by kernel_rfl
theorem qBm : kr maps Tryz.prog { loc := [4], org := [(4, 4)], mv := [], bl := [(1, [0, 1, 4, 6]), (0, [4])], ll := [(0, [0, 1, 4, 6])] } false Tryz.f96 = some f_waferref17_module := by kernel_rfl
theorem qBI : kr maps Tryz.prog { loc := [1], org := [(1, 1), (4, 1), (8, 1), (14, 1), (16, 1), (17, 1), (23, 1), (24, 1), (29, 1), (34, 1), (38, 1), (43, 1), (49, 1), (53, 1), (57, 1), (64, 1), (68, 1), (74, 1), (78, 1), (84, 1), (90, 1), (96, 1)], mv := [], bl := [(2, [1, 3]), (1, []), (0, [])], ll := [(1, [1, 3])] } true Tryz.f97 = some f_waferref17_RightLit := by kernel_rfl
theorem qCd : kr maps Tryz.prog { loc := [2], org := [(2, 2), (5, 2)], mv := [], bl := [], ll := [] } true Tryz.f98 = some f_waferref17_is := by kernel_rfl
theorem qAQ : kr maps Tryz.prog { loc := [], org := [], mv := [(1, 0, 0), (1, 4, 0)], bl := [], ll := [] } false Tryz.f99 = some f_waferref11_Fields := by kernel_rfl
theorem qAx : kr maps Tryz.prog { loc := [2], org := [(2, 2)], mv := [(1, 1, 0), (1, 3, 1)], bl := [], ll := [] } false Tryz.f101 = some f_waferref11_Words := by kernel_rfl
theorem qyf : kr maps Tryz.prog { loc := [2], org := [(2, 2)], mv := [], bl := [], ll := [] } true Tryz.f102 = some f_waferref17_record := by kernel_rfl
theorem qzn : kr maps Tryz.prog { loc := [3, 6, 6], org := [(3, 3), (6, 6), (15, 6), (19, 6), (24, 6), (28, 6), (11, 6)], mv := [], bl := [(1, [0, 3, 6]), (0, [0, 3])], ll := [(0, [0, 3, 6])] } false Tryz.f103 = some f_waferref17_ctx_known := by kernel_rfl
theorem qzA : kr maps Tryz.prog { loc := [1], org := [(1, 1), (3, 1), (7, 1), (12, 1)], mv := [], bl := [], ll := [] } true Tryz.f104 = some f_waferref11_Scalar := by kernel_rfl
theorem qAf : kr maps Tryz.prog { loc := [2, 3], org := [(2, 2), (6, 2), (12, 2), (19, 2), (26, 2), (35, 2), (41, 2), (3, 3), (8, 3), (14, 3), (21, 3), (29, 3), (46, 3)], mv := [], bl := [(1, [2, 3, 5]), (0, [])], ll := [(0, [2, 3, 5])] } true Tryz.f105 = some f_waferref11_Alike := by kernel_rfl
theorem qz1 : kr maps Tryz.prog { loc := [], org := [], mv := [(1, 1, 0), (1, 2, 1), (1, 0, 0), (1, 2, 0)], bl := [], ll := [] } true Tryz.f125 = some zj := by kernel_rfl
theorem qy3 : kr maps Tryz.prog { loc := [1], org := [(1, 1), (3, 1), (8, 1)], mv := [], bl := [], ll := [] } true Tryz.f126 = some qaS := by kernel_rfl
theorem qy1 : kr maps Tryz.prog { loc := [2], org := [(2, 2), (8, 2), (13, 2), (19, 2)], mv := [], bl := [], ll := [] } true Tryz.f127 = some qbx := by kernel_rfl
theorem qzY : kr maps Tryz.prog { loc := [], org := [], mv := [(1, 1, 0), (1, 2, 1), (1, 0, 0), (1, 2, 0)], bl := [], ll := [] } true Tryz.f128 = some kW := by kernel_rfl
theorem qy6 : kr maps Tryz.prog { loc := [1], org := [(1, 1)], mv := [], bl := [], ll := [] } true Tryz.f129 = some qff := by kernel_rfl
theorem qyn : kr maps Tryz.prog { loc := [], org := [], mv := [(1, 1, 0), (1, 2, 1), (1, 0, 0), (1, 2, 0)], bl := [], ll := [] } true Tryz.f130 = some jZ := by kernel_rfl
theorem qyt : kr maps Tryz.prog { loc := [], org := [], mv := [], bl := [(1, [0, 1, 7, 8]), (0, [])], ll := [(0, [0, 1, 7, 8])] } true Tryz.f132 = some zL := by kernel_rfl
theorem qzO : kr maps Tryz.prog { loc := [], org := [], mv := [], bl := [(1, [0, 1, 7, 8]), (0, [])], ll := [(0, [0, 1, 7, 8])] } true Tryz.f133 = some za := by kernel_rfl
theorem qzs : kr maps Tryz.prog { loc := [1, 5], org := [(1, 1), (6, 1), (5, 5)], mv := [], bl := [(1, [3, 7, 8, 9]), (0, [3])], ll := [(0, [3, 7, 8, 9])] } true Tryz.f134 = some qdB := by kernel_rfl
theorem qy8 : kr maps Tryz.prog { loc := [1], org := [(1, 1), (3, 1), (8, 1), (13, 1), (19, 1)], mv := [], bl := [], ll := [] } true Tryz.f135 = some qbA := by kernel_rfl
theorem qyo : kr maps Tryz.prog { loc := [], org := [], mv := [], bl := [(1, [0, 1, 7, 8]), (0, [])], ll := [(0, [0, 1, 7, 8])] } true Tryz.f136 = some zD := by kernel_rfl
theorem qyE : kr maps Tryz.prog { loc := [], org := [], mv := [], bl := [(1, [0, 1, 7, 8]), (0, [])], ll := [(0, [0, 1, 7, 8])] } true Tryz.f137 = some zp := by kernel_rfl
theorem qyL : kr maps Tryz.prog { loc := [], org := [], mv := [(1, 1, 0), (1, 2, 1), (1, 0, 0), (1, 2, 0)], bl := [], ll := [] } true Tryz.f138 = some kP := by kernel_rfl
theorem qyI : kr maps Tryz.prog { loc := [1], org := [(1, 1), (3, 1), (8, 1)], mv := [], bl := [], ll := [] } true Tryz.f139 = some qaQ := by kernel_rfl
theorem qzq : kr maps Tryz.prog { loc := [8], org := [(8, 8), (32, 8)], mv := [(8, 4, 0), (8, 0, 0), (8, 3, 0)], bl := [(1, [0, 1, 6, 7]), (0, [6])], ll := [(0, [0, 1, 6, 7])] } false Tryz.f145 = some f_types_chain := by kernel_rfl
theorem qzh : kr maps Tryz.prog { loc := [1, 2, 3, 5], org := [(1, 1), (8, 1), (2, 2), (3, 3), (7, 3), (15, 3), (21, 3), (5, 5)], mv := [(6, 7, 1), (6, 1, 9), (6, 5, 0)], bl := [(1, [2, 3, 9, 10, 11]), (0, [2, 3])], ll := [(0, [2, 3, 9, 10, 11])] } true Tryz.f146 = some f_types_Clone := by kernel_rfl
theorem qys : kr maps Tryz.prog { loc := [1], org := [(1, 1), (4, 1), (7, 1), (11, 1), (16, 1), (22, 1), (25, 1), (29, 1), (34, 1), (39, 1), (45, 1), (52, 1), (56, 1), (60, 1), (64, 1), (69, 1)], mv := [(1, 3, 0)], bl := [(0, [])], ll := [] } true Tryz.f147 = some f_types_Right := by kernel_rfl
theorem qy7 : kr maps Tryz.prog { loc := [3], org := [(3, 3), (5, 3), (9, 3), (21, 3)], mv := [], bl := [(0, [])], ll := [] } true Tryz.f148 = some f_front_Env_Named := by kernel_rfl
theorem qzm : kr maps Tryz.prog { loc := [2], org := [(2, 2)], mv := [(2, 3, 0), (2, 0, 0), (2, 2, 0)], bl := [], ll := [] } false Tryz.f149 = some f_types_Words := by kernel_rfl
theorem qzg : kr maps Tryz.prog { loc := [2], org := [(2, 2)], mv := [], bl := [], ll := [] } true Tryz.f150 = some f_types_Basic := by kernel_rfl
theorem qzB : kr maps Tryz.prog { loc := [3], org := [(3, 3), (9, 3), (16, 3)], mv := [], bl := [], ll := [] } true Tryz.f151 = some f_recheck_bare := by kernel_rfl
theorem qze : kr maps Tryz.prog { loc := [3], org := [(3, 3), (6, 3), (7, 3), (9, 3), (15, 3), (41, 3), (45, 3), (52, 3), (56, 3), (63, 3), (69, 3), (75, 3)], mv := [(2, 5, 0)], bl := [(2, [3, 65, 66]), (1, []), (0, [])], ll := [(1, [3, 65, 66])] } false Tryz.f153 = some f_recheck_checker_lit := by kernel_rfl
theorem qyC : kr maps Tryz.prog { loc := [3, 4], org := [(3, 3), (11, 3), (16, 3), (27, 3), (34, 3), (39, 3), (4, 4)], mv := [(5, 4, 0), (4, 0, 0), (4, 1, 0)], bl := [], ll := [] } false Tryz.f154 = some f_recheck_checker_name := by kernel_rfl
theorem qzZ : kr maps Tryz.prog { loc := [2], org := [(2, 2), (6, 2)], mv := [(1, 4, 0), (1, 0, 0), (1, 3, 0)], bl := [], ll := [] } true Tryz.f159 = some f_front_form := by kernel_rfl
theorem qzK : kr maps Tryz.prog { loc := [2, 3], org := [(2, 2), (5, 2), (11, 2), (18, 2), (25, 2), (32, 2), (3, 3), (7, 3), (13, 3), (20, 3), (27, 3), (34, 3)], mv := [], bl := [], ll := [] } true Tryz.f160 = some f_tree_SameExpr := by kernel_rfl
theorem qz2 : kr maps Tryz.prog { loc := [], org := [], mv := [], bl := [], ll := [] } true Tryz.f162 = some f_types_plain := by kernel_rfl
theorem qzU : kr maps Tryz.prog { loc := [3, 5], org := [(3, 3), (6, 3), (10, 3), (15, 3), (21, 3), (28, 3), (39, 3), (49, 3), (5, 5)], mv := [], bl := [(0, [0, 3]), (2, [0, 3, 50, 51, 52]), (1, [0, 3])], ll := [(1, [0, 3, 50, 51, 52])] } false Tryz.f171 = some f_recheck_checker_standard := by kernel_rfl
theorem qyW : kr maps Tryz.prog { loc := [2], org := [(2, 2)], mv := [], bl := [], ll := [] } true Tryz.f172 = some f_waferref11_Basic := by kernel_rfl
theorem qzc : kr maps Tryz.prog { loc := [], org := [], mv := [(13, 0, 0), (13, 1, 0), (2, 2, 0)], bl := [(2, [0, 2, 3]), (1, [0, 2, 3]), (0, [2, 3])], ll := [(0, [0, 2, 3])] } false Tryz.f173 = some qat := by kernel_rfl
theorem qAq : kr maps Tryz.prog { loc := [], org := [], mv := [], bl := [], ll := [] } true Tryz.f174 = some qej := by kernel_rfl
theorem qyd : kr maps Tryz.prog { loc := [2], org := [(2, 2)], mv := [(5, 3, 0), (4, 0, 0), (4, 1, 0), (2, 2, 0), (2, 0, 0), (2, 1, 0)], bl := [(0, [2, 4])], ll := [] } true Tryz.f175 = some yF := by kernel_rfl
theorem qzL : kr maps Tryz.prog { loc := [], org := [], mv := [], bl := [], ll := [] } true Tryz.f176 = some qeY := by kernel_rfl
theorem qyV : kr maps Tryz.prog { loc := [2], org := [(2, 2)], mv := [(12, 0, 0), (12, 1, 0), (10, 2, 0), (10, 3, 2), (10, 1, 0), (10, 3, 1), (10, 0, 0), (10, 3, 0), (7, 2, 0), (4, 2, 0), (2, 2, 0)], bl := [(0, [2, 3, 4, 5, 6, 7])], ll := [] } true Tryz.f177 = some zT := by kernel_rfl
theorem qzz : kr maps Tryz.prog { loc := [], org := [], mv := [(1, 11, 0), (1, 9, 0), (1, 10, 1)], bl := [], ll := [] } true Tryz.f178 = some qbS := by kernel_rfl
theorem qAb : kr maps Tryz.prog { loc := [2], org := [(2, 2)], mv := [(7, 0, 0), (7, 1, 0), (5, 0, 0), (5, 1, 0), (3, 2, 0)], bl := [(0, [0, 2, 4])], ll := [] } true Tryz.f179 = some yG := by kernel_rfl
theorem qyD : kr maps Tryz.prog { loc := [2], org := [(2, 2)], mv := [], bl := [(1, [0, 2, 5, 6, 7]), (0, [0, 2])], ll := [(0, [0, 2, 5, 6, 7])], cp := [9] } true Tryz.f180 = some jn := by kernel_rfl
theorem qyi : kr maps Tryz.prog { loc := [], org := [], mv := [], bl := [(1, [0, 1, 7, 8]), (0, [])], ll := [(0, [0, 1, 7, 8])] } true Tryz.f181 = some f_slices_Index___string_string_ := by kernel_rfl
theorem qAl : kr maps Tryz.prog { loc := [2], org := [(2, 2), (9, 2), (15, 2), (22, 2), (28, 2)], mv := [], bl := [(1, [1, 2, 5]), (0, [])], ll := [(0, [1, 2, 5])] } true Tryz.f184 = some yy := by kernel_rfl
theorem qzM : kr maps Tryz.prog { loc := [1], org := [(1, 1), (6, 1), (13, 1)], mv := [], bl := [(1, [1, 3, 4]), (0, [3])], ll := [(0, [1, 3, 4])] } true Tryz.f185 = some qaO := by kernel_rfl
theorem qy4 : kr maps Tryz.prog { loc := [1], org := [(1, 1), (4, 1), (9, 1), (16, 1), (22, 1), (28, 1)], mv := [], bl := [(1, [1, 3]), (0, [])], ll := [(0, [1, 3])] } true Tryz.f186 = some yj := by kernel_rfl
theorem qzy : kr maps Tryz.prog { loc := [2], org := [(2, 2)], mv := [(1, 2, 1), (1, 0, 0), (1, 1, 0)], bl := [], ll := [] } true Tryz.f187 = some f_waferref17_basic := by kernel_rfl
theorem qym : kr maps Tryz.prog { loc := [8], org := [(8, 8), (23, 8), (27, 8), (43, 8)], mv := [(9, 9, 0), (9, 8, 0), (6, 2, 0), (6, 5, 1)], bl := [], ll := [] } false Tryz.f188 = some f_waferref11_fields := by kernel_rfl
theorem qz4 : kr maps Tryz.prog { loc := [3], org := [(3, 3), (21, 3), (26, 3), (39, 3), (45, 3), (52, 3), (63, 3), (66, 3), (99, 3)], mv := [(5, 5, 0), (5, 6, 2), (5, 4, 0), (5, 6, 1)], bl := [(2, [1, 2, 3, 12, 14, 15]), (1, [2, 3, 14]), (0, [])], ll := [(1, [1, 2, 3, 12, 14, 15])] } false Tryz.f191 = some f_waferref11_words := by kernel_rfl
theorem qAC : kr maps Tryz.prog { loc := [1], org := [(1, 1), (3, 1), (10, 1), (14, 1), (19, 1), (26, 1), (30, 1), (35, 1), (40, 1), (46, 1), (55, 1), (59, 1), (64, 1)], mv := [], bl := [(0, [])], ll := [] } true Tryz.f192 = some f_waferref11_Right := by kernel_rfl
theorem qzQ : kr maps Tryz.prog { loc := [], org := [], mv := [], bl := [(1, [0, 1, 7, 8]), (0, [])], ll := [(0, [0, 1, 7, 8])] } true Tryz.f230 = some zE := by kernel_rfl
theorem qAc : kr maps Tryz.prog { loc := [], org := [], mv := [(1, 1, 0), (1, 2, 1), (1, 0, 0), (1, 2, 0)], bl := [], ll := [] } true Tryz.f231 = some f_slices_ContainsFunc___api_Type_api_Type_ := by kernel_rfl
theorem qyk : kr maps Tryz.prog { loc := [], org := [], mv := [], bl := [(1, [0, 1, 7, 8]), (0, [])], ll := [(0, [0, 1, 7, 8])] } true Tryz.f233 = some zq := by kernel_rfl
theorem qAa : kr maps Tryz.prog { loc := [], org := [], mv := [], bl := [(1, [0, 1, 7, 8]), (0, [])], ll := [(0, [0, 1, 7, 8])] } true Tryz.f234 = some yf := by kernel_rfl
theorem qzw : kr maps Tryz.prog { loc := [], org := [], mv := [], bl := [(1, [0, 1, 7, 8]), (0, [])], ll := [(0, [0, 1, 7, 8])] } true Tryz.f236 = some k9 := by kernel_rfl
theorem qAB : kr maps Tryz.prog { loc := [3], org := [(3, 3), (11, 3), (15, 3), (24, 3), (30, 3), (34, 3), (38, 3)], mv := [(9, 4, 0), (9, 0, 0), (9, 3, 0), (4, 6, 0), (4, 0, 0), (4, 5, 0)], bl := [(0, [])], ll := [] } true Tryz.f242 = some f_types_sizes_words := by kernel_rfl
theorem qzo : kr maps Tryz.prog { loc := [], org := [], mv := [(1, 1, 0), (1, 2, 1), (1, 0, 0), (1, 2, 0)], bl := [], ll := [] } true Tryz.f244 = some f_strings_Contains := by kernel_rfl
theorem qyg : kr maps Tryz.prog { loc := [], org := [], mv := [(1, 1, 0), (1, 2, 1), (1, 0, 0), (1, 2, 0)], bl := [], ll := [] } true Tryz.f251 = some f_slices_Contains___int_int_ := by kernel_rfl
theorem qyF : kr maps Tryz.prog { loc := [2, 3], org := [(2, 2), (5, 2), (11, 2), (18, 2), (25, 2), (3, 3), (7, 3), (13, 3), (20, 3), (27, 3)], mv := [], bl := [], ll := [] } true Tryz.f252 = some f_tree_sameType := by kernel_rfl
theorem qAn : kr maps Tryz.prog { loc := [8, 9], org := [(8, 8), (9, 9)], mv := [], bl := [(1, [1, 2, 15, 16, 17]), (0, [])], ll := [(0, [1, 2, 15, 16, 17])] } true Tryz.f253 = some f_slices_EqualFunc___api_Expr___api_Expr_api_Expr_api_Expr_ := by kernel_rfl
theorem qy0 : kr maps Tryz.prog { loc := [8, 9], org := [(8, 8), (9, 9)], mv := [], bl := [(1, [1, 2, 15, 16, 17]), (0, [])], ll := [(0, [1, 2, 15, 16, 17])] } true Tryz.f254 = some f_slices_EqualFunc___api_Type___api_Type_api_Type_api_Type_ := by kernel_rfl
theorem qzk : kr maps Tryz.prog { loc := [], org := [], mv := [(1, 3, 0), (1, 1, 0), (1, 2, 1), (1, 0, 0), (1, 2, 0)], bl := [], ll := [] } true Tryz.f255 = some qbo := by kernel_rfl
theorem qyJ : kr maps Tryz.prog { loc := [3], org := [(3, 3), (9, 3), (12, 3), (17, 3), (24, 3), (33, 3), (41, 3), (46, 3), (55, 3), (62, 3), (78, 3)], mv := [(4, 14, 0)], bl := [(1, [3, 71, 72, 73]), (0, [])], ll := [(0, [3, 71, 72, 73])] } true Tryz.f256 = some f_front_Env_Right := by kernel_rfl
theorem qAu : kr maps Tryz.prog { loc := [], org := [], mv := [], bl := [], ll := [] } false Tryz.f258 = some qfz := by kernel_rfl
theorem qzi : kr maps Tryz.prog { loc := [], org := [], mv := [], bl := [(1, [0, 1, 5]), (0, [0, 5])], ll := [(0, [0, 1, 5])] } true Tryz.f259 = some qbb := by kernel_rfl
theorem qyO : kr maps Tryz.prog { loc := [], org := [], mv := [(1, 2, 0)], bl := [], ll := [] } true Tryz.f260 = some qeV := by kernel_rfl
theorem qyr : kr maps Tryz.prog { loc := [], org := [], mv := [(1, 1, 0)], bl := [], ll := [] } true Tryz.f261 = some qgF := by kernel_rfl
theorem qye : kr maps Tryz.prog { loc := [], org := [], mv := [(1, 2, 0)], bl := [], ll := [] } true Tryz.f262 = some qgs := by kernel_rfl
theorem qyz : kr maps Tryz.prog { loc := [], org := [], mv := [(3, 7, 0), (3, 4, 0), (3, 5, 4), (3, 3, 0), (3, 5, 3), (3, 2, 0), (3, 5, 2), (3, 1, 0), (3, 5, 1)], bl := [], ll := [] } false Tryz.f263 = some qas := by kernel_rfl
theorem qza : kr maps Tryz.prog { loc := [], org := [], mv := [], bl := [], ll := [] } true Tryz.f264 = some qa1 := by kernel_rfl
theorem qyX : kr maps Tryz.prog { loc := [], org := [], mv := [], bl := [(1, [0, 1, 7, 8]), (0, [])], ll := [(0, [0, 1, 7, 8])] } true Tryz.f292 = some f_slices_IndexFunc___api_Type_api_Type_ := by kernel_rfl
theorem qzu : kr maps Tryz.prog { loc := [11, 13], org := [(11, 11), (48, 11), (13, 13), (56, 13)], mv := [(15, 4, 0)], bl := [(3, [0, 1, 9, 42, 43, 44, 49, 50, 51]), (2, [0, 1, 9, 42, 43, 44]), (1, [0, 1, 9, 42, 43, 44]), (0, [0, 1, 9])], ll := [(0, [0, 1, 9, 42, 43, 44]), (2, [0, 1, 9, 42, 43, 44, 49, 50, 51])] } true Tryz.f293 = some f_types_sizes_record := by kernel_rfl
theorem qAt : kr maps Tryz.prog { loc := [], org := [], mv := [(1, 3, 0), (1, 1, 0), (1, 2, 1), (1, 0, 0), (1, 2, 0)], bl := [], ll := [] } true Tryz.f294 = some f_strings_Index := by kernel_rfl
theorem qAv : kr maps Tryz.prog { loc := [], org := [], mv := [], bl := [(1, [0, 1, 7, 8]), (0, [])], ll := [(0, [0, 1, 7, 8])] } true Tryz.f298 = some f_slices_Index___int_int_ := by kernel_rfl
theorem qAz : kr maps Tryz.prog { loc := [], org := [], mv := [], bl := [], ll := [] } true Tryz.f299 = some z6 := by kernel_rfl
theorem qyU : kr maps Tryz.prog { loc := [], org := [], mv := [(17, 1, 0), (15, 1, 0), (13, 1, 0), (11, 1, 0), (9, 1, 0), (7, 1, 0), (4, 1, 0)], bl := [(0, [])], ll := [] } false Tryz.f301 = some f_front_forms := by kernel_rfl
theorem qz7 : kr maps Tryz.prog { loc := [], org := [], mv := [(45, 0, 0), (45, 1, 0)], bl := [(1, [0, 1, 2, 8, 9]), (0, [0, 1, 2, 8, 9]), (2, [0, 1, 2, 8, 9, 10]), (5, [1, 8, 9, 10, 11, 12, 13, 16, 99, 100, 101]), (4, [1, 8, 9, 10, 11, 12, 13, 99, 100, 101]), (3, [9, 12, 13])], ll := [(3, [1, 8, 9, 10, 11, 12, 13, 99, 100, 101])] } false Tryz.f303 = some zZ := by kernel_rfl
theorem qyy : kr maps Tryz.prog { loc := [], org := [], mv := [(31, 5, 0), (31, 3, 0), (31, 4, 1), (26, 3, 0), (26, 4, 1), (17, 7, 0), (9, 1, 0), (9, 2, 1), (9, 0, 0), (9, 2, 0), (5, 4, 0), (5, 0, 0), (5, 3, 0)], bl := [(0, [0, 1, 5]), (2, [0, 1, 5, 6, 7, 8, 9, 10]), (1, [])], ll := [(1, [0, 1, 5, 6, 7, 8, 9, 10])] } true Tryz.f322 = some f_internal_stringslite_Index := by kernel_rfl
theorem qyS : kr maps Tryz.prog { loc := [], org := [], mv := [], bl := [], ll := [] } true Tryz.f324 = some y2 := by kernel_rfl
theorem qDR : qCQ Tryz.prog maps pg0 := by
  intro f' i hl fn' hf
  have e : f' = i := qhx hl
  subst e
  show FOk Tryz.prog maps f' fn'
  revert hf
  unfold pg0 prog
  simp only []
  refine qR ⟨_, _, _, Tryz.func6, by decide +kernel, qDx⟩ ?_
  refine qR ⟨_, _, _, Tryz.func8, by decide +kernel, qDX⟩ ?_
  refine qR ⟨_, _, _, Tryz.func11, by decide +kernel, qBT⟩ ?_
  refine qR ⟨_, _, _, Tryz.func13, by decide +kernel, qBM⟩ ?_
  refine qR ⟨_, _, _, Tryz.func14, by decide +kernel, qA4⟩ ?_
  refine qR ⟨_, _, _, Tryz.func15, by decide +kernel, qBe⟩ ?_
  refine qR ⟨_, _, _, Tryz.func16, by decide +kernel, qB5⟩ ?_
  refine qR ⟨_, _, _, Tryz.func20, by decide +kernel, qCX⟩ ?_
  refine qR ⟨_, _, _, Tryz.func21, by decide +kernel, qBB⟩ ?_
  refine qR ⟨_, _, _, Tryz.func22, by decide +kernel, qBq⟩ ?_
  refine qR ⟨_, _, _, Tryz.func23, by decide +kernel, qBg⟩ ?_
  refine qR ⟨_, _, _, Tryz.func24, by decide +kernel, qAU⟩ ?_
  refine qR ⟨_, _, _, Tryz.func25, by decide +kernel, qAE⟩ ?_
  refine qR ⟨_, _, _, Tryz.func26, by decide +kernel, qA5⟩ ?_
  refine qR ⟨_, _, _, Tryz.func27, by decide +kernel, qBA⟩ ?_
  refine qR ⟨_, _, _, Tryz.func28, by decide +kernel, qB0⟩ ?_
  refine qR ⟨_, _, _, Tryz.func33, by decide +kernel, qCU⟩ ?_
  refine qR ⟨_, _, _, Tryz.func34, by decide +kernel, qBj⟩ ?_
  refine qR ⟨_, _, _, Tryz.func35, by decide +kernel, qA0⟩ ?_
  refine qR ⟨_, _, _, Tryz.func36, by decide +kernel, qBc⟩ ?_
  refine qR ⟨_, _, _, Tryz.func37, by decide +kernel, qCV⟩ ?_
  refine qR ⟨_, _, _, Tryz.func38, by decide +kernel, qBd⟩ ?_
  refine qR ⟨_, _, _, Tryz.func39, by decide +kernel, qAO⟩ ?_
  refine qR ⟨_, _, _, Tryz.func40, by decide +kernel, qCB⟩ ?_
  refine qR ⟨_, _, _, Tryz.func41, by decide +kernel, qAH⟩ ?_
  refine qR ⟨_, _, _, Tryz.func42, by decide +kernel, qB2⟩ ?_
  refine qR ⟨_, _, _, Tryz.func43, by decide +kernel, qBn⟩ ?_
  refine qR ⟨_, _, _, Tryz.func49, by decide +kernel, qCq⟩ ?_
  refine qR ⟨_, _, _, Tryz.func50, by decide +kernel, qBL⟩ ?_
  refine qR ⟨_, _, _, Tryz.func51, by decide +kernel, qCa⟩ ?_
  refine qR ⟨_, _, _, Tryz.func52, by decide +kernel, qCu⟩ ?_
  refine qR ⟨_, _, _, Tryz.func53, by decide +kernel, qBR⟩ ?_
  refine qR ⟨_, _, _, Tryz.func54, by decide +kernel, qC3⟩ ?_
  refine qR ⟨_, _, _, Tryz.func55, by decide +kernel, qCx⟩ ?_
  refine qR ⟨_, _, _, Tryz.func56, by decide +kernel, qBk⟩ ?_
  refine qR ⟨_, _, _, Tryz.func57, by decide +kernel, qCC⟩ ?_
  refine qR ⟨_, _, _, Tryz.func58, by decide +kernel, qBH⟩ ?_
  refine qR ⟨_, _, _, Tryz.func59, by decide +kernel, qCN⟩ ?_
  refine qR ⟨_, _, _, Tryz.func60, by decide +kernel, qBa⟩ ?_
  refine qR ⟨_, _, _, Tryz.func61, by decide +kernel, qBJ⟩ ?_
  refine qR ⟨_, _, _, Tryz.func62, by decide +kernel, qCL⟩ ?_
  refine qR ⟨_, _, _, Tryz.func63, by decide +kernel, qAF⟩ ?_
  refine qR ⟨_, _, _, Tryz.func64, by decide +kernel, qA6⟩ ?_
  refine qR ⟨_, _, _, Tryz.func65, by decide +kernel, qB7⟩ ?_
  refine qR ⟨_, _, _, Tryz.func66, by decide +kernel, qCo⟩ ?_
  refine qR ⟨_, _, _, Tryz.func67, by decide +kernel, qBx⟩ ?_
  refine qR ⟨_, _, _, Tryz.func68, by decide +kernel, qCn⟩ ?_
  refine qR ⟨_, _, _, Tryz.func69, by decide +kernel, qCw⟩ ?_
  refine qR ⟨_, _, _, Tryz.func70, by decide +kernel, qBp⟩ ?_
  refine qR ⟨_, _, _, Tryz.func71, by decide +kernel, qA2⟩ ?_
  refine qR ⟨_, _, _, Tryz.func72, by decide +kernel, qBN⟩ ?_
  refine qR ⟨_, _, _, Tryz.func73, by decide +kernel, qCW⟩ ?_
  refine qR ⟨_, _, _, Tryz.func74, by decide +kernel, qBD⟩ ?_
  refine qR ⟨_, _, _, Tryz.func75, by decide +kernel, qAP⟩ ?_
  refine qR ⟨_, _, _, Tryz.func77, by decide +kernel, qCi⟩ ?_
  refine qR ⟨_, _, _, Tryz.func82, by decide +kernel, qCr⟩ ?_
  refine qR ⟨_, _, _, Tryz.func83, by decide +kernel, qBE⟩ ?_
  refine qR ⟨_, _, _, Tryz.func84, by decide +kernel, qCb⟩ ?_
  refine qR ⟨_, _, _, Tryz.func85, by decide +kernel, qAL⟩ ?_
  refine qR ⟨_, _, _, Tryz.func86, by decide +kernel, qCE⟩ ?_
  refine qR ⟨_, _, _, Tryz.func87, by decide +kernel, qCv⟩ ?_
  refine qR ⟨_, _, _, Tryz.func88, by decide +kernel, qB8⟩ ?_
  refine qR ⟨_, _, _, Tryz.func89, by decide +kernel, qCJ⟩ ?_
  refine qR ⟨_, _, _, Tryz.func90, by decide +kernel, qA9⟩ ?_
  refine qR ⟨_, _, _, Tryz.func91, by decide +kernel, qAX⟩ ?_
  refine qR ⟨_, _, _, Tryz.func92, by decide +kernel, qCZ⟩ ?_
  refine qR ⟨_, _, _, Tryz.func93, by decide +kernel, qB9⟩ ?_
  refine qR ⟨_, _, _, Tryz.func94, by decide +kernel, qCR⟩ ?_
  refine qR ⟨_, _, _, Tryz.func95, by decide +kernel, qBP⟩ ?_
  refine qR ⟨_, _, _, Tryz.func96, by decide +kernel, qBm⟩ ?_
  refine qR ⟨_, _, _, Tryz.func97, by decide +kernel, qBI⟩ ?_
  refine qR ⟨_, _, _, Tryz.func98, by decide +kernel, qCd⟩ ?_
  refine qR ⟨_, _, _, Tryz.func99, by decide +kernel, qAQ⟩ ?_
  refine qR ⟨_, _, _, Tryz.func101, by decide +kernel, qAx⟩ ?_
  refine qR ⟨_, _, _, Tryz.func102, by decide +kernel, qyf⟩ ?_
  refine qR ⟨_, _, _, Tryz.func103, by decide +kernel, qzn⟩ ?_
  refine qR ⟨_, _, _, Tryz.func104, by decide +kernel, qzA⟩ ?_
  refine qR ⟨_, _, _, Tryz.func105, by decide +kernel, qAf⟩ ?_
  refine qR ⟨_, _, _, Tryz.func125, by decide +kernel, qz1⟩ ?_
  refine qR ⟨_, _, _, Tryz.func126, by decide +kernel, qy3⟩ ?_
  refine qR ⟨_, _, _, Tryz.func127, by decide +kernel, qy1⟩ ?_
  refine qR ⟨_, _, _, Tryz.func128, by decide +kernel, qzY⟩ ?_
  refine qR ⟨_, _, _, Tryz.func129, by decide +kernel, qy6⟩ ?_
  refine qR ⟨_, _, _, Tryz.func130, by decide +kernel, qyn⟩ ?_
  refine qR ⟨_, _, _, Tryz.func132, by decide +kernel, qyt⟩ ?_
  refine qR ⟨_, _, _, Tryz.func133, by decide +kernel, qzO⟩ ?_
  refine qR ⟨_, _, _, Tryz.func134, by decide +kernel, qzs⟩ ?_
  refine qR ⟨_, _, _, Tryz.func135, by decide +kernel, qy8⟩ ?_
  refine qR ⟨_, _, _, Tryz.func136, by decide +kernel, qyo⟩ ?_
  refine qR ⟨_, _, _, Tryz.func137, by decide +kernel, qyE⟩ ?_
  refine qR ⟨_, _, _, Tryz.func138, by decide +kernel, qyL⟩ ?_
  refine qR ⟨_, _, _, Tryz.func139, by decide +kernel, qyI⟩ ?_
  refine qR ⟨_, _, _, Tryz.func145, by decide +kernel, qzq⟩ ?_
  refine qR ⟨_, _, _, Tryz.func146, by decide +kernel, qzh⟩ ?_
  refine qR ⟨_, _, _, Tryz.func147, by decide +kernel, qys⟩ ?_
  refine qR ⟨_, _, _, Tryz.func148, by decide +kernel, qy7⟩ ?_
  refine qR ⟨_, _, _, Tryz.func149, by decide +kernel, qzm⟩ ?_
  refine qR ⟨_, _, _, Tryz.func150, by decide +kernel, qzg⟩ ?_
  refine qR ⟨_, _, _, Tryz.func151, by decide +kernel, qzB⟩ ?_
  refine qR ⟨_, _, _, Tryz.func153, by decide +kernel, qze⟩ ?_
  refine qR ⟨_, _, _, Tryz.func154, by decide +kernel, qyC⟩ ?_
  refine qR ⟨_, _, _, Tryz.func159, by decide +kernel, qzZ⟩ ?_
  refine qR ⟨_, _, _, Tryz.func160, by decide +kernel, qzK⟩ ?_
  refine qR ⟨_, _, _, Tryz.func162, by decide +kernel, qz2⟩ ?_
  refine qR ⟨_, _, _, Tryz.func171, by decide +kernel, qzU⟩ ?_
  refine qR ⟨_, _, _, Tryz.func172, by decide +kernel, qyW⟩ ?_
  refine qR ⟨_, _, _, Tryz.func173, by decide +kernel, qzc⟩ ?_
  refine qR ⟨_, _, _, Tryz.func174, by decide +kernel, qAq⟩ ?_
  refine qR ⟨_, _, _, Tryz.func175, by decide +kernel, qyd⟩ ?_
  refine qR ⟨_, _, _, Tryz.func176, by decide +kernel, qzL⟩ ?_
  refine qR ⟨_, _, _, Tryz.func177, by decide +kernel, qyV⟩ ?_
  refine qR ⟨_, _, _, Tryz.func178, by decide +kernel, qzz⟩ ?_
  refine qR ⟨_, _, _, Tryz.func179, by decide +kernel, qAb⟩ ?_
  refine qR ⟨_, _, _, Tryz.func180, by decide +kernel, qyD⟩ ?_
  refine qR ⟨_, _, _, Tryz.func181, by decide +kernel, qyi⟩ ?_
  refine qR ⟨_, _, _, Tryz.func184, by decide +kernel, qAl⟩ ?_
  refine qR ⟨_, _, _, Tryz.func185, by decide +kernel, qzM⟩ ?_
  refine qR ⟨_, _, _, Tryz.func186, by decide +kernel, qy4⟩ ?_
  refine qR ⟨_, _, _, Tryz.func187, by decide +kernel, qzy⟩ ?_
  refine qR ⟨_, _, _, Tryz.func188, by decide +kernel, qym⟩ ?_
  refine qR ⟨_, _, _, Tryz.func191, by decide +kernel, qz4⟩ ?_
  refine qR ⟨_, _, _, Tryz.func192, by decide +kernel, qAC⟩ ?_
  refine qR ⟨_, _, _, Tryz.func230, by decide +kernel, qzQ⟩ ?_
  refine qR ⟨_, _, _, Tryz.func231, by decide +kernel, qAc⟩ ?_
  refine qR ⟨_, _, _, Tryz.func233, by decide +kernel, qyk⟩ ?_
  refine qR ⟨_, _, _, Tryz.func234, by decide +kernel, qAa⟩ ?_
  refine qR ⟨_, _, _, Tryz.func236, by decide +kernel, qzw⟩ ?_
  refine qR ⟨_, _, _, Tryz.func242, by decide +kernel, qAB⟩ ?_
  refine qR ⟨_, _, _, Tryz.func244, by decide +kernel, qzo⟩ ?_
  refine qR ⟨_, _, _, Tryz.func251, by decide +kernel, qyg⟩ ?_
  refine qR ⟨_, _, _, Tryz.func252, by decide +kernel, qyF⟩ ?_
  refine qR ⟨_, _, _, Tryz.func253, by decide +kernel, qAn⟩ ?_
  refine qR ⟨_, _, _, Tryz.func254, by decide +kernel, qy0⟩ ?_
  refine qR ⟨_, _, _, Tryz.func255, by decide +kernel, qzk⟩ ?_
  refine qR ⟨_, _, _, Tryz.func256, by decide +kernel, qyJ⟩ ?_
  refine qR ⟨_, _, _, Tryz.func258, by decide +kernel, qAu⟩ ?_
  refine qR ⟨_, _, _, Tryz.func259, by decide +kernel, qzi⟩ ?_
  refine qR ⟨_, _, _, Tryz.func260, by decide +kernel, qyO⟩ ?_
  refine qR ⟨_, _, _, Tryz.func261, by decide +kernel, qyr⟩ ?_
  refine qR ⟨_, _, _, Tryz.func262, by decide +kernel, qye⟩ ?_
  refine qR ⟨_, _, _, Tryz.func263, by decide +kernel, qyz⟩ ?_
  refine qR ⟨_, _, _, Tryz.func264, by decide +kernel, qza⟩ ?_
  refine qR ⟨_, _, _, Tryz.func292, by decide +kernel, qyX⟩ ?_
  refine qR ⟨_, _, _, Tryz.func293, by decide +kernel, qzu⟩ ?_
  refine qR ⟨_, _, _, Tryz.func294, by decide +kernel, qAt⟩ ?_
  refine qR ⟨_, _, _, Tryz.func298, by decide +kernel, qAv⟩ ?_
  refine qR ⟨_, _, _, Tryz.func299, by decide +kernel, qAz⟩ ?_
  refine qR ⟨_, _, _, Tryz.func301, by decide +kernel, qyU⟩ ?_
  refine qR ⟨_, _, _, Tryz.func303, by decide +kernel, qz7⟩ ?_
  refine qR ⟨_, _, _, Tryz.func322, by decide +kernel, qyy⟩ ?_
  refine qR ⟨_, _, _, Tryz.func324, by decide +kernel, qyS⟩ ?_
  exact qAI
theorem qAk : qpC Tryz.prog maps := by
  intro f' k l hl hk
  have e : f' = k := qhx hl
  subst e
  simp only [maps, W.look, qEt] at hk
  by_cases h141 : f' = 141
  · subst h141
    simp at hk
    subst hk
    exact ⟨32, 58, 196, 3, 4, 0, Tryz.f141, Tryz.func141, by decide +kernel, by kernel_rfl, by kernel_rfl, by kernel_rfl, Tryz.underlying32, by kernel_rfl, by kernel_rfl, Tryz.underlying3, Tryz.underlying4⟩
  rw [if_neg (by simpa using h141)] at hk
  by_cases h239 : f' = 239
  · subst h239
    simp at hk
    subst hk
    exact ⟨31, 56, 257, 3, 4, 0, Tryz.f239, Tryz.func239, by decide +kernel, by kernel_rfl, by kernel_rfl, by kernel_rfl, Tryz.underlying31, by kernel_rfl, by kernel_rfl, Tryz.underlying3, Tryz.underlying4⟩
  rw [if_neg (by simpa using h239)] at hk
  by_cases h240 : f' = 240
  · subst h240
    simp at hk
    subst hk
    exact ⟨33, 63, 258, 3, 4, 0, Tryz.f240, Tryz.func240, by decide +kernel, by kernel_rfl, by kernel_rfl, by kernel_rfl, Tryz.underlying33, by kernel_rfl, by kernel_rfl, Tryz.underlying3, Tryz.underlying4⟩
  rw [if_neg (by simpa using h240)] at hk
  cases hk
theorem tab : Tab Tryz.prog maps pg0 := ⟨qDR, qAk⟩
theorem qDU : Tab Tryz.prog maps W.pgA := ⟨fun f' i hl fn' hf => tab.1 f' i hl fn' (by
  unfold W.pgA at hf
  simp only [qEt] at hf
  split at hf
  · cases hf
  · split at hf
    · cases hf
    · exact hf), tab.2⟩
theorem qzR : Tab Tryz.prog maps W.pg := ⟨fun f' i hl fn' hf => tab.1 f' i hl fn' (by
  unfold W.pg at hf
  simp only [qEt] at hf
  split at hf
  · cases hf
  · split at hf
    · cases hf
    · split at hf
      · cases hf
      · exact hf), tab.2⟩
theorem ixC : IxC Tryz.prog 257 := fun s c w => Tryz.strings_IndexByte s c w
theorem teS : TeC Tryz.prog 304 3 2 := fun fn s base bits ev w h1 h2 h3 => (Tryz.toError_syntax fn s base bits ev w h1 h2 h3).mono (by rintro e w' ⟨N, q1, _, _, q2⟩; exact ⟨N, q1, q2⟩)
theorem teR : TeC Tryz.prog 304 4 1 := fun fn s base bits ev w h1 h2 h3 => (Tryz.toError_range fn s base bits ev w h1 h2 h3).mono (by rintro e w' ⟨N, q1, _, _, q2⟩; exact ⟨N, q1, q2⟩)
theorem quj {g : Gh} {w : World} {vs : List V} {H : List W.Obj} {r : Cr} (h : ixX vs H = some r) {argv : List Value} (ha : ArgsRep maps g w 0 vs argv) (hH : RelH maps g w H) : qk0 Tryz.prog 257 argv.toArray w (zW maps g w r) := by
  have hs : Tryz.f257.body.isSome = true := by kernel_rfl
  obtain ⟨c, hc⟩ := Option.isSome_iff_exists.1 hs
  exact qqQ ixC Tryz.func257 (by decide +kernel) hc h ha hH
theorem quL {g : Gh} {w : World} {vs : List V} {H : List W.Obj} {r : Cr} (h : teX vs H = some r) {argv : List Value} (ha : ArgsRep maps g w 0 vs argv) (hH : RelH maps g w H) : qk0 Tryz.prog 304 argv.toArray w (zW maps g w r) := by
  have hs : Tryz.f304.body.isSome = true := by kernel_rfl
  obtain ⟨c, hc⟩ := Option.isSome_iff_exists.1 hs
  exact qwM teS teR (by simp [maps]) (by simp [maps]) (by decide +kernel) (fun t' ht => qhx ht) Tryz.func304 (by decide +kernel) hc h ha hH
theorem quK : y3 Tryz.prog maps W.pgA.ext := by
  intro i vs H r h f' hl g w argv ha hH
  have e : f' = i := qhx hl
  subst e
  unfold W.pgA at h
  simp only [qEt] at h
  split at h
  · rename_i hb
    have e2 : f' = 257 := by simpa using hb
    subst e2
    exact quj h ha hH
  · split at h
    · rename_i hb
      have e2 : f' = 304 := by simpa using hb
      subst e2
      exact quL h ha hH
    · cases h
theorem qli : y3 Tryz.prog maps W.pg.ext := by
  intro i vs H r h f' hl g w argv ha hH
  have e : f' = i := qhx hl
  subst e
  unfold W.pg at h
  simp only [qEt] at h
  split at h
  · rename_i hb
    have e2 : f' = 257 := by simpa using hb
    subst e2
    exact quj h ha hH
  · split at h
    · rename_i hb
      have e2 : f' = 304 := by simpa using hb
      subst e2
      exact quL h ha hH
    · split at h
      · rename_i hb
        have e2 : f' = 261 := by simpa using hb
        subst e2
        unfold kwX at h
        split at h
        · cases h
          cases ha
          obtain ⟨lo, hk⟩ := qlH qrg qz6
          obtain ⟨n, hn⟩ := qcy.1 hk
          exact qrG (sound (by kernel_rfl) qDU quK qrg n) hn hl hH
        · cases h
      · cases h
theorem qDt : Tab Tryz.prog maps W.pgK := ⟨fun f' i hl fn' hf => qzR.1 f' i hl fn' (by
  unfold W.pgK at hf
  simp only [qEt] at hf
  split at hf
  · cases hf
  · exact hf), tab.2⟩
theorem qD2 : IxC Tryz.prog 302 := fun s c w => Tryz.stringslite_IndexByte s c w
theorem qAp {g : Gh} {w : World} {vs : List V} {H : List W.Obj} {r : Cr} (h : ixX vs H = some r) {argv : List Value} (ha : ArgsRep maps g w 0 vs argv) (hH : RelH maps g w H) : qk0 Tryz.prog 302 argv.toArray w (zW maps g w r) := by
  have hs : Tryz.f302.body.isSome = true := by kernel_rfl
  obtain ⟨c, hc⟩ := Option.isSome_iff_exists.1 hs
  exact qqQ qD2 Tryz.func302 (by decide +kernel) hc h ha hH
theorem qB6 {g : Gh} {w : World} {vs : List V} {H : List W.Obj} {r : Cr} (h : idX vs H = some r) {argv : List Value} (ha : ArgsRep maps g w 0 vs argv) (hH : RelH maps g w H) (hl : W.look maps.fm 14 = some 14) : qk0 Tryz.prog 14 argv.toArray w (zW maps g w r) := by
  unfold idX at h
  split at h
  · rename_i t
    rw [qEt] at h
    split at h
    · rename_i hb
      cases h
      simp only [qEn] at hb
      obtain ⟨lo, hk⟩ := qnl (qjt.1 hb.1) (Nat.le_of_ble_eq_true hb.2)
      obtain ⟨n, hn⟩ := qcy.1 hk
      exact qkK (l := [.s t]) (sound (by kernel_rfl) qzR qli qnk n) hn hl hH ha
    · cases h
  · cases h
theorem qBQ {g : Gh} {w : World} {vs : List V} {H : List W.Obj} {r : Cr} (h : idX vs H = some r) {argv : List Value} (ha : ArgsRep maps g w 0 vs argv) (hH : RelH maps g w H) (hl : W.look maps.fm 15 = some 15) : qk0 Tryz.prog 15 argv.toArray w (zW maps g w r) := by
  unfold idX at h
  split at h
  · rename_i t
    rw [qEt] at h
    split at h
    · rename_i hb
      cases h
      simp only [qEn] at hb
      have hk := qm4 (qjt.1 hb.1) (Nat.le_of_ble_eq_true hb.2) (H := [])
      obtain ⟨n, hn⟩ := qcy.1 hk
      exact qkK (l := [.s t]) (sound (by kernel_rfl) qzR qli qnk n) hn hl hH ha
    · cases h
  · cases h
theorem qxk : y3 Tryz.prog maps W.pgK.ext := by
  intro i vs H r h f' hl g w argv ha hH
  have e : f' = i := qhx hl
  subst e
  unfold W.pgK at h
  simp only [qEt] at h
  split at h
  · rename_i hb
    simp only [Bool.or_eq_true] at hb
    rcases hb with hb | hb
    · obtain rfl := qEE hb
      exact qB6 h ha hH hl
    · obtain rfl := qEE hb
      exact qBQ h ha hH hl
  · split at h
    · rename_i hb
      have e2 : f' = 302 := by simpa using hb
      subst e2
      exact qAp h ha hH
    · exact qli _ _ _ _ h _ hl g w argv ha hH
end Go.Proofs.YtdgbjjpdepdmmaaGreatDoor

set_option linter.unusedSimpArgs false
set_option linter.unusedVariables false
namespace W
open Go (IntKind BinOp UnOp)
set_option maxRecDepth 20000
def isZ (r : Option Cr) (b : Bool) : Bool := match r with
  | some ⟨false, true, .d (.i .i64 e), _, _⟩ => (match eqI e 0, b with | true, true => true | false, false => true | _, _ => false)
  | _ => false
def tI : List D := [.i .i64 1, .i .i64 0, .s [], .nil]
def eL (op : Int) (s : List Nat) : D := .agg [.i .i64 op, .i .i64 1, .i .i64 0, .s [], .nil, .i .i32 0, .s s, .nil]
def qwH (i : Bool) : D := .sl (if i then [.s [79, 117, 116], .s [76]] else [.s [79, 117, 116]])
def m0 (i : Bool) : D := .agg [.s [77], qwH i, .nil, .nil, .nil, .nil, .nil, .sl [.agg [.i .i64 14, .sl [eL 1 [76, 46, 118]], .nil, .nil]]]
def m1 (i : Bool) : D := .agg [.s [77], qwH i, .nil, .nil, .nil, .sl [.agg [.s [114], .b false, .i .i64 8, .i .i64 0, .s [76, 46, 82], .nil]], .nil, .nil]
def m2 (i : Bool) : D := .agg [.s [77], qwH i, .nil, .nil, .nil, .nil, .nil, .sl [.agg [.i .i64 14, .sl [eL 6 [76, 46, 102]], .nil, .nil]]]
def m3 (i : Bool) : D := .agg [.s [77], qwH i, .nil, .nil, .nil, .nil, .nil, .sl [.agg [.i .i64 0, .sl [eL 1 [76, 46, 118], eL 0 []], .nil, .nil]]]
noncomputable def both (m : D) (l : D) (ok : Bool) : Bool := isZ (qfD pgK 6000 11 [.d m, .d (.sl [l])] []) ok && isZ (qfD pgK 6000 16 [.d m, .d (.sl [l])] []) ok
end W

set_option linter.unusedSimpArgs false
set_option linter.unusedVariables false
namespace W
open Go (IntKind BinOp UnOp)
set_option maxRecDepth 20000
noncomputable def bdyK (fn : Fn) (vs : List V) (H : List Obj) : Option Cr := qge H fn.own fn.res (exL pgK fn.body { env := jl 0 vs, H, lo := H.length })
theorem c_6 {v0 v1 v2 v3 v4 : V} {H : List Obj} : qn pgK 6 [v0, v1, v2, v3, v4] H = bdyK f_waferlaw17_CheckNames [v0, v1, v2, v3, v4] H := qg (fn := f_waferlaw17_CheckNames) rfl rfl
theorem qzE {v0 v1 : V} {H : List Obj} : qn pgK 13 [v0, v1] H = bdyK f_waferlaw17_told [v0, v1] H := qg (fn := f_waferlaw17_told) rfl rfl
theorem qum {v0 v1 : V} {H : List Obj} : qn pgK 16 [v0, v1] H = bdyK f_waferref17_Check [v0, v1] H := qg (fn := f_waferref17_Check) rfl rfl
theorem qDF {v0 v1 : V} {H : List Obj} : qn pgK 21 [v0, v1] H = bdyK f_recheck_must [v0, v1] H := qg (fn := f_recheck_must) rfl rfl
theorem qEb {v0 : V} {H : List Obj} : qn pgK 22 [v0] H = bdyK qdu [v0] H := qg (fn := qdu) rfl rfl
theorem qDI {v0 v1 : V} {H : List Obj} : qn pgK 23 [v0, v1] H = bdyK f_front_NewEnv [v0, v1] H := qg (fn := f_front_NewEnv) rfl rfl
theorem qDz {v0 : V} {H : List Obj} : qn pgK 24 [v0] H = bdyK f_recheck_checker_heads [v0] H := qg (fn := f_recheck_checker_heads) rfl rfl
theorem qDg {v0 : V} {H : List Obj} : qn pgK 25 [v0] H = bdyK f_recheck_checker_records [v0] H := qg (fn := f_recheck_checker_records) rfl rfl
theorem qDO {v0 : V} {H : List Obj} : qn pgK 26 [v0] H = bdyK f_recheck_checker_declared [v0] H := qg (fn := f_recheck_checker_declared) rfl rfl
theorem qDG {v0 v1 : V} {H : List Obj} : qn pgK 27 [v0, v1] H = bdyK f_recheck_checker_procedure [v0, v1] H := qg (fn := f_recheck_checker_procedure) rfl rfl
theorem qEe {v0 v1 : V} {H : List Obj} : qn pgK 28 [v0, v1] H = bdyK f_recheck_checker_body [v0, v1] H := qg (fn := f_recheck_checker_body) rfl rfl
theorem qEa {v0 : V} {H : List Obj} : qn pgK 37 [v0] H = bdyK qaM [v0] H := qg (fn := qaM) rfl rfl
theorem qDe {v0 v1 : V} {H : List Obj} : qn pgK 38 [v0, v1] H = bdyK f_waferref17_Others [v0, v1] H := qg (fn := f_waferref17_Others) rfl rfl
theorem qDc {v0 : V} {H : List Obj} : qn pgK 39 [v0] H = bdyK f_waferref11_Recs [v0] H := qg (fn := f_waferref11_Recs) rfl rfl
theorem qDl {v0 : V} {H : List Obj} : qn pgK 40 [v0] H = bdyK f_waferref17_ctx_names [v0] H := qg (fn := f_waferref17_ctx_names) rfl rfl
theorem qEj {v0 : V} {H : List Obj} : qn pgK 41 [v0] H = bdyK f_waferref17_ctx_types [v0] H := qg (fn := f_waferref17_ctx_types) rfl rfl
theorem qDm {v0 v1 : V} {H : List Obj} : qn pgK 42 [v0, v1] H = bdyK f_waferref17_ctx_procedure [v0, v1] H := qg (fn := f_waferref17_ctx_procedure) rfl rfl
theorem qC8 {v0 v1 : V} {H : List Obj} : qn pgK 43 [v0, v1] H = bdyK f_waferref17_ctx_body [v0, v1] H := qg (fn := f_waferref17_ctx_body) rfl rfl
theorem qDK {v0 : V} {H : List Obj} : qn pgK 49 [v0] H = bdyK qeu [v0] H := qg (fn := qeu) rfl rfl
theorem qDP {v0 : V} {H : List Obj} : qn pgK 50 [v0] H = bdyK qew [v0] H := qg (fn := qew) rfl rfl
theorem qDd {v0 : V} {H : List Obj} : qn pgK 51 [v0] H = bdyK qbJ [v0] H := qg (fn := qbJ) rfl rfl
theorem qDT {v0 : V} {H : List Obj} : qn pgK 52 [v0] H = bdyK qez [v0] H := qg (fn := qez) rfl rfl
theorem qD7 {v0 : V} {H : List Obj} : qn pgK 53 [v0] H = bdyK qbE [v0] H := qg (fn := qbE) rfl rfl
theorem qDY {v0 v1 : V} {H : List Obj} : qn pgK 54 [v0, v1] H = bdyK zw [v0, v1] H := qg (fn := zw) rfl rfl
theorem qDM {v0 : V} {H : List Obj} : qn pgK 55 [v0] H = bdyK qcj [v0] H := qg (fn := qcj) rfl rfl
theorem qC7 {v0 v1 : V} {H : List Obj} : qn pgK 56 [v0, v1] H = bdyK kN [v0, v1] H := qg (fn := kN) rfl rfl
theorem qDo {v0 : V} {H : List Obj} : qn pgK 57 [v0] H = bdyK qct [v0] H := qg (fn := qct) rfl rfl
theorem qDq {v0 : V} {H : List Obj} : qn pgK 58 [v0] H = bdyK qcb [v0] H := qg (fn := qcb) rfl rfl
theorem qEh {v0 v1 : V} {H : List Obj} : qn pgK 59 [v0, v1] H = bdyK zk [v0, v1] H := qg (fn := zk) rfl rfl
theorem qDH {v0 : V} {H : List Obj} : qn pgK 60 [v0] H = bdyK qcq [v0] H := qg (fn := qcq) rfl rfl
theorem qDf {v0 v1 : V} {H : List Obj} : qn pgK 61 [v0, v1] H = bdyK kX [v0, v1] H := qg (fn := kX) rfl rfl
theorem qDw {v0 : V} {H : List Obj} : qn pgK 62 [v0] H = bdyK qca [v0] H := qg (fn := qca) rfl rfl
theorem qD0 {v0 : V} {H : List Obj} : qn pgK 63 [v0] H = bdyK qbu [v0] H := qg (fn := qbu) rfl rfl
theorem qDS {v0 : V} {H : List Obj} : qn pgK 64 [v0] H = bdyK f_slices_Backward___api_Rec_api_Rec_ [v0] H := qg (fn := f_slices_Backward___api_Rec_api_Rec_) rfl rfl
theorem qD6 {v0 : V} {H : List Obj} : qn pgK 65 [v0] H = bdyK f_recheck_name [v0] H := qg (fn := f_recheck_name) rfl rfl
theorem qDE {v0 v1 : V} {H : List Obj} : qn pgK 66 [v0, v1] H = bdyK f_recheck_checker_heads_1 [v0, v1] H := qg (fn := f_recheck_checker_heads_1) rfl rfl
theorem qDA {v0 v1 : V} {H : List Obj} : qn pgK 67 [v0, v1] H = bdyK f_front_Env_Import [v0, v1] H := qg (fn := f_front_Env_Import) rfl rfl
theorem qC6 {v0 v1 : V} {H : List Obj} : qn pgK 68 [v0, v1] H = bdyK f_recheck_checker_own [v0, v1] H := qg (fn := f_recheck_checker_own) rfl rfl
theorem qD5 {v0 v1 : V} {H : List Obj} : qn pgK 69 [v0, v1] H = bdyK f_types_Fields [v0, v1] H := qg (fn := f_types_Fields) rfl rfl
theorem qEg {v0 v1 : V} {H : List Obj} : qn pgK 70 [v0, v1] H = bdyK f_recheck_checker_typ [v0, v1] H := qg (fn := f_recheck_checker_typ) rfl rfl
theorem qEc {v0 v1 : V} {H : List Obj} : qn pgK 71 [v0, v1] H = bdyK f_recheck_checker_expr [v0, v1] H := qg (fn := f_recheck_checker_expr) rfl rfl
theorem qDh {v0 : V} {H : List Obj} : qn pgK 72 [v0] H = bdyK f_recheck_typed [v0] H := qg (fn := f_recheck_typed) rfl rfl
theorem qDn {v0 v1 v2 : V} {H : List Obj} : qn pgK 73 [v0, v1, v2] H = bdyK f_recheck_checker_local [v0, v1, v2] H := qg (fn := f_recheck_checker_local) rfl rfl
theorem qDD {v0 : V} {H : List Obj} : qn pgK 74 [v0] H = bdyK f_front_Plain [v0] H := qg (fn := f_front_Plain) rfl rfl
theorem qDj {v0 v1 : V} {H : List Obj} : qn pgK 75 [v0, v1] H = bdyK f_recheck_same [v0, v1] H := qg (fn := f_recheck_same) rfl rfl
theorem qDB {v0 v1 : V} {H : List Obj} : qn pgK 77 [v0, v1] H = bdyK f_recheck_checker_stmt [v0, v1] H := qg (fn := f_recheck_checker_stmt) rfl rfl
theorem qDC {v0 v1 : V} {H : List Obj} : qn pgK 84 [v0, v1] H = bdyK f_slices_Contains___string_string_ [v0, v1] H := qg (fn := f_slices_Contains___string_string_) rfl rfl
theorem qDb {v0 : V} {H : List Obj} : qn pgK 87 [v0] H = bdyK qbw [v0] H := qg (fn := qbw) rfl rfl
theorem qDs {v0 : V} {H : List Obj} : qn pgK 88 [v0] H = bdyK yB [v0] H := qg (fn := yB) rfl rfl
theorem qC9 {v0 : V} {H : List Obj} : qn pgK 89 [v0] H = bdyK qbc [v0] H := qg (fn := qbc) rfl rfl
theorem qDr {v0 : V} {H : List Obj} : qn pgK 90 [v0] H = bdyK yC [v0] H := qg (fn := yC) rfl rfl
theorem qDN {v0 : V} {H : List Obj} : qn pgK 91 [v0] H = bdyK yb [v0] H := qg (fn := yb) rfl rfl
theorem qDv {v0 : V} {H : List Obj} : qn pgK 92 [v0] H = bdyK yi [v0] H := qg (fn := yi) rfl rfl
theorem qDW {v0 : V} {H : List Obj} : qn pgK 93 [v0] H = bdyK f_waferref17_once [v0] H := qg (fn := f_waferref17_once) rfl rfl
theorem qDy {v0 : V} {H : List Obj} : qn pgK 94 [v0] H = bdyK f_waferref17_all [v0] H := qg (fn := f_waferref17_all) rfl rfl
theorem qC5 {v0 v1 : V} {H : List Obj} : qn pgK 95 [v0, v1] H = bdyK f_waferref17_imported [v0, v1] H := qg (fn := f_waferref17_imported) rfl rfl
theorem qEd {v0 v1 : V} {H : List Obj} : qn pgK 96 [v0, v1] H = bdyK f_waferref17_module [v0, v1] H := qg (fn := f_waferref17_module) rfl rfl
theorem qD8 {v0 : V} {H : List Obj} : qn pgK 97 [v0] H = bdyK f_waferref17_RightLit [v0] H := qg (fn := f_waferref17_RightLit) rfl rfl
theorem qDp {v0 v1 : V} {H : List Obj} : qn pgK 98 [v0, v1] H = bdyK f_waferref17_is [v0, v1] H := qg (fn := f_waferref17_is) rfl rfl
theorem qDV {v0 v1 : V} {H : List Obj} : qn pgK 99 [v0, v1] H = bdyK f_waferref11_Fields [v0, v1] H := qg (fn := f_waferref11_Fields) rfl rfl
theorem qAJ {v0 v1 : V} {H : List Obj} : qn pgK 101 [v0, v1] H = bdyK f_waferref11_Words [v0, v1] H := qg (fn := f_waferref11_Words) rfl rfl
theorem qAS {v0 : V} {H : List Obj} : qn pgK 102 [v0] H = bdyK f_waferref17_record [v0] H := qg (fn := f_waferref17_record) rfl rfl
theorem qCg {v0 v1 : V} {H : List Obj} : qn pgK 103 [v0, v1] H = bdyK f_waferref17_ctx_known [v0, v1] H := qg (fn := f_waferref17_ctx_known) rfl rfl
theorem qCk {v0 : V} {H : List Obj} : qn pgK 104 [v0] H = bdyK f_waferref11_Scalar [v0] H := qg (fn := f_waferref11_Scalar) rfl rfl
theorem qCz {v0 v1 : V} {H : List Obj} : qn pgK 105 [v0, v1] H = bdyK f_waferref11_Alike [v0, v1] H := qg (fn := f_waferref11_Alike) rfl rfl
theorem qCH {v0 v1 : V} {H : List Obj} : qn pgK 125 [v0, v1] H = bdyK zj [v0, v1] H := qg (fn := zj) rfl rfl
theorem qCp {v0 : V} {H : List Obj} : qn pgK 126 [v0] H = bdyK qaS [v0] H := qg (fn := qaS) rfl rfl
theorem qCM {v0 v1 : V} {H : List Obj} : qn pgK 127 [v0, v1] H = bdyK qbx [v0, v1] H := qg (fn := qbx) rfl rfl
theorem qBK {v0 v1 : V} {H : List Obj} : qn pgK 128 [v0, v1] H = bdyK kW [v0, v1] H := qg (fn := kW) rfl rfl
theorem qCI {v0 v1 : V} {H : List Obj} : qn pgK 132 [v0, v1] H = bdyK zL [v0, v1] H := qg (fn := zL) rfl rfl
theorem qCG {v0 v1 : V} {H : List Obj} : qn pgK 133 [v0, v1] H = bdyK za [v0, v1] H := qg (fn := za) rfl rfl
theorem qBC {v0 : V} {H : List Obj} : qn pgK 134 [v0] H = bdyK qdB [v0] H := qg (fn := qdB) rfl rfl
theorem qB3 {v0 : V} {H : List Obj} : qn pgK 135 [v0] H = bdyK qbA [v0] H := qg (fn := qbA) rfl rfl
theorem qCA {v0 v1 : V} {H : List Obj} : qn pgK 136 [v0, v1] H = bdyK zD [v0, v1] H := qg (fn := zD) rfl rfl
theorem qCF {v0 v1 : V} {H : List Obj} : qn pgK 137 [v0, v1] H = bdyK zp [v0, v1] H := qg (fn := zp) rfl rfl
theorem qCs {v0 v1 : V} {H : List Obj} : qn pgK 138 [v0, v1] H = bdyK kP [v0, v1] H := qg (fn := kP) rfl rfl
theorem qBS {v0 : V} {H : List Obj} : qn pgK 139 [v0] H = bdyK qaQ [v0] H := qg (fn := qaQ) rfl rfl
theorem qBo {v0 v1 : V} {H : List Obj} : qn pgK 145 [v0, v1] H = bdyK f_types_chain [v0, v1] H := qg (fn := f_types_chain) rfl rfl
theorem qCS {v0 : V} {H : List Obj} : qn pgK 146 [v0] H = bdyK f_types_Clone [v0] H := qg (fn := f_types_Clone) rfl rfl
theorem qBO {v0 : V} {H : List Obj} : qn pgK 147 [v0] H = bdyK f_types_Right [v0] H := qg (fn := f_types_Right) rfl rfl
theorem qCf {v0 v1 : V} {H : List Obj} : qn pgK 148 [v0, v1] H = bdyK f_front_Env_Named [v0, v1] H := qg (fn := f_front_Env_Named) rfl rfl
theorem qBb {v0 v1 : V} {H : List Obj} : qn pgK 149 [v0, v1] H = bdyK f_types_Words [v0, v1] H := qg (fn := f_types_Words) rfl rfl
theorem qAK {v0 : V} {H : List Obj} : qn pgK 150 [v0] H = bdyK f_types_Basic [v0] H := qg (fn := f_types_Basic) rfl rfl
theorem qCh {v0 v1 v2 : V} {H : List Obj} : qn pgK 151 [v0, v1, v2] H = bdyK f_recheck_bare [v0, v1, v2] H := qg (fn := f_recheck_bare) rfl rfl
theorem qBF {v0 v1 : V} {H : List Obj} : qn pgK 153 [v0, v1] H = bdyK f_recheck_checker_lit [v0, v1] H := qg (fn := f_recheck_checker_lit) rfl rfl
theorem qCT {v0 v1 : V} {H : List Obj} : qn pgK 154 [v0, v1] H = bdyK f_recheck_checker_name [v0, v1] H := qg (fn := f_recheck_checker_name) rfl rfl
theorem qCP {v0 v1 : V} {H : List Obj} : qn pgK 159 [v0, v1] H = bdyK f_front_form [v0, v1] H := qg (fn := f_front_form) rfl rfl
theorem qCK {v0 v1 : V} {H : List Obj} : qn pgK 160 [v0, v1] H = bdyK f_tree_SameExpr [v0, v1] H := qg (fn := f_tree_SameExpr) rfl rfl
theorem qAY {v0 : V} {H : List Obj} : qn pgK 162 [v0] H = bdyK f_types_plain [v0] H := qg (fn := f_types_plain) rfl rfl
theorem qAZ {v0 v1 : V} {H : List Obj} : qn pgK 171 [v0, v1] H = bdyK f_recheck_checker_standard [v0, v1] H := qg (fn := f_recheck_checker_standard) rfl rfl
theorem qA7 {v0 : V} {H : List Obj} : qn pgK 172 [v0] H = bdyK f_waferref11_Basic [v0] H := qg (fn := f_waferref11_Basic) rfl rfl
theorem qBr {v0 v1 : V} {H : List Obj} : qn pgK 181 [v0, v1] H = bdyK f_slices_Index___string_string_ [v0, v1] H := qg (fn := f_slices_Index___string_string_) rfl rfl
theorem qBV {v0 v1 : V} {H : List Obj} : qn pgK 184 [v0, v1] H = bdyK yy [v0, v1] H := qg (fn := yy) rfl rfl
theorem qBt {v0 : V} {H : List Obj} : qn pgK 185 [v0] H = bdyK qaO [v0] H := qg (fn := qaO) rfl rfl
theorem qBv {v0 : V} {H : List Obj} : qn pgK 186 [v0] H = bdyK yj [v0] H := qg (fn := yj) rfl rfl
theorem qC4 {v0 : V} {H : List Obj} : qn pgK 187 [v0] H = bdyK f_waferref17_basic [v0] H := qg (fn := f_waferref17_basic) rfl rfl
theorem qA1 {v0 v1 v2 : V} {H : List Obj} : qn pgK 188 [v0, v1, v2] H = bdyK f_waferref11_fields [v0, v1, v2] H := qg (fn := f_waferref11_fields) rfl rfl
theorem qAR {v0 v1 v2 : V} {H : List Obj} : qn pgK 191 [v0, v1, v2] H = bdyK f_waferref11_words [v0, v1, v2] H := qg (fn := f_waferref11_words) rfl rfl
theorem qAD {v0 : V} {H : List Obj} : qn pgK 192 [v0] H = bdyK f_waferref11_Right [v0] H := qg (fn := f_waferref11_Right) rfl rfl
theorem qBi {v0 v1 : V} {H : List Obj} : qn pgK 230 [v0, v1] H = bdyK zE [v0, v1] H := qg (fn := zE) rfl rfl
theorem qx0 {v0 v1 : V} {H : List Obj} : qn pgK 231 [v0, v1] H = bdyK f_slices_ContainsFunc___api_Type_api_Type_ [v0, v1] H := qg (fn := f_slices_ContainsFunc___api_Type_api_Type_) rfl rfl
theorem qC2 {v0 v1 : V} {H : List Obj} : qn pgK 233 [v0, v1] H = bdyK zq [v0, v1] H := qg (fn := zq) rfl rfl
theorem qCm {v0 v1 : V} {H : List Obj} : qn pgK 236 [v0, v1] H = bdyK k9 [v0, v1] H := qg (fn := k9) rfl rfl
theorem qCO {v0 v1 : V} {H : List Obj} : qn pgK 242 [v0, v1] H = bdyK f_types_sizes_words [v0, v1] H := qg (fn := f_types_sizes_words) rfl rfl
theorem qB4 {v0 v1 : V} {H : List Obj} : qn pgK 244 [v0, v1] H = bdyK f_strings_Contains [v0, v1] H := qg (fn := f_strings_Contains) rfl rfl
theorem qCy {v0 v1 : V} {H : List Obj} : qn pgK 251 [v0, v1] H = bdyK f_slices_Contains___int_int_ [v0, v1] H := qg (fn := f_slices_Contains___int_int_) rfl rfl
theorem qBh {v0 v1 : V} {H : List Obj} : qn pgK 252 [v0, v1] H = bdyK f_tree_sameType [v0, v1] H := qg (fn := f_tree_sameType) rfl rfl
theorem qC1 {v0 v1 v2 : V} {H : List Obj} : qn pgK 253 [v0, v1, v2] H = bdyK f_slices_EqualFunc___api_Expr___api_Expr_api_Expr_api_Expr_ [v0, v1, v2] H := qg (fn := f_slices_EqualFunc___api_Expr___api_Expr_api_Expr_api_Expr_) rfl rfl
theorem qAT {v0 v1 v2 : V} {H : List Obj} : qn pgK 254 [v0, v1, v2] H = bdyK f_slices_EqualFunc___api_Type___api_Type_api_Type_api_Type_ [v0, v1, v2] H := qg (fn := f_slices_EqualFunc___api_Type___api_Type_api_Type_api_Type_) rfl rfl
theorem qC0 {v0 v1 : V} {H : List Obj} : qn pgK 256 [v0, v1] H = bdyK f_front_Env_Right [v0, v1] H := qg (fn := f_front_Env_Right) rfl rfl
theorem qx4 {v0 v1 : V} {H : List Obj} : qn pgK 292 [v0, v1] H = bdyK f_slices_IndexFunc___api_Type_api_Type_ [v0, v1] H := qg (fn := f_slices_IndexFunc___api_Type_api_Type_) rfl rfl
theorem qBs {v0 v1 : V} {H : List Obj} : qn pgK 293 [v0, v1] H = bdyK f_types_sizes_record [v0, v1] H := qg (fn := f_types_sizes_record) rfl rfl
theorem qAV {v0 v1 : V} {H : List Obj} : qn pgK 294 [v0, v1] H = bdyK f_strings_Index [v0, v1] H := qg (fn := f_strings_Index) rfl rfl
theorem qBG {v0 v1 : V} {H : List Obj} : qn pgK 298 [v0, v1] H = bdyK f_slices_Index___int_int_ [v0, v1] H := qg (fn := f_slices_Index___int_int_) rfl rfl
theorem qBX {v0 : V} {H : List Obj} : qn pgK 301 [v0] H = bdyK f_front_forms [v0] H := qg (fn := f_front_forms) rfl rfl
theorem qAG {v0 v1 : V} {H : List Obj} : qn pgK 322 [v0, v1] H = bdyK f_internal_stringslite_Index [v0, v1] H := qg (fn := f_internal_stringslite_Index) rfl rfl
end W

set_option linter.unusedSimpArgs false
set_option linter.unusedVariables false
namespace W
open Go (IntKind BinOp UnOp)
set_option maxRecDepth 20000
structure Nm (a : List Nat) : Prop where
  small : ∀ c ∈ a, c < 256
  len : a.length ≤ 65
theorem Nm.l1 {a : List Nat} (h : Nm a) : ((a.length : Int) ≤ 65) = True := by rw [eq_iff_iff]; have := h.len; simp; omega
theorem Nm.l2 {a : List Nat} (h : Nm a) : (65 < (a.length : Int)) = False := by rw [eq_iff_iff]; have := h.len; simp; omega
theorem Nm.i14 {a : List Nat} (h : Nm a) {b : Bool} (hb : idB a = b) (H : List Obj) : qn pgK 14 [.d (.s a)] H = some ⟨false, true, .d (.b b), H, H.length⟩ := by rw [qEi h.small (by have := h.len; omega), hb]
theorem Nm.i15 {a : List Nat} (h : Nm a) {b : Bool} (hb : idB a = b) (H : List Obj) : qn pgK 15 [.d (.s a)] H = some ⟨false, true, .d (.b b), H, H.length⟩ := by rw [qDa h.small (by have := h.len; omega), hb]
theorem Nm.cat {a : List Nat} (h : Nm a) (c : Bool) : qaJ .add .num c (.d (.s [77, 46])) (.d (.s a)) = some (.d (.s (77 :: 46 :: a))) := by
  have := h.len
  exact qoZ (by simp only [qEx, qEz]; omega)
theorem nmM : Nm [77] := ⟨by simp, by simp⟩
theorem nmIn : Nm [73, 110] := ⟨by simp, by simp⟩
theorem qj {a b : List Nat} (h : (a = b) = False) : (b = a) = False := by
  rw [eq_iff_iff]; simp only [iff_false]; intro hc; rw [eq_iff_iff] at h; exact h.1 hc.symm
def bad (x : Int) : Bool := match x with
  | .ofNat 32 => true
  | .ofNat 33 => true
  | .ofNat 40 => true
  | _ => false
def qlW (n : Nat) (m : D) : Prop := ∃ lo, qn pgK n [.d m, .d .nil] [] = some ⟨false, true, .d (.i .i64 0), [], lo⟩
def Bad (n : Nat) (m : D) : Prop := ∃ x lo, qn pgK n [.d m, .d .nil] [] = some ⟨false, true, .d (.i .i64 x), [], lo⟩ ∧ bad x = true
end W

set_option linter.unusedSimpArgs false
set_option linter.unusedVariables false
namespace W
open Go (IntKind BinOp UnOp)
def qlj (size : Nat) : List D → Nat → Option V
  | [], _ => none
  | x :: _, 0 => bif qEr x.cells.length size then some (.cp x) else none
  | _ :: l, n + 1 => qlj size l n
theorem qqL (size : Nat) : ∀ (xs : List D) (n : Nat), qlj size xs n = (match xs[n]? with | some y => bif qEr y.cells.length size then some (.cp y) else none | none => none)
  | [], n => by simp [qlj]
  | x :: l, 0 => by simp [qlj]
  | x :: l, n + 1 => by simp [qlj, qqL size l n]
theorem qpz {size : Nat} {x : D} {l : List D} : qlj size (x :: l) 0 = bif qEr x.cells.length size then some (.cp x) else none := (rfl)
theorem qpg {size : Nat} {x : D} {l : List D} {n : Nat} : qlj size (x :: l) (n + 1) = qlj size l n := (rfl)
theorem qkf {xs : List D} {k : IntKind} {n : Int} {size : Nat} : iaV (.d (.sl xs)) (.d (.i k n)) size none = bif leI 0 n then qlj size xs n.toNat else none := by
  rw [qqL]; rfl
theorem qdk {H : List Obj} {pan : Bool} {v : V} {e : Env} {H' : List Obj} {lo : Nat} (h1 : v.leaves = true) (h2 : (v.ref ≤ H.length) = True) (h0 : settle H.length H' v = v) (hl : (H.length ≤ lo) = True) : leave H pan v ⟨e, H', lo⟩ = some ⟨pan, true, v, H, lo⟩ :=
  yA h1 (by rw [h2]; trivial) (by rw [hl]; trivial) h0
theorem qu4 {H : List Obj} {pan : Bool} {v : V} {e : Env} {H' : List Obj} {lo : Nat} (h1 : v.leaves = true) (hl : (lo < H.length) = True) (h0 : settle H.length H' v = v) : leave H pan v ⟨e, H', lo⟩ = some ⟨pan, false, v, H', lo⟩ :=
  qjz h1 (.inr (by rw [hl]; trivial)) h0
theorem qsU {H : List Obj} {pan : Bool} {v : V} {e : Env} {H' : List Obj} {lo : Nat} (h1 : v.leaves = true) (hl : (H.length < v.ref) = True) (h0 : settle H.length H' v = v) : leave H pan v ⟨e, H', lo⟩ = some ⟨pan, false, v, H', lo⟩ :=
  qjz h1 (.inl (by rw [hl]; trivial)) h0
theorem ql9 {a b : Nat} (h : (a ≤ b) = True) : min a b = a := Nat.min_eq_left (by rw [h]; trivial)
theorem qBZ {a b : Nat} (h : (b ≤ a) = True) : min a b = b := Nat.min_eq_right (by rw [h]; trivial)
theorem qzJ {n : Int} (h1 : (-9223372036854775808 ≤ n) = True) (h2 : (n ≤ 9223372036854775807) = True) : wr .i64 n = n := qcV (by rw [h1]; trivial) (by rw [h2]; trivial)
theorem qD4 {n : Int} (h1 : (-2147483648 ≤ n) = True) (h2 : (n ≤ 2147483647) = True) : wr .i32 n = n := qzf (by rw [h1]; trivial) (by rw [h2]; trivial)
theorem qyl {k : D} : qcB k [] = some none := (rfl)
theorem qD1 {x y : List Nat} {v : V} {l : List (D × V)} : qcB (.s x) ((.s y, v) :: l) = bif eqT x y then some (some v) else qcB (.s x) l := by
  simp only [qcB, D.same]; cases eqT x y <;> rfl
theorem qAd {k : D} {v : V} : qdg k v [] = some [(k, v)] := (rfl)
def quI (p : D × V) : Option (List (D × V)) → Option (List (D × V))
  | some r => some (p :: r)
  | none => none
theorem qtY {p : D × V} {r : List (D × V)} : quI p (some r) = some (p :: r) := (rfl)
theorem qDL {x y : List Nat} {v w : V} {l : List (D × V)} : qdg (.s x) v ((.s y, w) :: l) = bif eqT x y then some ((.s y, v) :: l) else quI (.s y, w) (qdg (.s x) v l) := by
  simp only [qdg, D.same]
  cases eqT x y
  · simp only [cond_false]; cases qdg (.s x) v l <;> rfl
  · rfl
noncomputable def qvS (pg : Pg) (fn : Fn) (H : List Obj) (f : V) (r : Option (Ex × St)) : Option Cr :=
  match f, r with
  | .fn h first cap, some (.nrm, st) => bif V.ok.oks (first ++ cap) then handle pg (exL pg) fn H h (first ++ cap) (.d .ni) st else none
  | .fn h first cap, some (.ret, st) => bif V.ok.oks (first ++ cap) then handle pg (exL pg) fn H h (first ++ cap) (.d .ni) st else none
  | .fn h first cap, some (.pan v, st) => bif V.ok.oks (first ++ cap) && ql4 v then handle pg (exL pg) fn H h (first ++ cap) v st else none
  | _, _ => none
theorem que {pg : Pg} {fn : Fn} {H : List Obj} {t : Nat} {rest : C} {st : St} : qtc pg fn H t rest (some (.nrm, st)) = qvS pg fn H (get t st.env) (exL pg rest st) := by
  show deferred pg (exL pg) fn H t rest st = _
  unfold deferred qvS
  cases get t st.env with
  | fn h first cap =>
    simp only []
    cases exL pg rest st with
    | none => cases V.ok.oks (first ++ cap) <;> rfl
    | some y =>
      obtain ⟨ex, s⟩ := y
      cases ex <;> cases hk : V.ok.oks (first ++ cap) <;> simp [hk]
  | _ => rfl
theorem qtW {pg : Pg} {fn : Fn} {H : List Obj} {h : Nat} {first cap : List V} {st : St} : qvS pg fn H (.fn h first cap) (some (.nrm, st)) = bif V.ok.oks (first ++ cap) then handle pg (exL pg) fn H h (first ++ cap) (.d .ni) st else none := (rfl)
theorem qvt {pg : Pg} {fn : Fn} {H : List Obj} {h : Nat} {first cap : List V} {st : St} : qvS pg fn H (.fn h first cap) (some (.ret, st)) = bif V.ok.oks (first ++ cap) then handle pg (exL pg) fn H h (first ++ cap) (.d .ni) st else none := (rfl)
theorem quv {pg : Pg} {fn : Fn} {H : List Obj} {h : Nat} {first cap : List V} {v : V} {st : St} : qvS pg fn H (.fn h first cap) (some (.pan v, st)) = bif V.ok.oks (first ++ cap) && ql4 v then handle pg (exL pg) fn H h (first ++ cap) v st else none := (rfl)
def qwz (fn : Fn) (H : List Obj) (e : Env) (r : Option (Ex × St)) : Option Cr :=
  match r with
  | some (.nrm, st) => qge H fn.own fn.res (some (.ret, ⟨e, st.H, st.lo⟩))
  | some (.ret, st) => qge H fn.own fn.res (some (.ret, ⟨e, st.H, st.lo⟩))
  | _ => none
theorem qt4 {fn : Fn} {H : List Obj} {e : Env} {st : St} : qwz fn H e (some (.nrm, st)) = qge H fn.own fn.res (some (.ret, ⟨e, st.H, st.lo⟩)) := (rfl)
theorem qvk {fn : Fn} {H : List Obj} {e : Env} {st : St} : qwz fn H e (some (.ret, st)) = qge H fn.own fn.res (some (.ret, ⟨e, st.H, st.lo⟩)) := (rfl)
theorem qD9 {fn : Fn} {H : List Obj} {v0 v : V} {st : St} : handle pgK (exL pgK) fn H 20 [v0] v st = qwz fn H st.env (exL pgK f_recheck_Check_1.body ⟨(4, v) :: jl 0 [v0], st.H, st.lo⟩) := by
  unfold handle qwz
  have h1 : pgK.fn 20 = some f_recheck_Check_1 := rfl
  simp only [h1]
  have h2 : f_recheck_Check_1.rcv = some 4 := rfl
  simp only [h2]
  have h3 : (qEr f_recheck_Check_1.np [v0].length && f_recheck_Check_1.res.isEmpty) = true := rfl
  simp only [h3, cond_true]
  cases exL pgK f_recheck_Check_1.body ⟨(4, v) :: jl 0 [v0], st.H, st.lo⟩ with
  | none => rfl
  | some y => obtain ⟨ex, s⟩ := y; cases ex <;> rfl
theorem qxG {v0 v1 : V} {H : List Obj} : qn pgK 11 [v0, v1] H = qtc pgK f_recheck_Check H 8 f_recheck_Check_D (exL pgK f_recheck_Check.body { env := jl 0 [v0, v1], H, lo := H.length }) := ql7 (fn := f_recheck_Check) rfl rfl rfl rfl
theorem qr9 {t : Nat} {x : V} : ql4 (.ifc t x) = x.ok := (rfl)
theorem qxz {x o : Obj} {l : List Obj} : kn (x :: l) 0 o = o :: l := (rfl)
theorem qxv {x o : Obj} {l : List Obj} {n : Nat} : kn (x :: l) (n + 1) o = x :: kn l n o := (rfl)
theorem quT {bx : Bool} {no : List Nat} {n : Nat} {cs : List V} {st : St} : qer bx no (some n) (.agg cs) st = some { st with env := (n, .agg cs) :: st.env } := (rfl)
theorem qvl {bx : Bool} {no : List Nat} {n : Nat} {xs : List D} {st : St} : qer bx no (some n) (.fsl xs) st = some { st with env := (n, .fsl xs) :: st.env } := (rfl)
theorem qzD : D.one .np = true := (rfl)
theorem qzd : D.one .nm = true := (rfl)
theorem qzN : D.one .ni = true := (rfl)
theorem qyK : D.one .nf = true := (rfl)
theorem qme {pg : Pg} {i : Nat} {first cap : List V} {args : List O} {st : St} (hl : V.allLeave (first ++ args.map (rd st.env) ++ cap) = true) : qnT pg (.fn i first cap) args st = qgI (qn pg i (first ++ args.map (rd st.env) ++ cap) st.H) args st := by
  simp only [qnT, hl, if_true, qgI]
  all_goals rfl
theorem qxI : f_recheck_Check.body = (.seq (.ops [⟨(some 2), .box true (.t 0), none⟩,
    ⟨(some 4), .alloc false [(.i .i64 0)], none⟩])
  (.ops [⟨(some 8), .mkFn 20 [] [(.t 4)], none⟩])) := (rfl)
theorem qzV : f_recheck_Check.res = [(.cell 4 ⟨1, false⟩)] := (rfl)
theorem qyp : f_recheck_Check.own = true := (rfl)
section
variable {pg : Pg} {k p0 p1 : Nat} {l : L} {live : List Nat} {a b : C} {c : V} {base : Env} {H : List Obj} {lo i : Nat} {st : St} {v : V}
noncomputable def qwE (pg : Pg) (l : L) (p0 p1 : Nat) (live : List Nat) (a b : C) (c : V) (st : St) : Option Nat → Option (Ex × St)
  | some n => rounds (exL pg a) (exL pg b) l c p0 p1 (y6 live st.env) n st.H st.lo
  | none => none
noncomputable def qAr (pg : Pg) (k : Nat) (l : L) (p0 p1 : Nat) (live : List Nat) (a b : C) (st : St) : V → Option (Ex × St)
  | .fn k' [] [c] => bif qEr k' k && c.ok then qwE pg l p0 p1 live a b c st (qaG c st.H st.lo) else none
  | _ => none
theorem quD {f : O} : exL pg (.rangeB k l f p0 p1 live a b) st = qAr pg k l p0 p1 live a b st (rd st.env f) := by
  rw [qbq]
  simp only [step]
  unfold qAr qwE
  generalize rd st.env f = w
  cases w with
  | fn k' x y => cases x with
    | nil => cases y with
      | nil => rfl
      | cons c t => cases t with
        | nil =>
          simp only []
          cases (qEr k' k && c.ok) with
          | false => rfl
          | true => cases qaG c st.H st.lo <;> rfl
        | cons _ _ => rfl
    | cons _ _ => rfl
  | _ => rfl
theorem qxl {k' : Nat} : qAr pg k l p0 p1 live a b st (.fn k' [] [c]) = bif qEr k' k && c.ok then qwE pg l p0 p1 live a b c st (qaG c st.H st.lo) else none := (rfl)
theorem qsZ {n : Nat} : qwE pg l p0 p1 live a b c st (some n) = rounds (exL pg a) (exL pg b) l c p0 p1 (y6 live st.env) n st.H st.lo := (rfl)
noncomputable def qrl (pg : Pg) (l : L) (c : V) (p0 p1 : Nat) (a b : C) (base : Env) (i : Nat) : Option (Ex × St) → Option (Ex × St)
  | some (.nrm, st) => rounds (exL pg a) (exL pg b) l c p0 p1 base i st.H st.lo
  | some (.exit j, st) => some (.exit j, ⟨base, st.H, st.lo⟩)
  | some (.ret, st) => some (.ret, ⟨base, st.H, st.lo⟩)
  | _ => none
noncomputable def qxg (pg : Pg) (l : L) (c : V) (p0 p1 : Nat) (a b : C) (base : Env) (i : Nat) : Option (Ex × St) → Option (Ex × St)
  | some (.nrm, st) => qrl pg l c p0 p1 a b base i (exL pg b st)
  | _ => none
noncomputable def qyh (pg : Pg) (l : L) (c : V) (p0 p1 : Nat) (a b : C) (base : Env) (i : Nat) (H : List Obj) (lo : Nat) : Option V → Option (Ex × St)
  | some v => bif v.ok then qxg pg l c p0 p1 a b base i (exL pg a ⟨(p1, v) :: (p0, .d (.i .i64 i)) :: base, H, lo⟩) else none
  | none => none
theorem qvQ : rounds (exL pg a) (exL pg b) l c p0 p1 base 0 H lo = some (.nrm, ⟨base, H, lo⟩) := (rfl)
theorem quX : rounds (exL pg a) (exL pg b) l c p0 p1 base (i + 1) H lo = qyh pg l c p0 p1 a b base i H lo (qir l c i H lo) := by
  simp only [rounds]
  unfold qyh qxg qrl
  cases qir l c i H lo with
  | none => rfl
  | some v =>
    simp only []
    cases v.ok with
    | false => rfl
    | true =>
      simp only [cond_true]
      cases exL pg a ⟨(p1, v) :: (p0, .d (.i .i64 i)) :: base, H, lo⟩ with
      | none => rfl
      | some y =>
        obtain ⟨ex, s⟩ := y
        cases ex <;> first
          | rfl
          | (cases exL pg b s with
             | none => rfl
             | some z => obtain ⟨ex, s⟩ := z; cases ex <;> rfl)
theorem qtb : qyh pg l c p0 p1 a b base i H lo (some v) = bif v.ok then qxg pg l c p0 p1 a b base i (exL pg a ⟨(p1, v) :: (p0, .d (.i .i64 i)) :: base, H, lo⟩) else none := (rfl)
theorem qtv : qxg pg l c p0 p1 a b base i (some (.nrm, st)) = qrl pg l c p0 p1 a b base i (exL pg b st) := (rfl)
theorem qu1 : qrl pg l c p0 p1 a b base i (some (.nrm, st)) = rounds (exL pg a) (exL pg b) l c p0 p1 base i st.H st.lo := (rfl)
theorem qsH {j : Nat} : qrl pg l c p0 p1 a b base i (some (.exit j, st)) = some (.exit j, ⟨base, st.H, st.lo⟩) := (rfl)
theorem qvU : qrl pg l c p0 p1 a b base i (some (.ret, st)) = some (.ret, ⟨base, st.H, st.lo⟩) := (rfl)
theorem qmX {e : Env} : y6 [] e = [] := (rfl)
theorem qlS {n : Nat} {l : List Nat} {e : Env} : y6 (n :: l) e = (n, bif (get n e).ok then get n e else .undef) :: y6 l e := (rfl)
end
def pg0 : Pg := ⟨fun _ => none, fun _ _ _ => none⟩
theorem qly : qee = qn pg0 := by
  funext f vs H
  rw [qdv]; rfl
def bcV : V → Option Nat
  | .d (.i .i64 n) => bif Nat.ble (n + 1).toNat 4611686018427387904 && leI 0 (n + 1) then some (n + 1).toNat else none
  | _ => none
def bcC : Option (Ex × St) → Option Nat
  | some (.nrm, st) => bcV (get 3 st.env)
  | _ => none
theorem qBz {n : Int} : bcV (.d (.i .i64 n)) = bif Nat.ble (n + 1).toNat 4611686018427387904 && leI 0 (n + 1) then some (n + 1).toNat else none := (rfl)
theorem qxT {st : St} : bcC (some (.nrm, st)) = bcV (get 3 st.env) := (rfl)
theorem qmA {c : V} {H : List Obj} {lo : Nat} : qaG c H lo = bcC (ze (qn pg0) yT ⟨[(1, c)], H, lo⟩) := by
  unfold qaG bcC bcV
  rw [qly]
  cases ze (qn pg0) yT ⟨[(1, c)], H, lo⟩ with
  | none => rfl
  | some y => obtain ⟨ex, s⟩ := y; cases ex <;> rfl
def baC : Option (Ex × St) → Option V
  | some (.nrm, st) => some (get 16 st.env)
  | _ => none
theorem qwp {st : St} : baC (some (.nrm, st)) = some (get 16 st.env) := (rfl)
theorem qr7 {l : L} {c : V} {i : Nat} {H : List Obj} {lo : Nat} : qir l c i H lo = baC (ze (qn pg0) (qav l) ⟨[(3, .d (.i .i64 i)), (1, c)], H, lo⟩) := by
  unfold qir baC
  rw [qly]
  cases ze (qn pg0) (qav l) ⟨[(3, .d (.i .i64 i)), (1, c)], H, lo⟩ with
  | none => rfl
  | some y => obtain ⟨ex, s⟩ := y; cases ex <;> rfl
def qq8 : Option Obj → Option V
  | some (.map es) => some (.d (.i .i64 es.length))
  | _ => none
def qqR (H : List Obj) : V → Option V
  | .d .nm => some (.d (.i .i64 0))
  | .map id => qq8 H[id]?
  | _ => none
theorem qsT {es : List (D × V)} : qq8 (some (.map es)) = some (.d (.i .i64 es.length)) := (rfl)
theorem qvV {H : List Obj} : qqR H (.d .nm) = some (.d (.i .i64 0)) := (rfl)
theorem qtk {H : List Obj} {id : Nat} : qqR H (.map id) = qq8 H[id]? := (rfl)
theorem qpM {call : Call} {x : O} {st : St} : kf call (.bi .lenM [x]) st = okS (qqR st.H (rd st.env x)) st := by
  show qh7 x st = _
  unfold qh7 qqR qq8 okS
  cases rd st.env x with
  | d y => cases y <;> rfl
  | map id => simp only []; cases st.H[id]? with
    | none => rfl
    | some o => cases o <;> rfl
  | _ => rfl
end W

