/-
  CheckLits: which constants are right, of any type; both checkers, of any constant: part 7 of what the proof rests on (a value semantics for a part of the language, sound against the model; the walks).
-/
import Derived.Test.YtdgbjjpdepdmmaaGreatDoorW6
set_option linter.unusedSimpArgs false
set_option linter.unusedVariables false
open Bool renaming false_eq_true → qDt, and_self → qDA, and_eq_true → qDB, or_true → qDC, cond_eq_ite → qDH, or_self → qDJ, not_true → qDL, not_false → qDM
open List renaming getElem?_cons_zero → qDu, getElem?_cons_succ → qDv, map_cons → qDy, length_nil → qDD, length_cons → qDE, map_nil → qDF, set_cons_zero → qDK, take_succ_cons → qDN, set_cons_succ → qDO, drop_zero → qDQ, take_zero → qDT, drop_succ_cons → qDX
open Option renaming map_some → qDw, bind_eq_some_iff → qDI, bind_eq_bind → qDP, pure_def → qDV
open Nat renaming le_refl → qDx, zero_add → qDz, beq → qDG, eq_of_beq_eq_true → qDR, zero_le → qDS, add_zero → qDU
open Int renaming cast_ofNat_Int → qDW
namespace W
open Go (IntKind BinOp UnOp)
set_option maxRecDepth 20000
theorem nmc : Nm [99] := ⟨by simp, by simp⟩
def qgj (c : Nat) : Bool := decide (32 ≤ c) && !decide (c = 34)
def qrq : V := .ifc 75 (.d (.agg [.i .i64 33]))
def qCm (b : Bool) (H : List Obj) (lo : Nat) (r : Option (Ex × St)) : Prop :=
  match b with
  | true => ∃ e, r = some (.exit 1, ⟨e, H, lo⟩)
  | false => ∃ e, r = some (.pan qrq, ⟨e, H, lo⟩)
theorem qCi {s : List Nat} {i : Nat} {c : Nat} (h : s[i]? = some c) : ixV (.d (.s s)) (.d (.i .i64 (i : Int))) = some (.d (.i .u8 (c : Int))) := by
  simp [ixV, qc9, h]
theorem qpp {x0 x1 x2 x3 x4 x5 x7 : D} {s : List Nat} (hl : s.length ≤ 1000) (hc : ∀ c ∈ s, c < 256) {H : List Obj} {lo : Nat} (hlo : lo ≤ H.length) :
    ∀ (m i : Nat) (e0 : Env), i + m = s.length → get 3 e0 = .box [.d x0, .d x1, .d x2, .d x3, .d x4, .d x5, .d (.s s), .d x7] → get 65 e0 = .d (.i .i64 (s.length : Int)) → get 66 e0 = .d (.i .i64 (i : Int)) → qCm ((s.drop i).all qgj) H lo (exL pgK f_recheck_checker_lit_L0 ⟨e0, H, lo⟩)
  | 0, i, e0, hi, g3, g65, g66 => by
    have h1 : ((i : Int) < (s.length : Int)) = False := by rw [eq_iff_iff]; simp; omega
    have hd : s.drop i = [] := List.drop_eq_nil_of_le (by omega)
    rw [hd]
    simp only [f_recheck_checker_lit_L0, jy]
    simp only [List.all_nil, f_recheck_checker_lit_B0, k_, e_, m_, a_, d_, o_, q_, l_, c_, g_, qo, g3, zx, g65, kc, g66, qp, qw, qx, qk, qi, kf, qDJ, kL, Nat.reduceEqDiff, qH, qE, qy, kq, h1, decide_false, ql, qI, qZ, qa, qc, qA, qL, qDt, ↓reduceIte, j7, zY]
    exact ⟨_, rfl⟩
  | m + 1, i, e0, hi, g3, g65, g66 => by
    have h1 : ((i : Int) < (s.length : Int)) = True := by rw [eq_iff_iff]; simp; omega
    have hlt : i < s.length := by omega
    have hy : s[i]? = some s[i] := List.getElem?_eq_getElem hlt
    have hmem : s[i] ∈ s := List.getElem_mem hlt
    have hx := qCi hy
    have he := fun e0 => qpp (x0 := x0) (x1 := x1) (x2 := x2) (x3 := x3) (x4 := x4) (x5 := x5) (x7 := x7) hl hc hlo m (i + 1) e0 (by omega)
    have hd : s.drop i = s[i] :: s.drop (i + 1) := List.drop_eq_getElem_cons hlt
    rw [hd]
    have hp : wr .i64 ((i : Int) + 1) = ((i + 1 : Nat) : Int) := by rw [qby (by omega) (by omega)]; omega
    have hmin : min lo H.length = lo := Nat.min_eq_left hlo
    simp only [f_recheck_checker_lit_L0] at he
    simp only [f_recheck_checker_lit_L0]
    rw [jy]
    generalize C.loop [3, 65, 66] f_recheck_checker_lit_B0 = L at he ⊢
    generalize s[i] = c at hx ⊢
    by_cases c1 : 32 ≤ c
    · have k1 : ((32 : Int) ≤ (c : Int)) = True := eq_true (by omega)
      by_cases c2 : c = 34
      · have k2 : ((c : Int) = 34) = True := eq_true (by omega)
        simp only [List.all_cons, qgj, c1, c2, decide_true, qDL, Bool.and_false, Bool.false_and]
        simp only [f_recheck_checker_lit_B0, k_, e_, m_, a_, d_, o_, q_, l_, c_, g_, qo, g3, zx, g65, kc, g66, qp, qw, qx, qk, qi, kf, qDJ, kL, Nat.reduceEqDiff, qH, qE, qy, kq, h1, decide_true, ql, qI, qZ, qa, qc, qA, qL, ↓reduceIte, qP, qF, qd, qz, qb, ke, ja, qDz, jB, qq, kQ, kI, jC, qDv, qDu, qDw, q9, kZ, hx, kA, qDC, kS, jz, k1, qS, ky, kh, qff, k2, qDL, qD, ku, qt, qDy, qDF, qf, qC, qh, qDA, qV, qtC, bdyK, f_recheck_typed, v_, i_, qn, qu, jW, zn, kG, qqq, f_recheck_must, u_, z_, Nat.reduceAdd, kK, zW, qDM, reduceCtorEq, k9, z8, kP, kU, qDE, qDD, Nat.reduceLT, yb, qDK, zS, zU, kY, ju, za, kz, kJ, qci, qep, qcN, qeU, qaT, qhu, qbb, y7, qdd, qkv, qfU, ji, qDS, qdR, qDx, kn, qr, qe, qG, qg, yW, hmin, qaO, yU]
        exact ⟨_, rfl⟩
      · have k2 : ((c : Int) = 34) = False := eq_false (by omega)
        simp only [List.all_cons, qgj, c1, c2, decide_true, decide_false, qDM, Bool.and_true, Bool.true_and]
        simp only [f_recheck_checker_lit_B0, k_, e_, m_, a_, d_, o_, q_, l_, c_, g_, qo, g3, zx, g65, kc, g66, qp, qw, qx, qk, qi, kf, qDJ, kL, Nat.reduceEqDiff, qH, qE, qy, kq, h1, decide_true, ql, qI, qZ, qa, qc, qA, qL, ↓reduceIte, qP, qF, qd, qz, qb, ke, ja, qDz, jB, qq, kQ, kI, jC, qDv, qDu, qDw, q9, kZ, hx, kA, qDC, kS, jz, k1, qS, ky, kh, qff, k2, decide_false, qDM, qD, ku, qt, qDy, qDF, qf, qC, qh, qDA, qV, qtC, bdyK, f_recheck_typed, v_, i_, qn, qu, jW, zn, kG, qqq, f_recheck_must, u_, z_, Nat.reduceAdd, kK, zW, qDL, qDt, qem, qm, qfK, qcR, yC, qfY, qeY, qDS, qdm, qDx, kn, qr, qe, qG, qg, yW, kr, hmin, kg, zJ, hp]
        exact he _ rfl rfl rfl
    · have k1 : ((32 : Int) ≤ (c : Int)) = False := eq_false (by omega)
      simp only [List.all_cons, qgj, c1, decide_false, Bool.false_and]
      simp only [f_recheck_checker_lit_B0, k_, e_, m_, a_, d_, o_, q_, l_, c_, g_, qo, g3, zx, g65, kc, g66, qp, qw, qx, qk, qi, kf, qDJ, kL, Nat.reduceEqDiff, qH, qE, qy, kq, h1, decide_true, ql, qI, qZ, qa, qc, qA, qL, ↓reduceIte, qP, qF, qd, qz, qb, ke, ja, qDz, jB, qq, kQ, kI, jC, qDv, qDu, qDw, q9, kZ, hx, kA, qDC, kS, jz, k1, decide_false, qS, ky, kh, qDt, kr, qD, qY, z7, qt, qDy, qDF, qf, qC, qh, qDA, qV, qtC, bdyK, f_recheck_typed, v_, i_, qn, qu, jW, zn, kG, qqq, f_recheck_must, u_, z_, Nat.reduceAdd, kK, zW, qDM, reduceCtorEq, k9, z8, kP, kU, qDE, qDD, Nat.reduceLT, yb, qDK, zS, zU, kY, ju, za, kz, kJ, qci, qep, qcN, qeU, qaT, qhu, qbb, y7, qdd, qkv, qfU, ji, qDS, qdR, qDx, kn, qr, qe, qG, qg, yW, hmin, qaO, yU]
      exact ⟨_, rfl⟩
def qBe (b : Bool) (H : List Obj) (lo : Nat) (r : Option (Ex × St)) : Prop :=
  match b with
  | true => ∃ e, r = some (.exit 1, ⟨e, H, lo⟩)
  | false => ∃ e, r = some (.ret, ⟨e, H, lo⟩) ∧ get 2 e = .d (.b false)
theorem qrr {x0 x1 x2 x3 x4 x5 x7 : D} {s : List Nat} (hl : s.length ≤ 1000) (hc : ∀ c ∈ s, c < 256) {H : List Obj} {lo : Nat} :
    ∀ (m i : Nat) (e0 : Env), i + m = s.length → get 1 e0 = .box [.d x0, .d x1, .d x2, .d x3, .d x4, .d x5, .d (.s s), .d x7] → get 3 e0 = .d (.i .i64 (i : Int)) → qBe ((s.drop i).all qgj) H lo (exL pgK f_waferref17_RightLit_L0 ⟨e0, H, lo⟩)
  | 0, i, e0, hi, g1, g3 => by
    have h1 : ((i : Int) < (s.length : Int)) = False := by rw [eq_iff_iff]; simp; omega
    have hd : s.drop i = [] := List.drop_eq_nil_of_le (by omega)
    rw [hd]
    simp only [f_waferref17_RightLit_L0, jy]
    simp only [List.all_nil, f_waferref17_RightLit_B0, k_, m_, a_, d_, o_, e_, q_, l_, g_, qo, g1, zx, g3, kc, qp, qw, qx, qk, qd, kL, Nat.reduceEqDiff, qH, qE, qy, qz, qI, qZ, qb, ke, ja, qDz, ql, jB, qq, kQ, kI, jC, qDv, qDu, qDw, q9, qM, kT, qi, kf, qDJ, kq, h1, decide_false, qa, qc, qA, qL, qDt, ↓reduceIte, j7, zY]
    exact ⟨_, rfl⟩
  | m + 1, i, e0, hi, g1, g3 => by
    have h1 : ((i : Int) < (s.length : Int)) = True := by rw [eq_iff_iff]; simp; omega
    have hlt : i < s.length := by omega
    have hy : s[i]? = some s[i] := List.getElem?_eq_getElem hlt
    have hmem : s[i] ∈ s := List.getElem_mem hlt
    have hx := qCi hy
    have he := fun e0 => qrr (x0 := x0) (x1 := x1) (x2 := x2) (x3 := x3) (x4 := x4) (x5 := x5) (x7 := x7) hl hc (H := H) (lo := lo) m (i + 1) e0 (by omega)
    have hd : s.drop i = s[i] :: s.drop (i + 1) := List.drop_eq_getElem_cons hlt
    rw [hd]
    have hp : wr .i64 ((i : Int) + 1) = ((i + 1 : Nat) : Int) := by rw [qby (by omega) (by omega)]; omega
    simp only [f_waferref17_RightLit_L0] at he
    simp only [f_waferref17_RightLit_L0]
    rw [jy]
    generalize C.loop [1, 3] f_waferref17_RightLit_B0 = L at he ⊢
    generalize s[i] = c at hx ⊢
    by_cases c1 : 32 ≤ c
    · have k1 : ((c : Int) < 32) = False := eq_false (by omega)
      by_cases c2 : c = 34
      · have k2 : ((c : Int) = 34) = True := eq_true (by omega)
        simp only [List.all_cons, qgj, c1, c2, decide_true, qDL, Bool.and_false, Bool.false_and]
        simp only [f_waferref17_RightLit_B0, k_, m_, a_, d_, o_, e_, q_, l_, g_, qo, g1, zx, g3, kc, qp, qw, qx, qk, qd, kL, Nat.reduceEqDiff, qH, qE, qy, qz, qI, qZ, qb, ke, ja, qDz, ql, jB, qq, kQ, kI, jC, qDv, qDu, qDw, q9, qM, kT, qi, kf, qDJ, kq, h1, decide_true, qa, qc, qA, qL, ↓reduceIte, qP, qF, kZ, hx, kA, qDC, kS, k1, decide_false, qS, kx, qDM, kh, zK, k2, qD, ku, qDt, qG, qQ, ze, kC]
        exact ⟨_, rfl, rfl⟩
      · have k2 : ((c : Int) = 34) = False := eq_false (by omega)
        simp only [List.all_cons, qgj, c1, c2, decide_true, decide_false, qDM, Bool.and_true, Bool.true_and]
        simp only [f_waferref17_RightLit_B0, k_, m_, a_, d_, o_, e_, q_, l_, g_, qo, g1, zx, g3, kc, qp, qw, qx, qk, qd, kL, Nat.reduceEqDiff, qH, qE, qy, qz, qI, qZ, qb, ke, ja, qDz, ql, jB, qq, kQ, kI, jC, qDv, qDu, qDw, q9, qM, kT, qi, kf, qDJ, kq, h1, decide_true, qa, qc, qA, qL, ↓reduceIte, qP, qF, kZ, hx, kA, qDC, kS, k1, decide_false, qS, kx, qDM, kh, zK, k2, qD, ku, qDt, kg, zJ, hp]
        exact he _ rfl rfl
    · have k1 : ((c : Int) < 32) = True := eq_true (by omega)
      simp only [List.all_cons, qgj, c1, decide_false, Bool.false_and]
      simp only [f_waferref17_RightLit_B0, k_, m_, a_, d_, o_, e_, q_, l_, g_, qo, g1, zx, g3, kc, qp, qw, qx, qk, qd, kL, Nat.reduceEqDiff, qH, qE, qy, qz, qI, qZ, qb, ke, ja, qDz, ql, jB, qq, kQ, kI, jC, qDv, qDu, qDw, q9, qM, kT, qi, kf, qDJ, kq, h1, decide_true, qa, qc, qA, qL, ↓reduceIte, qP, qF, kZ, hx, kA, qDC, kS, k1, qS, kx, qDL, kh, qDt, kr, qD, qY, qar, qG, qQ, ze, kC]
      exact ⟨_, rfl, rfl⟩
end W

set_option linter.unusedSimpArgs false
set_option linter.unusedVariables false
namespace W
open Go (IntKind BinOp UnOp)
set_option maxRecDepth 20000
set_option maxHeartbeats 4000000
theorem qx3 {o : D} (ho : o = .nil ∨ o = .sl []) {s : List Nat} (hl : s.length ≤ 1000) (hc : ∀ c ∈ s, c < 256) {p : Nat} {H : List Obj} :
    qs pgK 153 [.ptr p 0, .d (.agg [.i .i64 0, .i .i64 6, .i .i64 0, .s [], o, .i .i32 0, .s s, .nil])] H = bif s.all qgj then some ⟨false, true, .tup [], H, H.length⟩ else some ⟨true, true, qrq, H, H.length⟩ := by
  have hloop := fun e0 => qpp (x0 := .i .i64 0) (x1 := .i .i64 6) (x2 := .i .i64 0) (x3 := .s []) (x4 := o) (x5 := .i .i32 0) (x7 := .nil) hl hc (H := H) (lo := H.length) (qDx _) s.length 0 e0 (by omega)
  simp only [qDQ] at hloop
  rw [qyj]
  rcases ho with rfl | rfl
  all_goals
    simp only [bdyK, f_recheck_checker_lit, k_, o_, s_, a_, d_, m_, c_, v_, q_, l_, i_, g_, qn, qDz, Nat.reduceAdd, qu, qw, qx, qk, zy, kL, reduceCtorEq, qH, qE, qy, qz, ki, qDy, qDF, qX, kU, z8, jO, yD, kj, qDA, yI, qI, kE, qJ, zG, zj, qN, qa, qc, qb, ke, ja, ql, jB, kQ, qDU, qq, kI, Nat.reduceEqDiff, jC, qDv, qDu, qDw, q9, qZ, qd, jP, jl, jk, qeR, qcn, qiB, jm, qDE, qDD, Nat.reduceLeDiff, jU, qDX, qDQ, qDN, qDT, kY, ju, za, kz, kJ, y9, qt, qf, qC, qh, qV, qyu, f_types_Basic, z_, kl, k9, kP, Nat.reduceLT, yb, qDK, zS, zU, kB, zT, zA, jo, qDx, ↓reduceIte, List.nil_append, List.append_nil, zc, zF, qQ, qO, qj, zP, qaj, qm, qB, qU, ji, qDS, kD, kn, qr, qe, qg, yW, zq, qBf, f_recheck_same, yr, kS, qG, jT, ym, qcP, List.cons_append, qys, f_tree_SameExpr, e_, qi, kf, qDJ, zK, decide_true, qS, ky, kh, qyf, f_tree_sameType, qD, ku, j6, qhT, yF, yC, qyo, f_slices_EqualFunc___api_Type___api_Type_api_Type_api_Type_, n_, f_slices_EqualFunc___api_Type___api_Type_api_Type_api_Type__L0, f_slices_EqualFunc___api_Type___api_Type_api_Type_api_Type__B0, x_, u_, f_slices_EqualFunc___api_Type___api_Type_api_Type_api_Type__R1, ko, ye, qff, qDL, qA, qL, qDt, qP, qF, jy, qo, kc, qcd, qp, kq, Int.reduceLT, decide_false, j7, zY, zC, qT, kX, qcc, qyk, f_slices_EqualFunc___api_Expr___api_Expr_api_Expr_api_Expr_, f_slices_EqualFunc___api_Expr___api_Expr_api_Expr_api_Expr__L0, f_slices_EqualFunc___api_Expr___api_Expr_api_Expr_api_Expr__B0, f_slices_EqualFunc___api_Expr___api_Expr_api_Expr_api_Expr__R1, jW, zn, kG, qdo, qej, kA, qDC, kr, qY, z7, qyw, f_recheck_bare, kx, qDM, qar, zr, qtC, f_recheck_typed, qqq, f_recheck_must, kK, zW, qem, qfK, qcR, qfY, qeY, qdm, Int.reduceEq, qM, kT, qab, jR, qDW]
    generalize hq : exL pgK f_recheck_checker_lit_L0 _ = q
    have hL : qCm (s.all qgj) H H.length q := by rw [← hq]; exact hloop _ rfl rfl rfl
    clear hq
    cases hb : s.all qgj with
    | true =>
      rw [hb] at hL
      obtain ⟨e, rfl⟩ := hL
      simp only [zC, ↓reduceIte, qp, kg, qem, qm, qfK, qcR, yC, qfY, qeY, qDS, qdm, qDx, kn, cond_true]
    | false =>
      rw [hb] at hL
      obtain ⟨e, rfl⟩ := hL
      simp only [qrq, qaO, y7, qdd, qkv, qfU, ji, qDS, qdR, qDx, kn, cond_false]
theorem qAW {o : D} (ho : o = .nil ∨ o = .sl []) {s : List Nat} (hl : s.length ≤ 120) (hc : ∀ c ∈ s, c < 256) {H : List Obj} :
    qs pgK 97 [.d (.agg [.i .i64 0, .i .i64 6, .i .i64 0, .s [], o, .i .i32 0, .s s, .nil])] H = some ⟨false, true, .d (.b (s.all qgj)), H, H.length⟩ := by
  have h120 : ((120 : Int) < (s.length : Int)) = False := eq_false (by omega)
  have hloop := fun e0 => qrr (x0 := .i .i64 0) (x1 := .i .i64 6) (x2 := .i .i64 0) (x3 := .s []) (x4 := o) (x5 := .i .i32 0) (x7 := .nil) (by omega) hc (H := H) (lo := H.length) s.length 0 e0 (by omega)
  simp only [qDQ] at hloop
  rw [qCq]
  rcases ho with rfl | rfl
  all_goals
    simp only [bdyK, f_waferref17_RightLit, k_, o_, a_, d_, g_, m_, q_, l_, i_, s_, f_waferref17_RightLit_R2, qn, qDz, qu, qw, qx, qk, zy, kL, qE, qy, qz, ki, qDy, qDF, qX, kU, z8, jO, yD, kj, qDA, yI, qI, kE, qJ, zj, qN, qd, kS, qG, qZ, qa, qc, jP, jl, qb, Nat.reduceEqDiff, qH, ke, ja, qDU, ql, zq, qeR, qcn, qiB, jm, qq, kQ, kI, jC, qDu, qDw, q9, y9, qi, kf, kA, qDC, qff, decide_true, qDL, qdo, kx, qDM, qej, ↓reduceIte, qDv, ko, ye, kW, Int.reduceLT, decide_false, qD, ku, qDt, jk, Nat.reduceAdd, qDE, qDD, Nat.reduceLeDiff, jU, qDX, qDQ, qDN, qDT, kY, ju, za, kz, kJ, qt, qf, qC, qh, qV, qyy, f_waferref17_basic, v_, c_, z_, kl, jW, reduceCtorEq, zn, kG, qyx, f_waferref11_Basic, k9, kP, Nat.reduceLT, yb, qDK, zS, zU, kB, zT, zA, jo, qDx, List.nil_append, List.append_nil, zc, zF, qQ, qO, qj, zP, qaj, qm, qB, qU, ji, qDS, kD, kn, qr, qe, qg, yW, qyl, f_waferref11_Alike, e_, f_waferref11_Alike_L0, f_waferref11_Alike_B0, n_, x_, u_, f_waferref11_Alike_R1, yr, jB, qDJ, qS, kh, qk4, qA, qL, qP, qF, jy, qo, zx, kc, qp, kq, j7, zY, zC, qT, kX, kK, zW, zr, zK, Int.reduceEq, qM, kT, h120, qab, jR, qDW]
    generalize hq : exL pgK f_waferref17_RightLit_L0 _ = q
    have hL : qBe (s.all qgj) H H.length q := by rw [← hq]; exact hloop _ rfl rfl
    clear hq
    cases hb : s.all qgj with
    | true =>
      rw [hb] at hL
      obtain ⟨e, rfl⟩ := hL
      simp only [zC, ↓reduceIte, qp, f_waferref17_RightLit_R1, k_, o_, qc, qw, qx, qk, qd, kS, qG, qI, qZ, qa, qQ, ze, kC, qO, qj, qT, qE, kX, qm, qB, qU, qC, ji, qDS, kD, qDx, kn]
    | false =>
      rw [hb] at hL
      obtain ⟨e, rfl, hg⟩ := hL
      simp only [ze, f_waferref17_RightLit_R1, k_, o_, kC, qO, qj, qT, hg, kX, qm, qB, qU, qC, ji, qDS, kD, qDx, kn]
end W

set_option linter.unusedSimpArgs false
set_option linter.unusedVariables false
namespace W
open Go (IntKind BinOp UnOp)
set_option maxRecDepth 20000
set_option maxHeartbeats 4000000
theorem leS {o : D} (ho : o = .nil ∨ o = .sl []) {s : List Nat} (hl : s.length ≤ 120) (hc : ∀ c ∈ s, c < 256) (hS : ∀ H, qs pgK 22 [.d (lmod 6 0 [] o 0 s)] H = some ⟨false, true, .d (.b true), H, H.length⟩) :
    (s.all qgj = true → qdM 11 (lmod 6 0 [] o 0 s)) ∧ (s.all qgj = false → Bad 11 (lmod 6 0 [] o 0 s)) := by
  have jM := nmM.i14 (b := true) (by decide)
  have jc := nmc.i14 (b := true) (by decide)
  have hx := fun {p : Nat} {H : List Obj} => qx3 ho (s := s) (by omega) hc (p := p) (H := H)
  refine ⟨fun hb => ?_, fun hb => ?_⟩
  all_goals
    simp only [hb, qrq, cond_true, cond_false] at hx
    rcases ho with rfl | rfl
  all_goals
    simp only [lmod, lty] at hS
    first | unfold qdM | unfold Bad
    rw [qxt]
    simp (config := { maxSteps := 100000000 }) only [f_recheck_Check_D, k_, o_, s_, c_, i_, a_, d_, v_, m_, n_, f_recheck_Check_L0, f_recheck_Check_B0, e_, x_, z_, g_, f_recheck_Check_R1, l_, qn4, lmod, qn, qDz, Nat.reduceAdd, qu, qDD, qw, qx, qk, zy, kL, qE, qy, qz, ki, qDy, qDF, qX, kU, jO, yD, qab, kj, qDA, yI, qI, kE, qJ, zj, qN, qeX, List.nil_append, zw, qa, qc, qeC, kp, yC, qc1, qhz, qgv, qeG, qlh, qP, qq, Nat.reduceEqDiff, qH, ke, kI, qDE, qDx, jU, qDQ, qDN, qDT, q9, kY, ju, za, kz, kJ, ql, qZ, qt, qf, qC, qh, qV, hS, qr, qe, qg, qDS, yW, kS, qqq, bdyK, f_recheck_must, u_, qd, kK, zW, qDL, qDw, qA, qL, qDt, ↓reduceIte, qem, qm, qfK, qcR, qfY, qeY, qdm, kn, qG, kr, jP, jl, jk, y9, jm, qb, ja, qDU, qeR, qcn, qiB, kQ, jC, qDu, jW, reduceCtorEq, zn, kG, qBp, f_front_NewEnv, f_front_NewEnv_L2, f_front_NewEnv_B2, h_, f_front_NewEnv_A0, f_front_NewEnv_B0, f_front_NewEnv_R1, f_front_NewEnv_R3, qhU, List.cons_append, qn3, k9, qjO, kP, Nat.reduceLT, yb, qDK, qka, ql4, qDO, zS, zU, qlD, qiR, qjN, qrT, qjY, qjK, qiZ, qgg, kB, yk, qDv, qmB, qoo, zE, jo, qDX, List.append_nil, zB, qni, qkG, Nat.reduceLeDiff, zF, qe4, qkv, qn5, qlm, qq8, qj2, ko, ye, qF, jy, qo, kc, zV, qjX, qp, qi, kf, qDJ, kq, Int.reduceLT, decide_false, j7, zY, zC, kv, zk, qmE, qQ, qO, qj, qT, qoQ, qB, qU, kN, qrj, qmi, qjT, zq, yd, jT, ym, qcP, qo6, qk7, qp9, qlk, zr, qA7, f_recheck_checker_heads, q_, f_recheck_checker_heads_L0, f_recheck_checker_heads_B0, f_recheck_checker_heads_R10, f_recheck_checker_heads_L1, f_recheck_checker_heads_B1, f_recheck_checker_heads_R9, f_recheck_checker_heads_L2, f_recheck_checker_heads_B2, f_recheck_checker_heads_R8, f_recheck_checker_heads_L3, f_recheck_checker_heads_B3, f_recheck_checker_heads_R7, f_recheck_checker_heads_L4, f_recheck_checker_heads_B4, f_recheck_checker_heads_R6, f_recheck_checker_heads_L5, f_recheck_checker_heads_B5, qR, zX, qnn, kl, zG, zT, zA, zc, jB, jM, qS, ky, kh, kA, qDC, qk4, List.cons.injEq, List.ne_cons_self, and_self, qDM, qD, ku, qCa, f_recheck_name, qdn, zx, qcd, jR, qDW, decide_true, qW, qfo, qc9, Int.reduceLE, Int.toNat_zero, qgV, jE, qfH, cond_true, yg, zO, jh, qdh, yr, qoW, qgD, z8, qfd, qeH, qBO, f_recheck_checker_heads_1, jc, qgH, qma, qjW, qqu, qlc, qyg, qoN, kg, zJ, Int.reduceAdd, Int.reduceNeg, qnG, qB9, f_recheck_checker_records, f_recheck_checker_records_L0, f_recheck_checker_records_B0, f_recheck_checker_records_R7, f_recheck_checker_records_L6, f_recheck_checker_records_B6, r_, f_recheck_checker_records_L1, f_recheck_checker_records_B1, f_recheck_checker_records_R4, f_recheck_checker_records_L2, f_recheck_checker_records_B2, f_recheck_checker_records_R3, f_recheck_checker_records_R5, qA2, f_recheck_checker_declared, f_recheck_checker_declared_L0, f_recheck_checker_declared_B0, f_recheck_checker_declared_R6, f_recheck_checker_declared_L1, f_recheck_checker_declared_B1, f_recheck_checker_declared_R5, f_recheck_checker_declared_L2, f_recheck_checker_declared_B2, f_recheck_checker_declared_R4, f_recheck_checker_declared_L3, f_recheck_checker_declared_B3, qCs, f_recheck_checker_expr, f_recheck_checker_expr_L0, f_recheck_checker_expr_B0, f_recheck_checker_expr_R1, f_recheck_checker_expr_R4, f_recheck_checker_expr_L2, f_recheck_checker_expr_B2, f_recheck_checker_expr_R3, zK, Int.reduceEq, qfu, hx, qff, qtC, f_recheck_typed, qA5, f_recheck_checker_body, f_recheck_checker_body_L2, f_recheck_checker_body_B2, f_recheck_checker_body_L0, f_recheck_checker_body_B0, f_recheck_checker_body_R1, qoK, qzP, f_recheck_Check_1, qiE, ql5, qqD, qq6, zP, qgs, ji, kD, qbb, qaO, y7, qdd, qfU, qdR, yU, qlM, qj9, qaT, qcN, qf6, qd7, qf8, qY, jg, qcQ, qcV, qcI, qbq, qic]
    first | exact ⟨_, rfl⟩ | exact ⟨_, _, rfl, by decide⟩
theorem lfS {o : D} (ho : o = .nil ∨ o = .sl []) {s : List Nat} (hl : s.length ≤ 120) (hc : ∀ c ∈ s, c < 256) (hS : ∀ H, qs pgK 37 [.d (lmod 6 0 [] o 0 s)] H = some ⟨false, true, .d (.b true), H, H.length⟩) :
    (s.all qgj = true → qdM 16 (lmod 6 0 [] o 0 s)) ∧ (s.all qgj = false → Bad 16 (lmod 6 0 [] o 0 s)) := by
  have jM := nmM.i15 (b := true) (by decide)
  have jc := nmc.i15 (b := true) (by decide)
  have hx := fun {H : List Obj} => qAW ho (s := s) hl hc (H := H)
  refine ⟨fun hb => ?_, fun hb => ?_⟩
  all_goals
    simp only [hb] at hx
    rcases ho with rfl | rfl
  all_goals
    simp only [lmod, lty] at hS
    first | unfold qdM | unfold Bad
    rw [qwh]
    simp (config := { maxSteps := 100000000 }) only [bdyK, f_waferref17_Check, k_, o_, i_, s_, c_, u_, a_, d_, v_, m_, q_, f_waferref17_Check_L0, f_waferref17_Check_B0, n_, e_, x_, g_, f_waferref17_Check_R1, z_, l_, lmod, qn, qDz, Nat.reduceAdd, qu, qDD, qw, qx, qk, zy, kL, qE, qy, qz, ki, qDy, qDF, qX, kU, jO, yD, qab, kj, qDA, yI, qI, kE, qJ, zj, qN, qd, kS, qG, qZ, qa, qc, qq, Nat.reduceEqDiff, qH, ke, kI, qDE, qDx, jU, qDQ, qDN, qDT, q9, kY, ju, za, kz, kJ, ql, qt, qf, qC, qh, qV, hS, qr, qe, qg, yW, kK, zW, qDL, qDw, qA, qL, qDt, ↓reduceIte, qP, qb, ja, qDU, jB, kQ, jC, qDu, jW, reduceCtorEq, zn, kG, qBQ, f_waferref17_Others, f_waferref17_Others_L0, f_waferref17_Others_B0, h_, f_waferref17_Others_R1, qF, jy, qo, kc, qp, ko, ye, qi, kf, qDJ, kq, Int.reduceLT, decide_false, j7, zY, zC, qQ, qO, qj, qT, kX, qm, qB, qU, ji, kD, kn, jP, jl, jk, y9, jm, kF, jE, List.reduceReplicate, Nat.reduceLT, jp, qDK, jN, yl, qcU, jT, ym, yT, yj, qkQ, qfh, qgn, qkg, qh7, yh, qCr, f_waferref11_Recs, f_waferref11_Recs_L2, f_waferref11_Recs_B2, f_waferref11_Recs_L0, f_waferref11_Recs_B0, r_, f_waferref11_Recs_R1, f_waferref11_Recs_R3, qhU, List.nil_append, qn3, qjO, List.cons_append, qjX, jR, qDW, decide_true, qW, qfo, qc9, Int.reduceLE, Int.toNat_zero, qgV, qfH, cond_true, yg, zO, qfr, qks, yH, qgH, qma, qDv, qjW, qqu, qlc, qe4, qkv, qn5, qlm, qq8, qj2, qni, qkG, qDS, zF, qrE, qjs, kg, kA, qDC, zJ, Int.reduceAdd, Int.reduceNeg, qnG, qpA, qlI, qrG, qls, qjT, zq, qpi, k9, Nat.reduceLeDiff, qcP, qDX, kP, yb, qDO, qka, ql4, zS, zU, qlD, qiR, qjN, qk7, qjY, qjK, qiZ, qp9, qgg, qlk, yd, kp, zr, zw, kN, qCf, f_waferref17_ctx_names, f_waferref17_ctx_names_L0, f_waferref17_ctx_names_B0, f_waferref17_ctx_names_R1, qR, zX, kv, qnn, kl, zG, kB, zT, zA, jo, List.append_nil, zc, jM, qS, kx, qDM, kh, j6, List.cons.injEq, List.ne_cons_self, and_self, qD, ku, qBR, f_waferref17_all, f_waferref17_all_L0, f_waferref17_all_B0, f_waferref17_all_R9, f_waferref17_all_L1, f_waferref17_all_B1, f_waferref17_all_R8, f_waferref17_all_L2, f_waferref17_all_B2, f_waferref17_all_R7, f_waferref17_all_L3, f_waferref17_all_B3, f_waferref17_all_R6, f_waferref17_all_L4, f_waferref17_all_B4, f_waferref17_all_R5, qkd, zx, qeg, qgX, yY, qkl, roomy, Nat.reduceMul, qhN, qgF, y4, qBC, f_waferref17_once, f_waferref17_once_L0, f_waferref17_once_B0, f_waferref17_once_R1, jc, qCj, f_waferref17_imported, f_waferref17_imported_L0, f_waferref17_imported_B0, f_waferref17_imported_R1, zV, qBT, f_waferref17_ctx_types, f_waferref17_ctx_types_L0, f_waferref17_ctx_types_B0, f_waferref17_ctx_types_R11, f_waferref17_ctx_types_L5, f_waferref17_ctx_types_B5, f_waferref17_ctx_types_L1, f_waferref17_ctx_types_B1, f_waferref17_ctx_types_R3, f_waferref17_ctx_types_L2, f_waferref17_ctx_types_B2, f_waferref17_ctx_types_R4, f_waferref17_ctx_types_R10, f_waferref17_ctx_types_L6, f_waferref17_ctx_types_B6, f_waferref17_ctx_types_R9, f_waferref17_ctx_types_L7, f_waferref17_ctx_types_B7, f_waferref17_ctx_types_R8, qjm, jh, qdh, qpa, cond_false, yr, z8, hx, qBJ, f_waferref17_is, zK, Int.reduceEq, yk, zE, zB, qfu, qBo, f_waferref17_ctx_body, f_waferref17_ctx_body_L0, f_waferref17_ctx_body_B0, f_waferref17_ctx_body_R1, kr, qY, qar, ze, kC]
    first | exact ⟨_, rfl⟩ | exact ⟨_, _, rfl, by decide⟩
end W

set_option linter.unusedSimpArgs false
set_option linter.unusedVariables false
namespace W
open Go (IntKind BinOp UnOp)
set_option maxRecDepth 20000
set_option maxHeartbeats 4000000
def Lim (n : Nat) (m : D) : Prop := ∃ lo, qs pgK n [.d m, .d .nil] [] = some ⟨false, true, .d (.i .i64 34), [], lo⟩
theorem leL {f n i : Int} {nm s : List Nat} {o : D} (ho : D.one o = true) (hS : ∀ H, qs pgK 22 [.d (lmod f n nm o i s)] H = some ⟨false, true, .d (.b false), H, H.length⟩) : Lim 11 (lmod f n nm o i s) := by
  simp only [lmod, lty] at hS
  unfold Lim
  rw [qxt]
  simp only [f_recheck_Check_D, k_, o_, s_, c_, i_, a_, d_, v_, m_, n_, f_recheck_Check_R1, z_, l_, qn4, lmod, qn, qDz, Nat.reduceAdd, qu, qDD, qw, qx, qk, zy, kL, qE, qy, qz, ki, qDy, qDF, qX, kU, jO, yD, qab, kj, qDA, yI, qI, kE, qJ, zj, qN, qeX, List.nil_append, zw, qa, qc, qeC, kp, yC, qc1, qhz, qgv, qeG, qlh, qP, qq, Nat.reduceEqDiff, qH, ke, kI, qDE, qDx, jU, qDQ, qDN, qDT, q9, kY, ju, za, kz, kJ, ql, qZ, qt, qf, qC, qh, qV, hS, qr, qe, qg, qDS, yW, kS, qqq, bdyK, f_recheck_must, u_, qd, kK, zW, qDM, qDw, qA, qL, ↓reduceIte, reduceCtorEq, k9, z8, kP, Nat.reduceLT, yb, qDK, zS, zU, qci, qep, qcN, qeU, qaT, qhu, qbb, y7, qdd, qkv, qfU, ji, qdR, kn, qG, yU, qlM, qj9, qzP, f_recheck_Check_1, r_, qi, kf, kA, qDC, qf6, qd7, qf8, kr, qY, jg, qcQ, qcV, qcI, kl, qbq, qic, zG, kB, zT, zA, jo, qDX, List.append_nil, zc, zF, qDL, qDt, qb, ja, qDU, jB, kQ, jC, qDu, yk, zE, zB, qkG, ql5, qqD, qq6, qO, qj, zP, qgs, kv, zk, qm, qB, qU, kD, cond_true]
  all_goals exact ⟨_, rfl⟩
theorem lfL {f n i : Int} {nm s : List Nat} {o : D} (ho : D.one o = true) (hS : ∀ H, qs pgK 37 [.d (lmod f n nm o i s)] H = some ⟨false, true, .d (.b false), H, H.length⟩) : Lim 16 (lmod f n nm o i s) := by
  simp only [lmod, lty] at hS
  unfold Lim
  rw [qwh]
  simp only [bdyK, f_waferref17_Check, k_, o_, i_, s_, c_, u_, a_, d_, v_, m_, q_, f_waferref17_Check_L0, f_waferref17_Check_B0, n_, e_, x_, g_, f_waferref17_Check_R1, z_, l_, lmod, qn, qDz, Nat.reduceAdd, qu, qDD, qw, qx, qk, zy, kL, qE, qy, qz, ki, qDy, qDF, qX, kU, jO, yD, qab, kj, qDA, yI, qI, kE, qJ, zj, qN, qd, kS, qG, qZ, qa, qc, qq, Nat.reduceEqDiff, qH, ke, kI, qDE, qDx, jU, qDQ, qDN, qDT, q9, kY, ju, za, kz, kJ, ql, qt, qf, qC, qh, qV, hS, qr, qe, qg, yW, kK, zW, qDM, qDw, qA, qL, ↓reduceIte, qQ, kC, qO, qj, qT, kX, qm, qB, qU, ji, kD, kn]
  all_goals exact ⟨_, rfl⟩
theorem qnw {x0 x1 x2 x3 x4 x5 x6 x7 : D} (h0 : D.one x0 = true) (h1 : D.one x1 = true) (h2 : D.one x2 = true) (h3 : D.one x3 = true) (h4 : D.one x4 = true) (h5 : D.one x5 = true) (h6 : D.one x6 = true) (h7 : D.one x7 = true) {e w : Int} {l1 l2 : Nat}
    (he : qs pgK 11 [.d (.agg [x0, x1, x2, x3, x4, x5, x6, x7]), .d .nil] [] = some ⟨false, true, .d (.i .i64 e), [], l1⟩) (hw : qs pgK 16 [.d (.agg [x0, x1, x2, x3, x4, x5, x6, x7]), .d .nil] [] = some ⟨false, true, .d (.i .i64 w), [], l2⟩)
    (h : e = 0 ∧ w = 0 ∨ e = 34 ∧ w = 34 ∨ bad e = true ∧ bad w = true) : ∃ lo, qs pgK 13 [.d (.agg [x0, x1, x2, x3, x4, x5, x6, x7]), .d .nil] [] = some ⟨false, true, .d (.b true), [], lo⟩ := by
  have hb : ∀ {x : Int}, bad x = true → x = 32 ∨ x = 33 ∨ x = 40 := by
    intro x hx
    unfold bad at hx
    split at hx
    · exact .inl rfl
    · exact .inr (.inl rfl)
    · exact .inr (.inr rfl)
    · cases hx
  rcases h with ⟨rfl, rfl⟩ | ⟨rfl, rfl⟩ | ⟨ha, hc⟩
  · rw [qzb]
    simp only [bdyK, qaf, k_, o_, s_, m_, c_, v_, g_, q_, i_, qn, qDz, Nat.reduceAdd, qu, qDD, qw, qx, qk, zy, kL, qE, qy, qz, ki, qDy, qDF, qX, kU, h0, h1, h2, h3, h4, h5, h6, h7, kj, qDA, yI, qI, kE, qJ, zj, qN, qd, kS, qG, qZ, qa, qc, qq, Nat.reduceEqDiff, qH, ke, kI, qDE, qDx, jU, qDQ, qDN, qDT, q9, kY, ju, za, kz, kJ, ql, reduceCtorEq, qt, qf, qC, qh, qV, he, qr, qe, qg, qDS, yW, jW, zn, kG, hw, qi, kf, kA, qDC, zK, Int.reduceEq, decide_false, qA, qL, qDt, ↓reduceIte, qP, decide_true, qDJ, ql3, beq_self_eq_true, qS, ky, kh, kx, qDL, kr, qia, qD, qY, qar, ku, qQ, qO, qj, qT, kX, qm, qB, qU, ji, kD, kn]
    all_goals exact ⟨_, rfl⟩
  · rw [qzb]
    simp only [bdyK, qaf, k_, o_, s_, m_, c_, v_, g_, q_, i_, qn, qDz, Nat.reduceAdd, qu, qDD, qw, qx, qk, zy, kL, qE, qy, qz, ki, qDy, qDF, qX, kU, h0, h1, h2, h3, h4, h5, h6, h7, kj, qDA, yI, qI, kE, qJ, zj, qN, qd, kS, qG, qZ, qa, qc, qq, Nat.reduceEqDiff, qH, ke, kI, qDE, qDx, jU, qDQ, qDN, qDT, q9, kY, ju, za, kz, kJ, ql, reduceCtorEq, qt, qf, qC, qh, qV, he, qr, qe, qg, qDS, yW, jW, zn, kG, hw, qi, kf, kA, qDC, zK, decide_true, qA, qL, ↓reduceIte, qQ, kC, qO, qj, qT, kX, qm, qB, qU, ji, kD, kn]
    all_goals exact ⟨_, rfl⟩
  · rcases hb ha with rfl | rfl | rfl <;> rcases hb hc with rfl | rfl | rfl
    all_goals
      rw [qzb]
      simp only [bdyK, qaf, k_, o_, s_, m_, c_, v_, g_, q_, i_, qn, qDz, Nat.reduceAdd, qu, qDD, qw, qx, qk, zy, kL, qE, qy, qz, ki, qDy, qDF, qX, kU, h0, h1, h2, h3, h4, h5, h6, h7, kj, qDA, yI, qI, kE, qJ, zj, qN, qd, kS, qG, qZ, qa, qc, qq, Nat.reduceEqDiff, qH, ke, kI, qDE, qDx, jU, qDQ, qDN, qDT, q9, kY, ju, za, kz, kJ, ql, reduceCtorEq, qt, qf, qC, qh, qV, he, qr, qe, qg, qDS, yW, jW, zn, kG, hw, qi, kf, kA, qDC, zK, Int.reduceEq, decide_false, qA, qL, qDt, ↓reduceIte, qP, qDJ, ql3, beq_self_eq_true, qS, ky, kh, kx, qDM, jz, Int.reduceLE, decide_true, jS, qD, ku, qDL, kr, qY, qar, qQ, qO, qj, qT, kX, qm, qB, qU, ji, kD, kn]
    all_goals exact ⟨_, rfl⟩
def qt9 (m : D) : Prop := ∃ lo, qs pgK 13 [.d m, .d .nil] [] = some ⟨false, true, .d (.b true), [], lo⟩
theorem yR {f n i : Int} {nm s : List Nat} {o : D} (he : Bad 11 (lmod f n nm o i s)) (hw : Bad 16 (lmod f n nm o i s)) : qt9 (lmod f n nm o i s) := by
  obtain ⟨e, l1, he, h1⟩ := he
  obtain ⟨w, l2, hw, h2⟩ := hw
  exact qnw rfl rfl rfl rfl rfl rfl rfl rfl he hw (.inr (.inr ⟨h1, h2⟩))
theorem qe7 {f n i : Int} {nm s : List Nat} {o : D} (he : qdM 11 (lmod f n nm o i s)) (hw : qdM 16 (lmod f n nm o i s)) : qt9 (lmod f n nm o i s) := by
  obtain ⟨l1, he⟩ := he
  obtain ⟨l2, hw⟩ := hw
  exact qnw rfl rfl rfl rfl rfl rfl rfl rfl he hw (.inl ⟨rfl, rfl⟩)
theorem qz0 {f n i : Int} {nm s : List Nat} {o : D} (he : Lim 11 (lmod f n nm o i s)) (hw : Lim 16 (lmod f n nm o i s)) : qt9 (lmod f n nm o i s) := by
  obtain ⟨l1, he⟩ := he
  obtain ⟨l2, hw⟩ := hw
  exact qnw rfl rfl rfl rfl rfl rfl rfl rfl he hw (.inr (.inl ⟨rfl, rfl⟩))
end W

set_option linter.unusedVariables false
set_option linter.defProp false
namespace W
set_option maxRecDepth 20000
def AK0 := (And.intro (And.intro (And.intro (And.intro (And.intro (And.intro @bdyK.eq_1 (And.intro @jy @o_.eq_1)) (And.intro @q_.eq_1 (And.intro @z_.eq_1 @m_.eq_1))) (And.intro (And.intro @l_.eq_1 (And.intro @s_.eq_1 @i_.eq_1)) (And.intro @e_.eq_1 (And.intro @g_.eq_1 @a_.eq_1)))) (And.intro (And.intro (And.intro @d_.eq_1 (And.intro @h_.eq_1 @n_.eq_1)) (And.intro @u_.eq_1 (And.intro @x_.eq_1 @c_.eq_1))) (And.intro (And.intro @r_.eq_1 (And.intro @v_.eq_1 @k_.eq_1)) (And.intro (And.intro @qp4 @qsf) (And.intro @qvv @qsM))))) (And.intro (And.intro (And.intro (And.intro @qtV (And.intro @qxq @qsa)) (And.intro @qvR (And.intro @qu2 @qsq))) (And.intro (And.intro @qtZ (And.intro @qv7 @qtf)) (And.intro @quc (And.intro @qne @qmv)))) (And.intro (And.intro (And.intro @qoe (And.intro @qtI @qBh)) (And.intro @qxz (And.intro @qwR @qeH))) (And.intro (And.intro @qzk (And.intro @qp9 @qAz)) (And.intro (And.intro @qAm @qk7) (And.intro @quj @qkG)))))) (And.intro (And.intro (And.intro (And.intro (And.intro @qni (And.intro @qlh @qve)) (And.intro @qoK (And.intro @qlM @ql5))) (And.intro (And.intro @qug (And.intro @qzP @qj9)) (And.intro @qqu (And.intro @qDo @qq8)))) (And.intro (And.intro (And.intro @qDh (And.intro @qvr @qoh)) (And.intro @z1 (And.intro @yW @qyg))) (And.intro (And.intro @qnG (And.intro @qDa @kn)) (And.intro (And.intro @qoN @qjT) (And.intro @qfo @qgV))))) (And.intro (And.intro (And.intro (And.intro @qy2 (And.intro @qc9 @qP)) (And.intro @qx (And.intro @jP @qw))) (And.intro (And.intro @qA (And.intro @qF @j7)) (And.intro @qQ (And.intro @qc @zY)))) (And.intro (And.intro (And.intro @kC (And.intro @yU @qqm)) (And.intro @qso (And.intro @qL @kg))) (And.intro (And.intro @zC (And.intro @ze @qaO)) (And.intro (And.intro @qoz @qqY) (And.intro @qp @qo)))))))
def AK1 := (And.intro (And.intro (And.intro (And.intro (And.intro (And.intro @qa (And.intro @qk @ky)) (And.intro @kx (And.intro @qia @qS))) (And.intro (And.intro @zr (And.intro @jl @qdo)) (And.intro @kh (And.intro @qej @qI)))) (And.intro (And.intro (And.intro @qbb (And.intro @qvP @qxB)) (And.intro @jk (And.intro @zq @qsG))) (And.intro (And.intro @qvB (And.intro @jm @qE)) (And.intro (And.intro @qH @qxH) (And.intro @qu6 @qtw))))) (And.intro (And.intro (And.intro (And.intro @qO (And.intro @qem @y7)) (And.intro @qU (And.intro @qfK @qeW))) (And.intro (And.intro @kD (And.intro @qk5 @qmi)) (And.intro @qls (And.intro @qdm @qtQ)))) (And.intro (And.intro (And.intro @qdR (And.intro @qp7 @qn)) (And.intro @qu (And.intro @qm @qB))) (And.intro (And.intro @qj (And.intro @qT @kX)) (And.intro (And.intro @qoQ @qpA) (And.intro @quO @qxA)))))) (And.intro (And.intro (And.intro (And.intro (And.intro @qya (And.intro @qlP @kL)) (And.intro @kS (And.intro @qhT @qC4))) (And.intro (And.intro @jW (And.intro @qy @yh)) (And.intro @kp (And.intro @kQ @ke)))) (And.intro (And.intro (And.intro @zO (And.intro @qub @qjO)) (And.intro @qdn (And.intro @qaT @qY))) (And.intro (And.intro @qjY (And.intro @zn @qgn)) (And.intro (And.intro @qcV @qv1) (And.intro @quq @qwb))))) (And.intro (And.intro (And.intro (And.intro @q9 (And.intro @qjV @qmE)) (And.intro @qjK (And.intro @kc @y4))) (And.intro (And.intro @zV (And.intro @quX @zx)) (And.intro @qjX (And.intro @quz @qwi)))) (And.intro (And.intro (And.intro @qcd (And.intro @qth @qsw)) (And.intro @qsh (And.intro @qo4 @qz))) (And.intro (And.intro @qG (And.intro @qcc @qxO)) (And.intro (And.intro @kG @qg) (And.intro @qe @zF)))))))
def AK2 := (And.intro (And.intro (And.intro (And.intro (And.intro (And.intro @qZ (And.intro @yY @zw)) (And.intro @jB (And.intro @yg @qzj))) (And.intro (And.intro @qn3 (And.intro @qeG @qcN)) (And.intro @kr (And.intro @qrT @qsU)))) (And.intro (And.intro (And.intro @kE (And.intro @y9 @qkQ)) (And.intro @yd (And.intro @qwZ @qpi))) (And.intro (And.intro @qwj (And.intro @qdZ @qlb)) (And.intro (And.intro @qhN @qfH) (And.intro @qc9 @qoh))))) (And.intro (And.intro (And.intro (And.intro @qd (And.intro @qi @ql)) (And.intro @quT (And.intro @qw9 @zJ))) (And.intro (And.intro @qcT (And.intro @qja @qxR)) (And.intro @qn6 (And.intro @zK @qff)))) (And.intro (And.intro (And.intro @kq (And.intro @jS @kW)) (And.intro @jz (And.intro @j6 @qk4))) (And.intro (And.intro @quB (And.intro @ql3 @qvt)) (And.intro (And.intro @kK @zW) (And.intro @qy7 @qD)))))) (And.intro (And.intro (And.intro (And.intro (And.intro @qar (And.intro @z7 @ku)) (And.intro @yZ (And.intro @qM @ko))) (And.intro (And.intro @kT (And.intro @ye @jR)) (And.intro @qwE (And.intro @qR @qt)))) (And.intro (And.intro (And.intro @qV (And.intro @qr @qp2)) (And.intro @qsP (And.intro @qh @qf))) (And.intro (And.intro @qC (And.intro @qlW @kN)) (And.intro (And.intro @qlI @qrY) (And.intro @qcR @yF))))) (And.intro (And.intro (And.intro (And.intro @qdd (And.intro @yC @qc1)) (And.intro @qkv (And.intro @qhz @qy4))) (And.intro (And.intro @qBY (And.intro @qqS @qCb)) (And.intro @jg (And.intro @qcQ @qcI)))) (And.intro (And.intro (And.intro @qyL (And.intro @qyQ @ji)) (And.intro @qrm (And.intro @qrj @qrG))) (And.intro (And.intro @qy8 (And.intro @qfY @qfU)) (And.intro (And.intro @qzu @qeY) (And.intro @qh9 @qb)))))))
def AK3 := (And.intro (And.intro (And.intro (And.intro (And.intro (And.intro @zX (And.intro @ja @qxV)) (And.intro @qjm (And.intro @qgD @z8))) (And.intro (And.intro @jO (And.intro @qab @yD)) (And.intro @qq (And.intro @kv @zk)))) (And.intro (And.intro (And.intro @qnn (And.intro @kI @jC)) (And.intro @jU (And.intro @qbG @qqn))) (And.intro (And.intro @yH (And.intro @qpO @qjs)) (And.intro (And.intro @jh @qqW) (And.intro @qvZ @quV))))) (And.intro (And.intro (And.intro (And.intro @qdO (And.intro @yL @qgU)) (And.intro @yn (And.intro @qcC @yS))) (And.intro (And.intro @zi (And.intro @kB @yk)) (And.intro @zE (And.intro @zB @zT)))) (And.intro (And.intro (And.intro @zA (And.intro @zc @zZ)) (And.intro @kP (And.intro @ki @qiZ))) (And.intro (And.intro @qmB (And.intro @qka @qkc)) (And.intro (And.intro @qv2 @qu5) (And.intro @kj @qX)))))) (And.intro (And.intro (And.intro (And.intro (And.intro @kU (And.intro @qlB @qoo)) (And.intro @ql4 (And.intro @qxv @qxN))) (And.intro (And.intro @qeX (And.intro @kl @zy)) (And.intro @qgg (And.intro @yI @qhU)))) (And.intro (And.intro (And.intro @qoq (And.intro @qkW @qlw)) (And.intro @qsV (And.intro @qd7 @qf8))) (And.intro (And.intro @qpR (And.intro @qsk @qsj)) (And.intro (And.intro @k9 @zS) (And.intro @yb @qcP))))) (And.intro (And.intro (And.intro (And.intro @zU (And.intro @kY @kJ)) (And.intro @qjN (And.intro @kz @qiR))) (And.intro (And.intro @za (And.intro @ju @qv8)) (And.intro @qo6 (And.intro @qlD @qw8)))) (And.intro (And.intro (And.intro @qw1 (And.intro @qsr @kF)) (And.intro @jN (And.intro @jp @yj))) (And.intro (And.intro @qhW (And.intro @qvw @yT)) (And.intro (And.intro @yl @qgX) (And.intro @qcU @ym)))))))
def AK4 := (And.intro (And.intro (And.intro (And.intro (And.intro (And.intro @jT (And.intro @qu7 @quQ)) (And.intro @qeg (And.intro @qse @qqB))) (And.intro (And.intro @jE (And.intro @qfh @qh7)) (And.intro @qkd (And.intro @qkl @qqz)))) (And.intro (And.intro (And.intro @qgF (And.intro @qpP @qrQ)) (And.intro @qkg (And.intro @qs5 @qW))) (And.intro (And.intro @qxD (And.intro @quG @qzI)) (And.intro (And.intro @kZ @qhn) (And.intro @qeV @qk1))))) (And.intro (And.intro (And.intro (And.intro @qd2 (And.intro @qm6 @qgr)) (And.intro @qnN (And.intro @qnm @qtd))) (And.intro (And.intro @qqM (And.intro @qs3 @qwd)) (And.intro @qph (And.intro @qfW @qq3)))) (And.intro (And.intro (And.intro @qon (And.intro @qvf @qyT)) (And.intro @qAv (And.intro @qgH @qma))) (And.intro (And.intro @quD (And.intro @qjW @qvQ)) (And.intro (And.intro @qx0 @qxw) (And.intro @qua @qlc)))))) (And.intro (And.intro (And.intro (And.intro (And.intro @qe4 (And.intro @qn5 @qxW)) (And.intro @qlm (And.intro @qj2 @qsQ))) (And.intro (And.intro @qtB (And.intro @qy0 @qzT)) (And.intro @qAp (And.intro @qz9 @qmU)))) (And.intro (And.intro (And.intro @qt0 (And.intro @qbs @qh1)) (And.intro @qaR (And.intro @qg4 @qla))) (And.intro (And.intro @qjE (And.intro @qqV @qyb)) (And.intro (And.intro @qvg @qtT) (And.intro @qrH @qei))))) (And.intro (And.intro (And.intro (And.intro @qnJ (And.intro @qqH @qm3)) (And.intro @quI (And.intro @kf @kA))) (And.intro (And.intro @qAu (And.intro @qCX @qoJ)) (And.intro @qq5 (And.intro @qoB @qp0)))) (And.intro (And.intro (And.intro @qzA (And.intro @qxa @qxd)) (And.intro @qwe (And.intro @qnt @qxp))) (And.intro (And.intro @qN (And.intro @qJ @zj)) (And.intro (And.intro @qds @zG) (And.intro @qtH @yr)))))))
def AK5 := (And.intro (And.intro (And.intro (And.intro (And.intro (And.intro @qdh (And.intro @qr8 @qbq)) (And.intro @qoW (And.intro @qic @qoS))) (And.intro (And.intro @qpa (And.intro @qul @qtA)) (And.intro @jA (And.intro @ql6 @qfr)))) (And.intro (And.intro (And.intro @qoH (And.intro @qks @qB2)) (And.intro @qAa (And.intro @qrE @qxk))) (And.intro (And.intro @zP (And.intro @qaj @qgs)) (And.intro (And.intro @qqx @qlk) (And.intro @qxu @qAI))))) (And.intro (And.intro (And.intro (And.intro @qeR (And.intro @qiB @qcn)) (And.intro @qpq (And.intro @qum @qfu))) (And.intro (And.intro @qtL (And.intro @qwk @qup)) (And.intro @qgx (And.intro @qmI @qty)))) (And.intro (And.intro (And.intro @qtS (And.intro @qxC @qtU)) (And.intro @qvu (And.intro @qy6 @qCI))) (And.intro (And.intro @qwW (And.intro @qwQ @qwU)) (And.intro (And.intro @qwx @qAl) (And.intro @qx8 @qwV)))))) (And.intro (And.intro (And.intro (And.intro (And.intro @qz4 (And.intro @qxl @qtt)) (And.intro @qzc (And.intro @qAk @qxe))) (And.intro (And.intro @qp5 (And.intro @qsN @qci)) (And.intro @qep (And.intro @qeU @qhu)))) (And.intro (And.intro (And.intro @qf6 (And.intro @qx4 @qiE)) (And.intro @qyM (And.intro @qfd @qlX))) (And.intro (And.intro @qpF (And.intro @qps @qeC)) (And.intro (And.intro @qgv @qwM) (And.intro @qq2 @qqg))))) (And.intro (And.intro (And.intro (And.intro @quJ (And.intro @qvT @qnl)) (And.intro @qt7 (And.intro @qhD @qtl))) (And.intro (And.intro @qoj (And.intro @qkB @qtr)) (And.intro @qm7 (And.intro @qsW @qtP)))) (And.intro (And.intro (And.intro @qsL (And.intro @qw0 @qsp)) (And.intro @qsz (And.intro @qui @qux))) (And.intro (And.intro @qtM (And.intro @qwo @qs4)) (And.intro (And.intro @qw4 @qwB) (And.intro @qwF @qv6)))))))
def AK6 := (And.intro (And.intro (And.intro (And.intro (And.intro (And.intro @qms (And.intro @qqI @qwh)) (And.intro @f_waferref17_Check_B0.eq_1 (And.intro @f_waferref17_Check_L0.eq_1 @f_waferref17_Check_R1.eq_1))) (And.intro (And.intro @f_waferref17_Check.eq_1 (And.intro @qqq @f_recheck_must.eq_1)) (And.intro @qBp (And.intro @f_front_NewEnv_A0.eq_1 @f_front_NewEnv_B0.eq_1)))) (And.intro (And.intro (And.intro @f_front_NewEnv_R1.eq_1 (And.intro @f_front_NewEnv_B2.eq_1 @f_front_NewEnv_L2.eq_1)) (And.intro @f_front_NewEnv_R3.eq_1 (And.intro @f_front_NewEnv.eq_1 @qA7))) (And.intro (And.intro @f_recheck_checker_heads_B0.eq_1 (And.intro @f_recheck_checker_heads_L0.eq_1 @f_recheck_checker_heads_B1.eq_1)) (And.intro (And.intro @f_recheck_checker_heads_L1.eq_1 @f_recheck_checker_heads_B2.eq_1) (And.intro @f_recheck_checker_heads_L2.eq_1 @f_recheck_checker_heads_B3.eq_1))))) (And.intro (And.intro (And.intro (And.intro @f_recheck_checker_heads_L3.eq_1 (And.intro @f_recheck_checker_heads_B4.eq_1 @f_recheck_checker_heads_L4.eq_1)) (And.intro @f_recheck_checker_heads_B5.eq_1 (And.intro @f_recheck_checker_heads_L5.eq_1 @f_recheck_checker_heads_R6.eq_1))) (And.intro (And.intro @f_recheck_checker_heads_R7.eq_1 (And.intro @f_recheck_checker_heads_R8.eq_1 @f_recheck_checker_heads_R9.eq_1)) (And.intro @f_recheck_checker_heads_R10.eq_1 (And.intro @f_recheck_checker_heads.eq_1 @qB9)))) (And.intro (And.intro (And.intro @f_recheck_checker_records_B0.eq_1 (And.intro @f_recheck_checker_records_L0.eq_1 @f_recheck_checker_records_B1.eq_1)) (And.intro @f_recheck_checker_records_L1.eq_1 (And.intro @f_recheck_checker_records_B2.eq_1 @f_recheck_checker_records_L2.eq_1))) (And.intro (And.intro @f_recheck_checker_records_R3.eq_1 (And.intro @f_recheck_checker_records_R4.eq_1 @f_recheck_checker_records_R5.eq_1)) (And.intro (And.intro @f_recheck_checker_records_B6.eq_1 @f_recheck_checker_records_L6.eq_1) (And.intro @f_recheck_checker_records_R7.eq_1 @f_recheck_checker_records.eq_1)))))) (And.intro (And.intro (And.intro (And.intro (And.intro @qA2 (And.intro @f_recheck_checker_declared_B0.eq_1 @f_recheck_checker_declared_L0.eq_1)) (And.intro @f_recheck_checker_declared_B1.eq_1 (And.intro @f_recheck_checker_declared_L1.eq_1 @f_recheck_checker_declared_B2.eq_1))) (And.intro (And.intro @f_recheck_checker_declared_L2.eq_1 (And.intro @f_recheck_checker_declared_B3.eq_1 @f_recheck_checker_declared_L3.eq_1)) (And.intro @f_recheck_checker_declared_R4.eq_1 (And.intro @f_recheck_checker_declared_R5.eq_1 @f_recheck_checker_declared_R6.eq_1)))) (And.intro (And.intro (And.intro @f_recheck_checker_declared.eq_1 (And.intro @qA5 @f_recheck_checker_body_B0.eq_1)) (And.intro @f_recheck_checker_body_L0.eq_1 (And.intro @f_recheck_checker_body_R1.eq_1 @f_recheck_checker_body_B2.eq_1))) (And.intro (And.intro @f_recheck_checker_body_L2.eq_1 (And.intro @f_recheck_checker_body.eq_1 @qBQ)) (And.intro (And.intro @f_waferref17_Others_B0.eq_1 @f_waferref17_Others_L0.eq_1) (And.intro @f_waferref17_Others_R1.eq_1 @f_waferref17_Others.eq_1))))) (And.intro (And.intro (And.intro (And.intro @qCr (And.intro @f_waferref11_Recs_B0.eq_1 @f_waferref11_Recs_L0.eq_1)) (And.intro @f_waferref11_Recs_R1.eq_1 (And.intro @f_waferref11_Recs_B2.eq_1 @f_waferref11_Recs_L2.eq_1))) (And.intro (And.intro @f_waferref11_Recs_R3.eq_1 (And.intro @f_waferref11_Recs.eq_1 @qCf)) (And.intro @f_waferref17_ctx_names_B0.eq_1 (And.intro @f_waferref17_ctx_names_L0.eq_1 @f_waferref17_ctx_names_R1.eq_1)))) (And.intro (And.intro (And.intro @f_waferref17_ctx_names.eq_1 (And.intro @qBT @f_waferref17_ctx_types_B0.eq_1)) (And.intro @f_waferref17_ctx_types_L0.eq_1 (And.intro @f_waferref17_ctx_types_B1.eq_1 @f_waferref17_ctx_types_L1.eq_1))) (And.intro (And.intro @f_waferref17_ctx_types_B2.eq_1 (And.intro @f_waferref17_ctx_types_L2.eq_1 @f_waferref17_ctx_types_R3.eq_1)) (And.intro (And.intro @f_waferref17_ctx_types_R4.eq_1 @f_waferref17_ctx_types_B5.eq_1) (And.intro @f_waferref17_ctx_types_L5.eq_1 @f_waferref17_ctx_types_B6.eq_1)))))))
def AK7 := (And.intro (And.intro (And.intro (And.intro (And.intro (And.intro @f_waferref17_ctx_types_L6.eq_1 (And.intro @f_waferref17_ctx_types_B7.eq_1 @f_waferref17_ctx_types_L7.eq_1)) (And.intro @f_waferref17_ctx_types_R8.eq_1 (And.intro @f_waferref17_ctx_types_R9.eq_1 @f_waferref17_ctx_types_R10.eq_1))) (And.intro (And.intro @f_waferref17_ctx_types_R11.eq_1 (And.intro @f_waferref17_ctx_types.eq_1 @qBo)) (And.intro @f_waferref17_ctx_body_B0.eq_1 (And.intro @f_waferref17_ctx_body_L0.eq_1 @f_waferref17_ctx_body_R1.eq_1)))) (And.intro (And.intro (And.intro @f_waferref17_ctx_body.eq_1 (And.intro @qCa @f_recheck_name.eq_1)) (And.intro @qBO (And.intro @f_recheck_checker_heads_1.eq_1 @qDb))) (And.intro (And.intro @f_recheck_checker_own.eq_1 (And.intro @qDe @f_recheck_checker_typ.eq_1)) (And.intro (And.intro @qCs @f_recheck_checker_expr_B0.eq_1) (And.intro @f_recheck_checker_expr_L0.eq_1 @f_recheck_checker_expr_R1.eq_1))))) (And.intro (And.intro (And.intro (And.intro @f_recheck_checker_expr_B2.eq_1 (And.intro @f_recheck_checker_expr_L2.eq_1 @f_recheck_checker_expr_R3.eq_1)) (And.intro @f_recheck_checker_expr_R4.eq_1 (And.intro @f_recheck_checker_expr.eq_1 @qtC))) (And.intro (And.intro @f_recheck_typed.eq_1 (And.intro @qBf @f_recheck_same.eq_1)) (And.intro @qDg (And.intro @f_recheck_checker_stmt_B0.eq_1 @f_recheck_checker_stmt_L0.eq_1)))) (And.intro (And.intro (And.intro @f_recheck_checker_stmt_R1.eq_1 (And.intro @f_recheck_checker_stmt.eq_1 @qDp)) (And.intro @f_slices_Contains___string_string_.eq_1 (And.intro @qBC @f_waferref17_once_B0.eq_1))) (And.intro (And.intro @f_waferref17_once_L0.eq_1 (And.intro @f_waferref17_once_R1.eq_1 @f_waferref17_once.eq_1)) (And.intro (And.intro @qBR @f_waferref17_all_B0.eq_1) (And.intro @f_waferref17_all_L0.eq_1 @f_waferref17_all_B1.eq_1)))))) (And.intro (And.intro (And.intro (And.intro (And.intro @f_waferref17_all_L1.eq_1 (And.intro @f_waferref17_all_B2.eq_1 @f_waferref17_all_L2.eq_1)) (And.intro @f_waferref17_all_B3.eq_1 (And.intro @f_waferref17_all_L3.eq_1 @f_waferref17_all_B4.eq_1))) (And.intro (And.intro @f_waferref17_all_L4.eq_1 (And.intro @f_waferref17_all_R5.eq_1 @f_waferref17_all_R6.eq_1)) (And.intro @f_waferref17_all_R7.eq_1 (And.intro @f_waferref17_all_R8.eq_1 @f_waferref17_all_R9.eq_1)))) (And.intro (And.intro (And.intro @f_waferref17_all.eq_1 (And.intro @qCj @f_waferref17_imported_B0.eq_1)) (And.intro @f_waferref17_imported_L0.eq_1 (And.intro @f_waferref17_imported_R1.eq_1 @f_waferref17_imported.eq_1))) (And.intro (And.intro @qCq (And.intro @f_waferref17_RightLit_B0.eq_1 @f_waferref17_RightLit_L0.eq_1)) (And.intro (And.intro @f_waferref17_RightLit_R1.eq_1 @f_waferref17_RightLit_R2.eq_1) (And.intro @f_waferref17_RightLit.eq_1 @qBJ))))) (And.intro (And.intro (And.intro (And.intro @f_waferref17_is.eq_1 (And.intro @qyl @f_waferref11_Alike_B0.eq_1)) (And.intro @f_waferref11_Alike_L0.eq_1 (And.intro @f_waferref11_Alike_R1.eq_1 @f_waferref11_Alike.eq_1))) (And.intro (And.intro @qCY (And.intro @f_types_Right.eq_1 @qC1)) (And.intro @f_front_Env_Named.eq_1 (And.intro @qCF @f_types_Words.eq_1)))) (And.intro (And.intro (And.intro @qyu (And.intro @f_types_Basic.eq_1 @qyw)) (And.intro @f_recheck_bare.eq_1 (And.intro @qyj @f_recheck_checker_lit_B0.eq_1))) (And.intro (And.intro @f_recheck_checker_lit_L0.eq_1 (And.intro @f_recheck_checker_lit.eq_1 @qCR)) (And.intro (And.intro @f_recheck_checker_name.eq_1 @qys) (And.intro @f_tree_SameExpr.eq_1 @qBk)))))))
def AK8 := (And.intro (And.intro (And.intro (And.intro (And.intro @f_types_plain.eq_1 (And.intro @qCe @f_recheck_checker_standard_B0.eq_1)) (And.intro (And.intro @f_recheck_checker_standard_L0.eq_1 @f_recheck_checker_standard_R1.eq_1) (And.intro @f_recheck_checker_standard.eq_1 @qyx))) (And.intro (And.intro (And.intro @f_waferref11_Basic.eq_1 @qCH) (And.intro @f_slices_Index___string_string__B0.eq_1 @f_slices_Index___string_string__L0.eq_1)) (And.intro (And.intro @f_slices_Index___string_string__R1.eq_1 @f_slices_Index___string_string_.eq_1) (And.intro @qyy @f_waferref17_basic.eq_1)))) (And.intro (And.intro (And.intro (And.intro @qt5 @f_slices_ContainsFunc___api_Type_api_Type_.eq_1) (And.intro @qBa @f_types_sizes_words.eq_1)) (And.intro (And.intro @qCx @f_strings_Contains.eq_1) (And.intro @qyf @f_tree_sameType.eq_1))) (And.intro (And.intro (And.intro @qyk @f_slices_EqualFunc___api_Expr___api_Expr_api_Expr_api_Expr__B0.eq_1) (And.intro @f_slices_EqualFunc___api_Expr___api_Expr_api_Expr_api_Expr__L0.eq_1 @f_slices_EqualFunc___api_Expr___api_Expr_api_Expr_api_Expr__R1.eq_1)) (And.intro (And.intro @f_slices_EqualFunc___api_Expr___api_Expr_api_Expr_api_Expr_.eq_1 @qyo) (And.intro @f_slices_EqualFunc___api_Type___api_Type_api_Type_api_Type__B0.eq_1 @f_slices_EqualFunc___api_Type___api_Type_api_Type_api_Type__L0.eq_1))))) (And.intro (And.intro (And.intro (And.intro @f_slices_EqualFunc___api_Type___api_Type_api_Type_api_Type__R1.eq_1 (And.intro @f_slices_EqualFunc___api_Type___api_Type_api_Type_api_Type_.eq_1 @qCz)) (And.intro (And.intro @f_front_Env_Right_B0.eq_1 @f_front_Env_Right_L0.eq_1) (And.intro @f_front_Env_Right_R1.eq_1 @f_front_Env_Right.eq_1))) (And.intro (And.intro (And.intro @qvK @f_slices_IndexFunc___api_Type_api_Type__B0.eq_1) (And.intro @f_slices_IndexFunc___api_Type_api_Type__L0.eq_1 @f_slices_IndexFunc___api_Type_api_Type__R1.eq_1)) (And.intro (And.intro @f_slices_IndexFunc___api_Type_api_Type_.eq_1 @qCU) (And.intro @f_strings_Index.eq_1 @qCV)))) (And.intro (And.intro (And.intro (And.intro @f_front_forms.eq_1 @qBr) (And.intro @f_internal_stringslite_Index_B0.eq_1 @f_internal_stringslite_Index_L0.eq_1)) (And.intro (And.intro @f_internal_stringslite_Index_R1.eq_1 @f_internal_stringslite_Index.eq_1) (And.intro @f_recheck_Check_D.eq_1 @f_recheck_Check_B0.eq_1))) (And.intro (And.intro (And.intro @f_recheck_Check_L0.eq_1 @f_recheck_Check_R1.eq_1) (And.intro @f_recheck_Check_1.eq_1 @qn4)) (And.intro (And.intro @qq6 @qqD) (And.intro @lmod.eq_1 @lty.eq_1))))))
end W

set_option linter.unusedSimpArgs false
set_option linter.unusedVariables false
namespace W
open Go (IntKind BinOp UnOp)
set_option maxRecDepth 20000
set_option maxHeartbeats 4000000
theorem qfS : (∀ {f : Int} {n : Int} {nm : List Nat} {o : D} {i : Int} {s : List Nat}, D.one o = true → (∀ H, qs pgK 22 [.d (lmod f n nm o i s)] H = some ⟨false, true, .d (.b true), H, H.length⟩) → (n = 0) = False → Bad 11 (lmod f n nm o i s)) ∧
    (∀ {f : Int} {y : D} {i : Int} {s : List Nat}, (∀ H, qs pgK 22 [.d (lmod f 0 [] (.sl [y]) i s)] H = some ⟨false, true, .d (.b true), H, H.length⟩) → Bad 11 (lmod f 0 [] (.sl [y]) i s)) ∧
    (∀ {i : Int} {s : List Nat}, (∀ H, qs pgK 22 [.d (lmod 1 0 [] .nil i s)] H = some ⟨false, true, .d (.b true), H, H.length⟩) → (s = []) = False → Bad 11 (lmod 1 0 [] .nil i s)) ∧
    (∀ {i : Int} {s : List Nat}, (∀ H, qs pgK 22 [.d (lmod 4 0 [] .nil i s)] H = some ⟨false, true, .d (.b true), H, H.length⟩) → (s = []) = False → Bad 11 (lmod 4 0 [] .nil i s)) ∧
    (∀ {i : Int}, (∀ H, qs pgK 22 [.d (lmod 2 0 [] .nil i [])] H = some ⟨false, true, .d (.b true), H, H.length⟩) → (0 ≤ i) = False → Bad 11 (lmod 2 0 [] .nil i [])) ∧
    (∀ {i : Int} {s : List Nat}, (∀ H, qs pgK 22 [.d (lmod 2 0 [] .nil i s)] H = some ⟨false, true, .d (.b true), H, H.length⟩) → (s = []) = False → Bad 11 (lmod 2 0 [] .nil i s)) ∧
    ((∀ H, qs pgK 22 [.d (lmod 3 0 [] .nil 1 [])] H = some ⟨false, true, .d (.b true), H, H.length⟩) → qdM 11 (lmod 3 0 [] .nil 1 [])) ∧
    (∀ {i : Int} {s : List Nat}, (∀ H, qs pgK 22 [.d (lmod 3 0 [] .nil i s)] H = some ⟨false, true, .d (.b true), H, H.length⟩) → (s = []) = False → Bad 11 (lmod 3 0 [] .nil i s)) ∧
    (∀ {i : Int}, (∀ H, qs pgK 22 [.d (lmod 5 0 [] .nil i [])] H = some ⟨false, true, .d (.b true), H, H.length⟩) → (i = 0) = False → Bad 11 (lmod 5 0 [] .nil i [])) ∧
    (∀ {s : List Nat}, (∀ H, qs pgK 22 [.d (lmod 5 0 [] .nil 0 s)] H = some ⟨false, true, .d (.b true), H, H.length⟩) → (s = []) = False → Bad 11 (lmod 5 0 [] .nil 0 s)) ∧
    (∀ {f : Int} {i : Int}, (∀ H, qs pgK 22 [.d (lmod f 0 [] .nil i [])] H = some ⟨false, true, .d (.b true), H, H.length⟩) → (f = 1) = False → (f = 2) = False → (f = 3) = False → (f = 4) = False → (f = 5) = False → (f = 6) = False → Bad 11 (lmod f 0 [] .nil i [])) ∧
    (∀ {i : Int}, (∀ H, qs pgK 22 [.d (lmod 1 0 [] (.sl []) i [])] H = some ⟨false, true, .d (.b true), H, H.length⟩) → qdM 11 (lmod 1 0 [] (.sl []) i [])) ∧
    (∀ {i : Int}, (∀ H, qs pgK 22 [.d (lmod 4 0 [] (.sl []) i [])] H = some ⟨false, true, .d (.b true), H, H.length⟩) → qdM 11 (lmod 4 0 [] (.sl []) i [])) ∧
    (∀ {i : Int}, (∀ H, qs pgK 22 [.d (lmod 2 0 [] (.sl []) i [])] H = some ⟨false, true, .d (.b true), H, H.length⟩) → (0 ≤ i) = True → (i ≤ 255) = True → qdM 11 (lmod 2 0 [] (.sl []) i [])) ∧
    (∀ {i : Int}, (∀ H, qs pgK 22 [.d (lmod 2 0 [] (.sl []) i [])] H = some ⟨false, true, .d (.b true), H, H.length⟩) → (0 ≤ i) = True → (i ≤ 255) = False → Bad 11 (lmod 2 0 [] (.sl []) i [])) ∧
    ((∀ H, qs pgK 22 [.d (lmod 3 0 [] (.sl []) 0 [])] H = some ⟨false, true, .d (.b true), H, H.length⟩) → qdM 11 (lmod 3 0 [] (.sl []) 0 [])) ∧
    (∀ {i : Int}, (∀ H, qs pgK 22 [.d (lmod 3 0 [] (.sl []) i [])] H = some ⟨false, true, .d (.b true), H, H.length⟩) → (i = 0) = False → (i = 1) = False → Bad 11 (lmod 3 0 [] (.sl []) i [])) ∧
    ((∀ H, qs pgK 22 [.d (lmod 5 0 [] (.sl []) 0 [])] H = some ⟨false, true, .d (.b true), H, H.length⟩) → Bad 11 (lmod 5 0 [] (.sl []) 0 [])) ∧
    (∀ {i : Int} {s : List Nat}, (∀ H, qs pgK 22 [.d (lmod 5 0 [] (.sl []) i s)] H = some ⟨false, true, .d (.b true), H, H.length⟩) → (i = 0) = False → (s = []) = False → Bad 11 (lmod 5 0 [] (.sl []) i s)) ∧
    (∀ {i : Int} {s : List Nat}, (∀ H, qs pgK 22 [.d (lmod 6 0 [] (.sl []) i s)] H = some ⟨false, true, .d (.b true), H, H.length⟩) → (i = 0) = False → Bad 11 (lmod 6 0 [] (.sl []) i s)) ∧
    (∀ {f : Int} {i : Int} {s : List Nat}, (∀ H, qs pgK 22 [.d (lmod f 0 [] (.sl []) i s)] H = some ⟨false, true, .d (.b true), H, H.length⟩) → (f = 1) = False → (f = 2) = False → (f = 3) = False → (f = 4) = False → (f = 5) = False → (f = 6) = False → (s = []) = False → Bad 11 (lmod f 0 [] (.sl []) i s)) := by
  refine ⟨?_, ?_, ?_, ?_, ?_, ?_, ?_, ?_, ?_, ?_, ?_, ?_, ?_, ?_, ?_, ?_, ?_, ?_, ?_, ?_, ?_⟩
  intro f n nm o i s ho hS h0
  have jM := nmM.i14 (b := true) (by decide)
  have jc := nmc.i14 (b := true) (by decide)
  rotate_left
  intro f y i s hS
  have jM := nmM.i14 (b := true) (by decide)
  have jc := nmc.i14 (b := true) (by decide)
  rotate_left
  intro i s hS h0
  have jM := nmM.i14 (b := true) (by decide)
  have jc := nmc.i14 (b := true) (by decide)
  rotate_left
  intro i s hS h0
  have jM := nmM.i14 (b := true) (by decide)
  have jc := nmc.i14 (b := true) (by decide)
  rotate_left
  intro i hS h0
  have jM := nmM.i14 (b := true) (by decide)
  have jc := nmc.i14 (b := true) (by decide)
  rotate_left
  intro i s hS h0
  have jM := nmM.i14 (b := true) (by decide)
  have jc := nmc.i14 (b := true) (by decide)
  rotate_left
  intro  hS
  have jM := nmM.i14 (b := true) (by decide)
  have jc := nmc.i14 (b := true) (by decide)
  rotate_left
  intro i s hS h0
  have jM := nmM.i14 (b := true) (by decide)
  have jc := nmc.i14 (b := true) (by decide)
  rotate_left
  intro i hS h0
  have jM := nmM.i14 (b := true) (by decide)
  have jc := nmc.i14 (b := true) (by decide)
  rotate_left
  intro s hS h0
  have jM := nmM.i14 (b := true) (by decide)
  have jc := nmc.i14 (b := true) (by decide)
  rotate_left
  intro f i hS h1 h2 h3 h4 h5 h6
  have jM := nmM.i14 (b := true) (by decide)
  have jc := nmc.i14 (b := true) (by decide)
  rotate_left
  intro i hS
  have jM := nmM.i14 (b := true) (by decide)
  have jc := nmc.i14 (b := true) (by decide)
  rotate_left
  intro i hS
  have jM := nmM.i14 (b := true) (by decide)
  have jc := nmc.i14 (b := true) (by decide)
  rotate_left
  intro i hS h0 h1
  have jM := nmM.i14 (b := true) (by decide)
  have jc := nmc.i14 (b := true) (by decide)
  rotate_left
  intro i hS h0 h1
  have jM := nmM.i14 (b := true) (by decide)
  have jc := nmc.i14 (b := true) (by decide)
  rotate_left
  intro  hS
  have jM := nmM.i14 (b := true) (by decide)
  have jc := nmc.i14 (b := true) (by decide)
  rotate_left
  intro i hS h0 h1
  have jM := nmM.i14 (b := true) (by decide)
  have jc := nmc.i14 (b := true) (by decide)
  rotate_left
  intro  hS
  have jM := nmM.i14 (b := true) (by decide)
  have jc := nmc.i14 (b := true) (by decide)
  rotate_left
  intro i s hS h0 h1
  have jM := nmM.i14 (b := true) (by decide)
  have jc := nmc.i14 (b := true) (by decide)
  rotate_left
  intro i s hS h0
  have jM := nmM.i14 (b := true) (by decide)
  have jc := nmc.i14 (b := true) (by decide)
  rotate_left
  intro f i s hS h1 h2 h3 h4 h5 h6 h7
  have jM := nmM.i14 (b := true) (by decide)
  have jc := nmc.i14 (b := true) (by decide)
  rotate_left
  all_goals
    simp only [lmod, lty] at hS
    first | unfold qdM | unfold Bad
    rw [qxt]
    simp (config := { maxSteps := 100000000 }) only [*, AK0, AK1, AK2, AK3, AK4, AK5, AK6, AK7, AK8, eq_self, qDW, beq_true, beq_false, Nat.max_self, Nat.zero_max, Nat.max_zero, qDu, qDv, qDU, qDK, qDO, ne_eq, not_false_eq_true, not_true_eq_false, Bool.true_and, Bool.and_true, Bool.false_and, Bool.and_false, qDL, qDM, Bool.false_or, Bool.true_or, Bool.or_false, qDC, decide_true, decide_false, decide_eq_true_eq, Bool.not_eq_true', decide_eq_false_iff_not, qDw, Option.map_none, qDy, qDF, Nat.succ_eq_add_one, qDz, List.cons_append, List.nil_append, List.append_nil, qDt, Bool.true_eq_false, beq_self_eq_true, qDE, qDD, qDA, qDJ, Int.not_lt, Int.not_le, Nat.min_self, List.length_append, qDQ, qDX, qDN, qDT, qhC, qhe, Option.getD_some, Option.getD_none, jo, gt_iff_lt, ge_iff_le, qcF, qcY, roomy, List.cons.injEq, false_and, and_false, true_and, and_true, and_self, List.ne_cons_self, Nat.le_add_right, qDx, qDS, Nat.lt_irrefl, cond_true, cond_false, Int.toNat_zero, List.reduceReplicate, Nat.reduceEqDiff, reduceCtorEq, ↓reduceIte, Nat.reduceAdd, Nat.reduceSub, Nat.reduceMul, Int.reduceEq, Int.reduceNe, Int.reduceLT, Int.reduceLE, Int.reduceNeg, Int.reduceAdd, Int.reduceSub, Int.reduceMul, Nat.reduceLT, Nat.reduceLeDiff, Nat.reduceBEq, Int.reduceToNat]
    first | exact ⟨_, rfl⟩ | exact ⟨_, _, rfl, by decide⟩
end W

set_option linter.unusedSimpArgs false
set_option linter.unusedVariables false
namespace W
open Go (IntKind BinOp UnOp)
set_option maxRecDepth 20000
set_option maxHeartbeats 4000000
theorem qgb : (∀ {f : Int} {nm : List Nat} {o : D} {i : Int} {s : List Nat}, D.one o = true → (∀ H, qs pgK 22 [.d (lmod f 0 nm o i s)] H = some ⟨false, true, .d (.b true), H, H.length⟩) → (nm = []) = False → Bad 11 (lmod f 0 nm o i s)) ∧
    (∀ {i : Int}, (∀ H, qs pgK 22 [.d (lmod 1 0 [] .nil i [])] H = some ⟨false, true, .d (.b true), H, H.length⟩) → qdM 11 (lmod 1 0 [] .nil i [])) ∧
    (∀ {i : Int}, (∀ H, qs pgK 22 [.d (lmod 4 0 [] .nil i [])] H = some ⟨false, true, .d (.b true), H, H.length⟩) → qdM 11 (lmod 4 0 [] .nil i [])) ∧
    (∀ {i : Int}, (∀ H, qs pgK 22 [.d (lmod 2 0 [] .nil i [])] H = some ⟨false, true, .d (.b true), H, H.length⟩) → (0 ≤ i) = True → (i ≤ 255) = True → qdM 11 (lmod 2 0 [] .nil i [])) ∧
    (∀ {i : Int}, (∀ H, qs pgK 22 [.d (lmod 2 0 [] .nil i [])] H = some ⟨false, true, .d (.b true), H, H.length⟩) → (0 ≤ i) = True → (i ≤ 255) = False → Bad 11 (lmod 2 0 [] .nil i [])) ∧
    ((∀ H, qs pgK 22 [.d (lmod 3 0 [] .nil 0 [])] H = some ⟨false, true, .d (.b true), H, H.length⟩) → qdM 11 (lmod 3 0 [] .nil 0 [])) ∧
    (∀ {i : Int}, (∀ H, qs pgK 22 [.d (lmod 3 0 [] .nil i [])] H = some ⟨false, true, .d (.b true), H, H.length⟩) → (i = 0) = False → (i = 1) = False → Bad 11 (lmod 3 0 [] .nil i [])) ∧
    ((∀ H, qs pgK 22 [.d (lmod 5 0 [] .nil 0 [])] H = some ⟨false, true, .d (.b true), H, H.length⟩) → Bad 11 (lmod 5 0 [] .nil 0 [])) ∧
    (∀ {i : Int} {s : List Nat}, (∀ H, qs pgK 22 [.d (lmod 5 0 [] .nil i s)] H = some ⟨false, true, .d (.b true), H, H.length⟩) → (i = 0) = False → (s = []) = False → Bad 11 (lmod 5 0 [] .nil i s)) ∧
    (∀ {i : Int} {s : List Nat}, (∀ H, qs pgK 22 [.d (lmod 6 0 [] .nil i s)] H = some ⟨false, true, .d (.b true), H, H.length⟩) → (i = 0) = False → Bad 11 (lmod 6 0 [] .nil i s)) ∧
    (∀ {f : Int} {i : Int} {s : List Nat}, (∀ H, qs pgK 22 [.d (lmod f 0 [] .nil i s)] H = some ⟨false, true, .d (.b true), H, H.length⟩) → (f = 1) = False → (f = 2) = False → (f = 3) = False → (f = 4) = False → (f = 5) = False → (f = 6) = False → (s = []) = False → Bad 11 (lmod f 0 [] .nil i s)) ∧
    (∀ {i : Int} {s : List Nat}, (∀ H, qs pgK 22 [.d (lmod 1 0 [] (.sl []) i s)] H = some ⟨false, true, .d (.b true), H, H.length⟩) → (s = []) = False → Bad 11 (lmod 1 0 [] (.sl []) i s)) ∧
    (∀ {i : Int} {s : List Nat}, (∀ H, qs pgK 22 [.d (lmod 4 0 [] (.sl []) i s)] H = some ⟨false, true, .d (.b true), H, H.length⟩) → (s = []) = False → Bad 11 (lmod 4 0 [] (.sl []) i s)) ∧
    (∀ {i : Int}, (∀ H, qs pgK 22 [.d (lmod 2 0 [] (.sl []) i [])] H = some ⟨false, true, .d (.b true), H, H.length⟩) → (0 ≤ i) = False → Bad 11 (lmod 2 0 [] (.sl []) i [])) ∧
    (∀ {i : Int} {s : List Nat}, (∀ H, qs pgK 22 [.d (lmod 2 0 [] (.sl []) i s)] H = some ⟨false, true, .d (.b true), H, H.length⟩) → (s = []) = False → Bad 11 (lmod 2 0 [] (.sl []) i s)) ∧
    ((∀ H, qs pgK 22 [.d (lmod 3 0 [] (.sl []) 1 [])] H = some ⟨false, true, .d (.b true), H, H.length⟩) → qdM 11 (lmod 3 0 [] (.sl []) 1 [])) ∧
    (∀ {i : Int} {s : List Nat}, (∀ H, qs pgK 22 [.d (lmod 3 0 [] (.sl []) i s)] H = some ⟨false, true, .d (.b true), H, H.length⟩) → (s = []) = False → Bad 11 (lmod 3 0 [] (.sl []) i s)) ∧
    (∀ {i : Int}, (∀ H, qs pgK 22 [.d (lmod 5 0 [] (.sl []) i [])] H = some ⟨false, true, .d (.b true), H, H.length⟩) → (i = 0) = False → Bad 11 (lmod 5 0 [] (.sl []) i [])) ∧
    (∀ {s : List Nat}, (∀ H, qs pgK 22 [.d (lmod 5 0 [] (.sl []) 0 s)] H = some ⟨false, true, .d (.b true), H, H.length⟩) → (s = []) = False → Bad 11 (lmod 5 0 [] (.sl []) 0 s)) ∧
    (∀ {f : Int} {i : Int}, (∀ H, qs pgK 22 [.d (lmod f 0 [] (.sl []) i [])] H = some ⟨false, true, .d (.b true), H, H.length⟩) → (f = 1) = False → (f = 2) = False → (f = 3) = False → (f = 4) = False → (f = 5) = False → (f = 6) = False → Bad 11 (lmod f 0 [] (.sl []) i [])) := by
  refine ⟨?_, ?_, ?_, ?_, ?_, ?_, ?_, ?_, ?_, ?_, ?_, ?_, ?_, ?_, ?_, ?_, ?_, ?_, ?_, ?_⟩
  intro f nm o i s ho hS h0
  have jM := nmM.i14 (b := true) (by decide)
  have jc := nmc.i14 (b := true) (by decide)
  rotate_left
  intro i hS
  have jM := nmM.i14 (b := true) (by decide)
  have jc := nmc.i14 (b := true) (by decide)
  rotate_left
  intro i hS
  have jM := nmM.i14 (b := true) (by decide)
  have jc := nmc.i14 (b := true) (by decide)
  rotate_left
  intro i hS h0 h1
  have jM := nmM.i14 (b := true) (by decide)
  have jc := nmc.i14 (b := true) (by decide)
  rotate_left
  intro i hS h0 h1
  have jM := nmM.i14 (b := true) (by decide)
  have jc := nmc.i14 (b := true) (by decide)
  rotate_left
  intro  hS
  have jM := nmM.i14 (b := true) (by decide)
  have jc := nmc.i14 (b := true) (by decide)
  rotate_left
  intro i hS h0 h1
  have jM := nmM.i14 (b := true) (by decide)
  have jc := nmc.i14 (b := true) (by decide)
  rotate_left
  intro  hS
  have jM := nmM.i14 (b := true) (by decide)
  have jc := nmc.i14 (b := true) (by decide)
  rotate_left
  intro i s hS h0 h1
  have jM := nmM.i14 (b := true) (by decide)
  have jc := nmc.i14 (b := true) (by decide)
  rotate_left
  intro i s hS h0
  have jM := nmM.i14 (b := true) (by decide)
  have jc := nmc.i14 (b := true) (by decide)
  rotate_left
  intro f i s hS h1 h2 h3 h4 h5 h6 h7
  have jM := nmM.i14 (b := true) (by decide)
  have jc := nmc.i14 (b := true) (by decide)
  rotate_left
  intro i s hS h0
  have jM := nmM.i14 (b := true) (by decide)
  have jc := nmc.i14 (b := true) (by decide)
  rotate_left
  intro i s hS h0
  have jM := nmM.i14 (b := true) (by decide)
  have jc := nmc.i14 (b := true) (by decide)
  rotate_left
  intro i hS h0
  have jM := nmM.i14 (b := true) (by decide)
  have jc := nmc.i14 (b := true) (by decide)
  rotate_left
  intro i s hS h0
  have jM := nmM.i14 (b := true) (by decide)
  have jc := nmc.i14 (b := true) (by decide)
  rotate_left
  intro  hS
  have jM := nmM.i14 (b := true) (by decide)
  have jc := nmc.i14 (b := true) (by decide)
  rotate_left
  intro i s hS h0
  have jM := nmM.i14 (b := true) (by decide)
  have jc := nmc.i14 (b := true) (by decide)
  rotate_left
  intro i hS h0
  have jM := nmM.i14 (b := true) (by decide)
  have jc := nmc.i14 (b := true) (by decide)
  rotate_left
  intro s hS h0
  have jM := nmM.i14 (b := true) (by decide)
  have jc := nmc.i14 (b := true) (by decide)
  rotate_left
  intro f i hS h1 h2 h3 h4 h5 h6
  have jM := nmM.i14 (b := true) (by decide)
  have jc := nmc.i14 (b := true) (by decide)
  rotate_left
  all_goals
    simp only [lmod, lty] at hS
    first | unfold qdM | unfold Bad
    rw [qxt]
    simp (config := { maxSteps := 100000000 }) only [*, AK0, AK1, AK2, AK3, AK4, AK5, AK6, AK7, AK8, eq_self, qDW, beq_true, beq_false, Nat.max_self, Nat.zero_max, Nat.max_zero, qDu, qDv, qDU, qDK, qDO, ne_eq, not_false_eq_true, not_true_eq_false, Bool.true_and, Bool.and_true, Bool.false_and, Bool.and_false, qDL, qDM, Bool.false_or, Bool.true_or, Bool.or_false, qDC, decide_true, decide_false, decide_eq_true_eq, Bool.not_eq_true', decide_eq_false_iff_not, qDw, Option.map_none, qDy, qDF, Nat.succ_eq_add_one, qDz, List.cons_append, List.nil_append, List.append_nil, qDt, Bool.true_eq_false, beq_self_eq_true, qDE, qDD, qDA, qDJ, Int.not_lt, Int.not_le, Nat.min_self, List.length_append, qDQ, qDX, qDN, qDT, qhC, qhe, Option.getD_some, Option.getD_none, jo, gt_iff_lt, ge_iff_le, qcF, qcY, roomy, List.cons.injEq, false_and, and_false, true_and, and_true, and_self, List.ne_cons_self, Nat.le_add_right, qDx, qDS, Nat.lt_irrefl, cond_true, cond_false, Int.toNat_zero, List.reduceReplicate, Nat.reduceEqDiff, reduceCtorEq, ↓reduceIte, Nat.reduceAdd, Nat.reduceSub, Nat.reduceMul, Int.reduceEq, Int.reduceNe, Int.reduceLT, Int.reduceLE, Int.reduceNeg, Int.reduceAdd, Int.reduceSub, Int.reduceMul, Nat.reduceLT, Nat.reduceLeDiff, Nat.reduceBEq, Int.reduceToNat]
    first | exact ⟨_, rfl⟩ | exact ⟨_, _, rfl, by decide⟩
end W

set_option linter.unusedSimpArgs false
set_option linter.unusedVariables false
namespace W
open Go (IntKind BinOp UnOp)
set_option maxRecDepth 20000
set_option maxHeartbeats 4000000
theorem qgh : (∀ {f : Int} {n : Int} {nm : List Nat} {o : D} {i : Int} {s : List Nat}, D.one o = true → (∀ H, qs pgK 37 [.d (lmod f n nm o i s)] H = some ⟨false, true, .d (.b true), H, H.length⟩) → (n = 0) = False → Bad 16 (lmod f n nm o i s)) ∧
    (∀ {f : Int} {y : D} {i : Int} {s : List Nat}, (∀ H, qs pgK 37 [.d (lmod f 0 [] (.sl [y]) i s)] H = some ⟨false, true, .d (.b true), H, H.length⟩) → Bad 16 (lmod f 0 [] (.sl [y]) i s)) ∧
    (∀ {i : Int} {s : List Nat}, (∀ H, qs pgK 37 [.d (lmod 1 0 [] .nil i s)] H = some ⟨false, true, .d (.b true), H, H.length⟩) → (s = []) = False → Bad 16 (lmod 1 0 [] .nil i s)) ∧
    (∀ {i : Int} {s : List Nat}, (∀ H, qs pgK 37 [.d (lmod 4 0 [] .nil i s)] H = some ⟨false, true, .d (.b true), H, H.length⟩) → (s = []) = False → Bad 16 (lmod 4 0 [] .nil i s)) ∧
    (∀ {i : Int}, (∀ H, qs pgK 37 [.d (lmod 2 0 [] .nil i [])] H = some ⟨false, true, .d (.b true), H, H.length⟩) → (0 ≤ i) = False → Bad 16 (lmod 2 0 [] .nil i [])) ∧
    (∀ {i : Int} {s : List Nat}, (∀ H, qs pgK 37 [.d (lmod 2 0 [] .nil i s)] H = some ⟨false, true, .d (.b true), H, H.length⟩) → (s = []) = False → Bad 16 (lmod 2 0 [] .nil i s)) ∧
    ((∀ H, qs pgK 37 [.d (lmod 3 0 [] .nil 1 [])] H = some ⟨false, true, .d (.b true), H, H.length⟩) → qdM 16 (lmod 3 0 [] .nil 1 [])) ∧
    (∀ {i : Int} {s : List Nat}, (∀ H, qs pgK 37 [.d (lmod 3 0 [] .nil i s)] H = some ⟨false, true, .d (.b true), H, H.length⟩) → (s = []) = False → Bad 16 (lmod 3 0 [] .nil i s)) ∧
    (∀ {i : Int}, (∀ H, qs pgK 37 [.d (lmod 5 0 [] .nil i [])] H = some ⟨false, true, .d (.b true), H, H.length⟩) → (i = 0) = False → Bad 16 (lmod 5 0 [] .nil i [])) ∧
    (∀ {s : List Nat}, (∀ H, qs pgK 37 [.d (lmod 5 0 [] .nil 0 s)] H = some ⟨false, true, .d (.b true), H, H.length⟩) → (s = []) = False → Bad 16 (lmod 5 0 [] .nil 0 s)) ∧
    (∀ {f : Int} {i : Int}, (∀ H, qs pgK 37 [.d (lmod f 0 [] .nil i [])] H = some ⟨false, true, .d (.b true), H, H.length⟩) → (f = 1) = False → (f = 2) = False → (f = 3) = False → (f = 4) = False → (f = 5) = False → (f = 6) = False → Bad 16 (lmod f 0 [] .nil i [])) ∧
    (∀ {i : Int}, (∀ H, qs pgK 37 [.d (lmod 1 0 [] (.sl []) i [])] H = some ⟨false, true, .d (.b true), H, H.length⟩) → qdM 16 (lmod 1 0 [] (.sl []) i [])) ∧
    (∀ {i : Int}, (∀ H, qs pgK 37 [.d (lmod 4 0 [] (.sl []) i [])] H = some ⟨false, true, .d (.b true), H, H.length⟩) → qdM 16 (lmod 4 0 [] (.sl []) i [])) ∧
    (∀ {i : Int}, (∀ H, qs pgK 37 [.d (lmod 2 0 [] (.sl []) i [])] H = some ⟨false, true, .d (.b true), H, H.length⟩) → (0 ≤ i) = True → (i ≤ 255) = True → qdM 16 (lmod 2 0 [] (.sl []) i [])) ∧
    (∀ {i : Int}, (∀ H, qs pgK 37 [.d (lmod 2 0 [] (.sl []) i [])] H = some ⟨false, true, .d (.b true), H, H.length⟩) → (0 ≤ i) = True → (i ≤ 255) = False → Bad 16 (lmod 2 0 [] (.sl []) i [])) ∧
    ((∀ H, qs pgK 37 [.d (lmod 3 0 [] (.sl []) 0 [])] H = some ⟨false, true, .d (.b true), H, H.length⟩) → qdM 16 (lmod 3 0 [] (.sl []) 0 [])) ∧
    (∀ {i : Int}, (∀ H, qs pgK 37 [.d (lmod 3 0 [] (.sl []) i [])] H = some ⟨false, true, .d (.b true), H, H.length⟩) → (i = 0) = False → (i = 1) = False → Bad 16 (lmod 3 0 [] (.sl []) i [])) ∧
    ((∀ H, qs pgK 37 [.d (lmod 5 0 [] (.sl []) 0 [])] H = some ⟨false, true, .d (.b true), H, H.length⟩) → Bad 16 (lmod 5 0 [] (.sl []) 0 [])) ∧
    (∀ {i : Int} {s : List Nat}, (∀ H, qs pgK 37 [.d (lmod 5 0 [] (.sl []) i s)] H = some ⟨false, true, .d (.b true), H, H.length⟩) → (i = 0) = False → (s = []) = False → Bad 16 (lmod 5 0 [] (.sl []) i s)) ∧
    (∀ {i : Int} {s : List Nat}, (∀ H, qs pgK 37 [.d (lmod 6 0 [] (.sl []) i s)] H = some ⟨false, true, .d (.b true), H, H.length⟩) → (i = 0) = False → Bad 16 (lmod 6 0 [] (.sl []) i s)) ∧
    (∀ {f : Int} {i : Int} {s : List Nat}, (∀ H, qs pgK 37 [.d (lmod f 0 [] (.sl []) i s)] H = some ⟨false, true, .d (.b true), H, H.length⟩) → (f = 1) = False → (f = 2) = False → (f = 3) = False → (f = 4) = False → (f = 5) = False → (f = 6) = False → (s = []) = False → Bad 16 (lmod f 0 [] (.sl []) i s)) := by
  refine ⟨?_, ?_, ?_, ?_, ?_, ?_, ?_, ?_, ?_, ?_, ?_, ?_, ?_, ?_, ?_, ?_, ?_, ?_, ?_, ?_, ?_⟩
  intro f n nm o i s ho hS h0
  have jM := nmM.i15 (b := true) (by decide)
  have jc := nmc.i15 (b := true) (by decide)
  rotate_left
  intro f y i s hS
  have jM := nmM.i15 (b := true) (by decide)
  have jc := nmc.i15 (b := true) (by decide)
  rotate_left
  intro i s hS h0
  have jM := nmM.i15 (b := true) (by decide)
  have jc := nmc.i15 (b := true) (by decide)
  rotate_left
  intro i s hS h0
  have jM := nmM.i15 (b := true) (by decide)
  have jc := nmc.i15 (b := true) (by decide)
  rotate_left
  intro i hS h0
  have jM := nmM.i15 (b := true) (by decide)
  have jc := nmc.i15 (b := true) (by decide)
  rotate_left
  intro i s hS h0
  have jM := nmM.i15 (b := true) (by decide)
  have jc := nmc.i15 (b := true) (by decide)
  rotate_left
  intro  hS
  have jM := nmM.i15 (b := true) (by decide)
  have jc := nmc.i15 (b := true) (by decide)
  rotate_left
  intro i s hS h0
  have jM := nmM.i15 (b := true) (by decide)
  have jc := nmc.i15 (b := true) (by decide)
  rotate_left
  intro i hS h0
  have jM := nmM.i15 (b := true) (by decide)
  have jc := nmc.i15 (b := true) (by decide)
  rotate_left
  intro s hS h0
  have jM := nmM.i15 (b := true) (by decide)
  have jc := nmc.i15 (b := true) (by decide)
  rotate_left
  intro f i hS h1 h2 h3 h4 h5 h6
  have jM := nmM.i15 (b := true) (by decide)
  have jc := nmc.i15 (b := true) (by decide)
  rotate_left
  intro i hS
  have jM := nmM.i15 (b := true) (by decide)
  have jc := nmc.i15 (b := true) (by decide)
  rotate_left
  intro i hS
  have jM := nmM.i15 (b := true) (by decide)
  have jc := nmc.i15 (b := true) (by decide)
  rotate_left
  intro i hS h0 h1
  have jM := nmM.i15 (b := true) (by decide)
  have jc := nmc.i15 (b := true) (by decide)
  rotate_left
  intro i hS h0 h1
  have jM := nmM.i15 (b := true) (by decide)
  have jc := nmc.i15 (b := true) (by decide)
  rotate_left
  intro  hS
  have jM := nmM.i15 (b := true) (by decide)
  have jc := nmc.i15 (b := true) (by decide)
  rotate_left
  intro i hS h0 h1
  have jM := nmM.i15 (b := true) (by decide)
  have jc := nmc.i15 (b := true) (by decide)
  rotate_left
  intro  hS
  have jM := nmM.i15 (b := true) (by decide)
  have jc := nmc.i15 (b := true) (by decide)
  rotate_left
  intro i s hS h0 h1
  have jM := nmM.i15 (b := true) (by decide)
  have jc := nmc.i15 (b := true) (by decide)
  rotate_left
  intro i s hS h0
  have jM := nmM.i15 (b := true) (by decide)
  have jc := nmc.i15 (b := true) (by decide)
  rotate_left
  intro f i s hS h1 h2 h3 h4 h5 h6 h7
  have jM := nmM.i15 (b := true) (by decide)
  have jc := nmc.i15 (b := true) (by decide)
  rotate_left
  all_goals
    simp only [lmod, lty] at hS
    first | unfold qdM | unfold Bad
    rw [qwh]
    simp (config := { maxSteps := 100000000 }) only [*, AK0, AK1, AK2, AK3, AK4, AK5, AK6, AK7, AK8, eq_self, qDW, beq_true, beq_false, Nat.max_self, Nat.zero_max, Nat.max_zero, qDu, qDv, qDU, qDK, qDO, ne_eq, not_false_eq_true, not_true_eq_false, Bool.true_and, Bool.and_true, Bool.false_and, Bool.and_false, qDL, qDM, Bool.false_or, Bool.true_or, Bool.or_false, qDC, decide_true, decide_false, decide_eq_true_eq, Bool.not_eq_true', decide_eq_false_iff_not, qDw, Option.map_none, qDy, qDF, Nat.succ_eq_add_one, qDz, List.cons_append, List.nil_append, List.append_nil, qDt, Bool.true_eq_false, beq_self_eq_true, qDE, qDD, qDA, qDJ, Int.not_lt, Int.not_le, Nat.min_self, List.length_append, qDQ, qDX, qDN, qDT, qhC, qhe, Option.getD_some, Option.getD_none, jo, gt_iff_lt, ge_iff_le, qcF, qcY, roomy, List.cons.injEq, false_and, and_false, true_and, and_true, and_self, List.ne_cons_self, Nat.le_add_right, qDx, qDS, Nat.lt_irrefl, cond_true, cond_false, Int.toNat_zero, List.reduceReplicate, Nat.reduceEqDiff, reduceCtorEq, ↓reduceIte, Nat.reduceAdd, Nat.reduceSub, Nat.reduceMul, Int.reduceEq, Int.reduceNe, Int.reduceLT, Int.reduceLE, Int.reduceNeg, Int.reduceAdd, Int.reduceSub, Int.reduceMul, Nat.reduceLT, Nat.reduceLeDiff, Nat.reduceBEq, Int.reduceToNat]
    first | exact ⟨_, rfl⟩ | exact ⟨_, _, rfl, by decide⟩
end W

set_option linter.unusedSimpArgs false
set_option linter.unusedVariables false
namespace W
open Go (IntKind BinOp UnOp)
set_option maxRecDepth 20000
set_option maxHeartbeats 4000000
theorem qgq : (∀ {f : Int} {nm : List Nat} {o : D} {i : Int} {s : List Nat}, D.one o = true → (∀ H, qs pgK 37 [.d (lmod f 0 nm o i s)] H = some ⟨false, true, .d (.b true), H, H.length⟩) → (nm = []) = False → Bad 16 (lmod f 0 nm o i s)) ∧
    (∀ {i : Int}, (∀ H, qs pgK 37 [.d (lmod 1 0 [] .nil i [])] H = some ⟨false, true, .d (.b true), H, H.length⟩) → qdM 16 (lmod 1 0 [] .nil i [])) ∧
    (∀ {i : Int}, (∀ H, qs pgK 37 [.d (lmod 4 0 [] .nil i [])] H = some ⟨false, true, .d (.b true), H, H.length⟩) → qdM 16 (lmod 4 0 [] .nil i [])) ∧
    (∀ {i : Int}, (∀ H, qs pgK 37 [.d (lmod 2 0 [] .nil i [])] H = some ⟨false, true, .d (.b true), H, H.length⟩) → (0 ≤ i) = True → (i ≤ 255) = True → qdM 16 (lmod 2 0 [] .nil i [])) ∧
    (∀ {i : Int}, (∀ H, qs pgK 37 [.d (lmod 2 0 [] .nil i [])] H = some ⟨false, true, .d (.b true), H, H.length⟩) → (0 ≤ i) = True → (i ≤ 255) = False → Bad 16 (lmod 2 0 [] .nil i [])) ∧
    ((∀ H, qs pgK 37 [.d (lmod 3 0 [] .nil 0 [])] H = some ⟨false, true, .d (.b true), H, H.length⟩) → qdM 16 (lmod 3 0 [] .nil 0 [])) ∧
    (∀ {i : Int}, (∀ H, qs pgK 37 [.d (lmod 3 0 [] .nil i [])] H = some ⟨false, true, .d (.b true), H, H.length⟩) → (i = 0) = False → (i = 1) = False → Bad 16 (lmod 3 0 [] .nil i [])) ∧
    ((∀ H, qs pgK 37 [.d (lmod 5 0 [] .nil 0 [])] H = some ⟨false, true, .d (.b true), H, H.length⟩) → Bad 16 (lmod 5 0 [] .nil 0 [])) ∧
    (∀ {i : Int} {s : List Nat}, (∀ H, qs pgK 37 [.d (lmod 5 0 [] .nil i s)] H = some ⟨false, true, .d (.b true), H, H.length⟩) → (i = 0) = False → (s = []) = False → Bad 16 (lmod 5 0 [] .nil i s)) ∧
    (∀ {i : Int} {s : List Nat}, (∀ H, qs pgK 37 [.d (lmod 6 0 [] .nil i s)] H = some ⟨false, true, .d (.b true), H, H.length⟩) → (i = 0) = False → Bad 16 (lmod 6 0 [] .nil i s)) ∧
    (∀ {f : Int} {i : Int} {s : List Nat}, (∀ H, qs pgK 37 [.d (lmod f 0 [] .nil i s)] H = some ⟨false, true, .d (.b true), H, H.length⟩) → (f = 1) = False → (f = 2) = False → (f = 3) = False → (f = 4) = False → (f = 5) = False → (f = 6) = False → (s = []) = False → Bad 16 (lmod f 0 [] .nil i s)) ∧
    (∀ {i : Int} {s : List Nat}, (∀ H, qs pgK 37 [.d (lmod 1 0 [] (.sl []) i s)] H = some ⟨false, true, .d (.b true), H, H.length⟩) → (s = []) = False → Bad 16 (lmod 1 0 [] (.sl []) i s)) ∧
    (∀ {i : Int} {s : List Nat}, (∀ H, qs pgK 37 [.d (lmod 4 0 [] (.sl []) i s)] H = some ⟨false, true, .d (.b true), H, H.length⟩) → (s = []) = False → Bad 16 (lmod 4 0 [] (.sl []) i s)) ∧
    (∀ {i : Int}, (∀ H, qs pgK 37 [.d (lmod 2 0 [] (.sl []) i [])] H = some ⟨false, true, .d (.b true), H, H.length⟩) → (0 ≤ i) = False → Bad 16 (lmod 2 0 [] (.sl []) i [])) ∧
    (∀ {i : Int} {s : List Nat}, (∀ H, qs pgK 37 [.d (lmod 2 0 [] (.sl []) i s)] H = some ⟨false, true, .d (.b true), H, H.length⟩) → (s = []) = False → Bad 16 (lmod 2 0 [] (.sl []) i s)) ∧
    ((∀ H, qs pgK 37 [.d (lmod 3 0 [] (.sl []) 1 [])] H = some ⟨false, true, .d (.b true), H, H.length⟩) → qdM 16 (lmod 3 0 [] (.sl []) 1 [])) ∧
    (∀ {i : Int} {s : List Nat}, (∀ H, qs pgK 37 [.d (lmod 3 0 [] (.sl []) i s)] H = some ⟨false, true, .d (.b true), H, H.length⟩) → (s = []) = False → Bad 16 (lmod 3 0 [] (.sl []) i s)) ∧
    (∀ {i : Int}, (∀ H, qs pgK 37 [.d (lmod 5 0 [] (.sl []) i [])] H = some ⟨false, true, .d (.b true), H, H.length⟩) → (i = 0) = False → Bad 16 (lmod 5 0 [] (.sl []) i [])) ∧
    (∀ {s : List Nat}, (∀ H, qs pgK 37 [.d (lmod 5 0 [] (.sl []) 0 s)] H = some ⟨false, true, .d (.b true), H, H.length⟩) → (s = []) = False → Bad 16 (lmod 5 0 [] (.sl []) 0 s)) ∧
    (∀ {f : Int} {i : Int}, (∀ H, qs pgK 37 [.d (lmod f 0 [] (.sl []) i [])] H = some ⟨false, true, .d (.b true), H, H.length⟩) → (f = 1) = False → (f = 2) = False → (f = 3) = False → (f = 4) = False → (f = 5) = False → (f = 6) = False → Bad 16 (lmod f 0 [] (.sl []) i [])) := by
  refine ⟨?_, ?_, ?_, ?_, ?_, ?_, ?_, ?_, ?_, ?_, ?_, ?_, ?_, ?_, ?_, ?_, ?_, ?_, ?_, ?_⟩
  intro f nm o i s ho hS h0
  have jM := nmM.i15 (b := true) (by decide)
  have jc := nmc.i15 (b := true) (by decide)
  rotate_left
  intro i hS
  have jM := nmM.i15 (b := true) (by decide)
  have jc := nmc.i15 (b := true) (by decide)
  rotate_left
  intro i hS
  have jM := nmM.i15 (b := true) (by decide)
  have jc := nmc.i15 (b := true) (by decide)
  rotate_left
  intro i hS h0 h1
  have jM := nmM.i15 (b := true) (by decide)
  have jc := nmc.i15 (b := true) (by decide)
  rotate_left
  intro i hS h0 h1
  have jM := nmM.i15 (b := true) (by decide)
  have jc := nmc.i15 (b := true) (by decide)
  rotate_left
  intro  hS
  have jM := nmM.i15 (b := true) (by decide)
  have jc := nmc.i15 (b := true) (by decide)
  rotate_left
  intro i hS h0 h1
  have jM := nmM.i15 (b := true) (by decide)
  have jc := nmc.i15 (b := true) (by decide)
  rotate_left
  intro  hS
  have jM := nmM.i15 (b := true) (by decide)
  have jc := nmc.i15 (b := true) (by decide)
  rotate_left
  intro i s hS h0 h1
  have jM := nmM.i15 (b := true) (by decide)
  have jc := nmc.i15 (b := true) (by decide)
  rotate_left
  intro i s hS h0
  have jM := nmM.i15 (b := true) (by decide)
  have jc := nmc.i15 (b := true) (by decide)
  rotate_left
  intro f i s hS h1 h2 h3 h4 h5 h6 h7
  have jM := nmM.i15 (b := true) (by decide)
  have jc := nmc.i15 (b := true) (by decide)
  rotate_left
  intro i s hS h0
  have jM := nmM.i15 (b := true) (by decide)
  have jc := nmc.i15 (b := true) (by decide)
  rotate_left
  intro i s hS h0
  have jM := nmM.i15 (b := true) (by decide)
  have jc := nmc.i15 (b := true) (by decide)
  rotate_left
  intro i hS h0
  have jM := nmM.i15 (b := true) (by decide)
  have jc := nmc.i15 (b := true) (by decide)
  rotate_left
  intro i s hS h0
  have jM := nmM.i15 (b := true) (by decide)
  have jc := nmc.i15 (b := true) (by decide)
  rotate_left
  intro  hS
  have jM := nmM.i15 (b := true) (by decide)
  have jc := nmc.i15 (b := true) (by decide)
  rotate_left
  intro i s hS h0
  have jM := nmM.i15 (b := true) (by decide)
  have jc := nmc.i15 (b := true) (by decide)
  rotate_left
  intro i hS h0
  have jM := nmM.i15 (b := true) (by decide)
  have jc := nmc.i15 (b := true) (by decide)
  rotate_left
  intro s hS h0
  have jM := nmM.i15 (b := true) (by decide)
  have jc := nmc.i15 (b := true) (by decide)
  rotate_left
  intro f i hS h1 h2 h3 h4 h5 h6
  have jM := nmM.i15 (b := true) (by decide)
  have jc := nmc.i15 (b := true) (by decide)
  rotate_left
  all_goals
    simp only [lmod, lty] at hS
    first | unfold qdM | unfold Bad
    rw [qwh]
    simp (config := { maxSteps := 100000000 }) only [*, AK0, AK1, AK2, AK3, AK4, AK5, AK6, AK7, AK8, eq_self, qDW, beq_true, beq_false, Nat.max_self, Nat.zero_max, Nat.max_zero, qDu, qDv, qDU, qDK, qDO, ne_eq, not_false_eq_true, not_true_eq_false, Bool.true_and, Bool.and_true, Bool.false_and, Bool.and_false, qDL, qDM, Bool.false_or, Bool.true_or, Bool.or_false, qDC, decide_true, decide_false, decide_eq_true_eq, Bool.not_eq_true', decide_eq_false_iff_not, qDw, Option.map_none, qDy, qDF, Nat.succ_eq_add_one, qDz, List.cons_append, List.nil_append, List.append_nil, qDt, Bool.true_eq_false, beq_self_eq_true, qDE, qDD, qDA, qDJ, Int.not_lt, Int.not_le, Nat.min_self, List.length_append, qDQ, qDX, qDN, qDT, qhC, qhe, Option.getD_some, Option.getD_none, jo, gt_iff_lt, ge_iff_le, qcF, qcY, roomy, List.cons.injEq, false_and, and_false, true_and, and_true, and_self, List.ne_cons_self, Nat.le_add_right, qDx, qDS, Nat.lt_irrefl, cond_true, cond_false, Int.toNat_zero, List.reduceReplicate, Nat.reduceEqDiff, reduceCtorEq, ↓reduceIte, Nat.reduceAdd, Nat.reduceSub, Nat.reduceMul, Int.reduceEq, Int.reduceNe, Int.reduceLT, Int.reduceLE, Int.reduceNeg, Int.reduceAdd, Int.reduceSub, Int.reduceMul, Nat.reduceLT, Nat.reduceLeDiff, Nat.reduceBEq, Int.reduceToNat]
    first | exact ⟨_, rfl⟩ | exact ⟨_, _, rfl, by decide⟩
end W

set_option linter.unusedSimpArgs false
set_option linter.unusedVariables false
namespace W
open Go (IntKind BinOp UnOp)
set_option maxRecDepth 20000
theorem qvn {o : D} (ho : o = .nil ∨ o = .sl [] ∨ ∃ y, o = .sl [y]) : D.one o = true := by
  rcases ho with rfl | rfl | ⟨y, rfl⟩ <;> rfl
theorem qm1 {f n i : Int} {nm s : List Nat} {o : D} (hT : TyA 8 (lty f n nm o)) (ho : o = .nil ∨ o = .sl [] ∨ ∃ y, o = .sl [y]) (hs : s.length ≤ 1000) (hc : ∀ c ∈ s, c < 256) : qt9 (lmod f n nm o i s) := by
  have h1 := qvn ho
  have a := fun H => l22 (i := i) (s := s) h1 hT (H := H)
  have b := fun H => l37 (i := i) (s := s) h1 hT (H := H)
  have hl : (decide (s.length ≤ 120) && stD 8 (lty f n nm o)) = true → s.length ≤ 120 := by intro h; simp only [qDB, decide_eq_true_eq] at h; exact h.1
  generalize (decide (s.length ≤ 120) && stD 8 (lty f n nm o)) = q at a b hl
  cases q with
  | false => exact qz0 (leL h1 a) (lfL h1 b)
  | true =>
    have hl := hl rfl
    clear hT
    by_cases h0 : n = 0
    rotate_left
    · exact yR (qfS.1 h1 a (eq_false h0)) (qgh.1 h1 b (eq_false h0))
    subst h0
    by_cases h0 : nm = []
    rotate_left
    · exact yR (qgb.1 h1 a (eq_false h0)) (qgq.1 h1 b (eq_false h0))
    subst h0
    rcases ho with rfl | rfl | ⟨y, rfl⟩
    rotate_right
    · exact yR (qfS.2.1 a) (qgh.2.1 b)
    · by_cases f1 : f = 1
      · subst f1; by_cases s0 : s = []
        · subst s0; exact qe7 (qgb.2.1 a) (qgq.2.1 b)
        · exact yR (qfS.2.2.1 a (eq_false s0)) (qgh.2.2.1 b (eq_false s0))
      by_cases f4 : f = 4
      · subst f4; by_cases s0 : s = []
        · subst s0; exact qe7 (qgb.2.2.1 a) (qgq.2.2.1 b)
        · exact yR (qfS.2.2.2.1 a (eq_false s0)) (qgh.2.2.2.1 b (eq_false s0))
      by_cases f2 : f = 2
      · subst f2; by_cases s0 : s = []
        · subst s0; by_cases i0 : 0 ≤ i
          · by_cases i1 : i ≤ 255
            · exact qe7 (qgb.2.2.2.1 a (eq_true i0) (eq_true i1)) (qgq.2.2.2.1 b (eq_true i0) (eq_true i1))
            · exact yR (qgb.2.2.2.2.1 a (eq_true i0) (eq_false i1)) (qgq.2.2.2.2.1 b (eq_true i0) (eq_false i1))
          · exact yR (qfS.2.2.2.2.1 a (eq_false i0)) (qgh.2.2.2.2.1 b (eq_false i0))
        · exact yR (qfS.2.2.2.2.2.1 a (eq_false s0)) (qgh.2.2.2.2.2.1 b (eq_false s0))
      by_cases f3 : f = 3
      · subst f3; by_cases s0 : s = []
        · subst s0; by_cases i0 : i = 0
          · subst i0; exact qe7 (qgb.2.2.2.2.2.1 a) (qgq.2.2.2.2.2.1 b)
          · by_cases i1 : i = 1
            · subst i1; exact qe7 (qfS.2.2.2.2.2.2.1 a) (qgh.2.2.2.2.2.2.1 b)
            · exact yR (qgb.2.2.2.2.2.2.1 a (eq_false i0) (eq_false i1)) (qgq.2.2.2.2.2.2.1 b (eq_false i0) (eq_false i1))
        · exact yR (qfS.2.2.2.2.2.2.2.1 a (eq_false s0)) (qgh.2.2.2.2.2.2.2.1 b (eq_false s0))
      by_cases f5 : f = 5
      · subst f5; by_cases i0 : i = 0
        · subst i0; by_cases s0 : s = []
          · subst s0; exact yR (qgb.2.2.2.2.2.2.2.1 a) (qgq.2.2.2.2.2.2.2.1 b)
          · exact yR (qfS.2.2.2.2.2.2.2.2.2.1 a (eq_false s0)) (qgh.2.2.2.2.2.2.2.2.2.1 b (eq_false s0))
        · by_cases s0 : s = []
          · subst s0; exact yR (qfS.2.2.2.2.2.2.2.2.1 a (eq_false i0)) (qgh.2.2.2.2.2.2.2.2.1 b (eq_false i0))
          · exact yR (qgb.2.2.2.2.2.2.2.2.1 a (eq_false i0) (eq_false s0)) (qgq.2.2.2.2.2.2.2.2.1 b (eq_false i0) (eq_false s0))
      by_cases f6 : f = 6
      · subst f6; by_cases i0 : i = 0
        · subst i0; cases hb : s.all qgj with
          | true => exact qe7 ((leS (.inl rfl) hl hc a).1 hb) ((lfS (.inl rfl) hl hc b).1 hb)
          | false => exact yR ((leS (.inl rfl) hl hc a).2 hb) ((lfS (.inl rfl) hl hc b).2 hb)
        · exact yR (qgb.2.2.2.2.2.2.2.2.2.1 a (eq_false i0)) (qgq.2.2.2.2.2.2.2.2.2.1 b (eq_false i0))
      by_cases s0 : s = []
      · subst s0; exact yR (qfS.2.2.2.2.2.2.2.2.2.2.1 a (eq_false f1) (eq_false f2) (eq_false f3) (eq_false f4) (eq_false f5) (eq_false f6)) (qgh.2.2.2.2.2.2.2.2.2.2.1 b (eq_false f1) (eq_false f2) (eq_false f3) (eq_false f4) (eq_false f5) (eq_false f6))
      · exact yR (qgb.2.2.2.2.2.2.2.2.2.2.1 a (eq_false f1) (eq_false f2) (eq_false f3) (eq_false f4) (eq_false f5) (eq_false f6) (eq_false s0)) (qgq.2.2.2.2.2.2.2.2.2.2.1 b (eq_false f1) (eq_false f2) (eq_false f3) (eq_false f4) (eq_false f5) (eq_false f6) (eq_false s0))
    · by_cases f1 : f = 1
      · subst f1; by_cases s0 : s = []
        · subst s0; exact qe7 (qfS.2.2.2.2.2.2.2.2.2.2.2.1 a) (qgh.2.2.2.2.2.2.2.2.2.2.2.1 b)
        · exact yR (qgb.2.2.2.2.2.2.2.2.2.2.2.1 a (eq_false s0)) (qgq.2.2.2.2.2.2.2.2.2.2.2.1 b (eq_false s0))
      by_cases f4 : f = 4
      · subst f4; by_cases s0 : s = []
        · subst s0; exact qe7 (qfS.2.2.2.2.2.2.2.2.2.2.2.2.1 a) (qgh.2.2.2.2.2.2.2.2.2.2.2.2.1 b)
        · exact yR (qgb.2.2.2.2.2.2.2.2.2.2.2.2.1 a (eq_false s0)) (qgq.2.2.2.2.2.2.2.2.2.2.2.2.1 b (eq_false s0))
      by_cases f2 : f = 2
      · subst f2; by_cases s0 : s = []
        · subst s0; by_cases i0 : 0 ≤ i
          · by_cases i1 : i ≤ 255
            · exact qe7 (qfS.2.2.2.2.2.2.2.2.2.2.2.2.2.1 a (eq_true i0) (eq_true i1)) (qgh.2.2.2.2.2.2.2.2.2.2.2.2.2.1 b (eq_true i0) (eq_true i1))
            · exact yR (qfS.2.2.2.2.2.2.2.2.2.2.2.2.2.2.1 a (eq_true i0) (eq_false i1)) (qgh.2.2.2.2.2.2.2.2.2.2.2.2.2.2.1 b (eq_true i0) (eq_false i1))
          · exact yR (qgb.2.2.2.2.2.2.2.2.2.2.2.2.2.1 a (eq_false i0)) (qgq.2.2.2.2.2.2.2.2.2.2.2.2.2.1 b (eq_false i0))
        · exact yR (qgb.2.2.2.2.2.2.2.2.2.2.2.2.2.2.1 a (eq_false s0)) (qgq.2.2.2.2.2.2.2.2.2.2.2.2.2.2.1 b (eq_false s0))
      by_cases f3 : f = 3
      · subst f3; by_cases s0 : s = []
        · subst s0; by_cases i0 : i = 0
          · subst i0; exact qe7 (qfS.2.2.2.2.2.2.2.2.2.2.2.2.2.2.2.1 a) (qgh.2.2.2.2.2.2.2.2.2.2.2.2.2.2.2.1 b)
          · by_cases i1 : i = 1
            · subst i1; exact qe7 (qgb.2.2.2.2.2.2.2.2.2.2.2.2.2.2.2.1 a) (qgq.2.2.2.2.2.2.2.2.2.2.2.2.2.2.2.1 b)
            · exact yR (qfS.2.2.2.2.2.2.2.2.2.2.2.2.2.2.2.2.1 a (eq_false i0) (eq_false i1)) (qgh.2.2.2.2.2.2.2.2.2.2.2.2.2.2.2.2.1 b (eq_false i0) (eq_false i1))
        · exact yR (qgb.2.2.2.2.2.2.2.2.2.2.2.2.2.2.2.2.1 a (eq_false s0)) (qgq.2.2.2.2.2.2.2.2.2.2.2.2.2.2.2.2.1 b (eq_false s0))
      by_cases f5 : f = 5
      · subst f5; by_cases i0 : i = 0
        · subst i0; by_cases s0 : s = []
          · subst s0; exact yR (qfS.2.2.2.2.2.2.2.2.2.2.2.2.2.2.2.2.2.1 a) (qgh.2.2.2.2.2.2.2.2.2.2.2.2.2.2.2.2.2.1 b)
          · exact yR (qgb.2.2.2.2.2.2.2.2.2.2.2.2.2.2.2.2.2.2.1 a (eq_false s0)) (qgq.2.2.2.2.2.2.2.2.2.2.2.2.2.2.2.2.2.2.1 b (eq_false s0))
        · by_cases s0 : s = []
          · subst s0; exact yR (qgb.2.2.2.2.2.2.2.2.2.2.2.2.2.2.2.2.2.1 a (eq_false i0)) (qgq.2.2.2.2.2.2.2.2.2.2.2.2.2.2.2.2.2.1 b (eq_false i0))
          · exact yR (qfS.2.2.2.2.2.2.2.2.2.2.2.2.2.2.2.2.2.2.1 a (eq_false i0) (eq_false s0)) (qgh.2.2.2.2.2.2.2.2.2.2.2.2.2.2.2.2.2.2.1 b (eq_false i0) (eq_false s0))
      by_cases f6 : f = 6
      · subst f6; by_cases i0 : i = 0
        · subst i0; cases hb : s.all qgj with
          | true => exact qe7 ((leS (.inr rfl) hl hc a).1 hb) ((lfS (.inr rfl) hl hc b).1 hb)
          | false => exact yR ((leS (.inr rfl) hl hc a).2 hb) ((lfS (.inr rfl) hl hc b).2 hb)
        · exact yR (qfS.2.2.2.2.2.2.2.2.2.2.2.2.2.2.2.2.2.2.2.1 a (eq_false i0)) (qgh.2.2.2.2.2.2.2.2.2.2.2.2.2.2.2.2.2.2.2.1 b (eq_false i0))
      by_cases s0 : s = []
      · subst s0; exact yR (qgb.2.2.2.2.2.2.2.2.2.2.2.2.2.2.2.2.2.2.2 a (eq_false f1) (eq_false f2) (eq_false f3) (eq_false f4) (eq_false f5) (eq_false f6)) (qgq.2.2.2.2.2.2.2.2.2.2.2.2.2.2.2.2.2.2.2 b (eq_false f1) (eq_false f2) (eq_false f3) (eq_false f4) (eq_false f5) (eq_false f6))
      · exact yR (qfS.2.2.2.2.2.2.2.2.2.2.2.2.2.2.2.2.2.2.2.2 a (eq_false f1) (eq_false f2) (eq_false f3) (eq_false f4) (eq_false f5) (eq_false f6) (eq_false s0)) (qgh.2.2.2.2.2.2.2.2.2.2.2.2.2.2.2.2.2.2.2.2 b (eq_false f1) (eq_false f2) (eq_false f3) (eq_false f4) (eq_false f5) (eq_false f6) (eq_false s0))
theorem qo7 {i : Int} {o : D} (ho : o = .nil ∨ o = .sl []) : qdM 11 (lmod 1 0 [] o i []) := by
  have hT : TyA 8 (lty 1 0 [] o) := by
    rcases ho with rfl | rfl
    · exact ⟨1, 0, [], .inl rfl⟩
    · exact ⟨1, 0, [], .inr ⟨[], rfl, by simp, by simp⟩⟩
  have a := fun H => l22 (i := i) (s := []) (qvn (ho.imp id .inl)) hT (H := H)
  rcases ho with rfl | rfl
  · have e : (decide (([] : List Nat).length ≤ 120) && stD 8 (lty 1 0 [] .nil)) = true := by simp [stD, lty]
    rw [e] at a
    exact qgb.2.1 a
  · have e : (decide (([] : List Nat).length ≤ 120) && stD 8 (lty 1 0 [] (.sl []))) = true := by simp [stD, lty]
    rw [e] at a
    exact qfS.2.2.2.2.2.2.2.2.2.2.2.1 a
end W

set_option linter.unusedSimpArgs false
set_option linter.unusedVariables false
namespace W
open Go (IntKind BinOp UnOp)
set_option maxRecDepth 20000
set_option maxHeartbeats 4000000
def lx (f n i : Int) (nm s : List Nat) (o : D) : D := .agg [.i .i64 0, .i .i64 f, .i .i64 n, .s nm, o, .i .i32 i, .s s, .nil]
def OkX (x : D) : Prop := ∃ f n i nm s o, x = lx f n i nm s o ∧ (o = .nil ∨ o = .sl [] ∨ ∃ y, o = .sl [y]) ∧ qt9 (lmod f n nm o i s)
theorem qrc {sa : List Nat} {l : List D} (hl : l.length ≤ 1000) (hx : ∀ x ∈ l, OkX x) :
    ∀ (m i : Nat) (e0 : Env) (lo : Nat), i + m = l.length → get 3 e0 = .d (.s sa) → get 64 e0 = .osl l → get 65 e0 = .d (.i .i64 (l.length : Int)) → get 66 e0 = .d (.i .i64 (i : Int)) → ∃ e lo', exL pgK jx ⟨e0, [], lo⟩ = some (.exit 0, ⟨e, [], lo'⟩)
  | 0, i, e0, lo, hi, g3, g64, g65, g66 => by
    have h1 : ((i : Int) < (l.length : Int)) = False := eq_false (by omega)
    simp only [jx, jy]
    simp only [zu, k_, e_, x_, o_, s_, z_, u_, m_, q_, l_, i_, g_, qo, g3, kc, g64, y4, g65, g66, qp, qw, qx, qk, qi, kf, qDJ, kL, Nat.reduceEqDiff, qH, qE, qy, kq, h1, decide_false, ql, qI, qZ, qa, qc, qA, qL, qDt, ↓reduceIte, j7, zY]
    exact ⟨_, _, rfl⟩
  | m + 1, i, e0, lo, hi, g3, g64, g65, g66 => by
    have h1 : ((i : Int) < (l.length : Int)) = True := eq_true (by omega)
    have hlt : i < l.length := by omega
    have hy : l[i]? = some l[i] := List.getElem?_eq_getElem hlt
    have hmem : l[i] ∈ l := List.getElem_mem hlt
    obtain ⟨f, n, k, nm, s, o, ha, ho, hT⟩ := hx _ hmem
    have hix : ∀ {kk : IntKind}, iaV (.d (.sl l)) (.d (.i kk (i : Int))) 8 none = some (.cp (lx f n k nm s o)) := by
      intro kk; rw [← ha]; exact qqr hy (by rw [ha]; rfl)
    have he := fun e0 lo => qrc (sa := sa) hl hx m (i + 1) e0 lo (by omega)
    have hp : wr .i64 ((i : Int) + 1) = ((i + 1 : Nat) : Int) := by rw [qby (by omega) (by omega)]; omega
    obtain ⟨l1, hT⟩ := hT
    simp only [lmod] at hT
    simp only [lx] at hix
    simp only [jx] at he
    simp only [jx]
    rw [jy]
    generalize C.loop [3, 64, 65, 66] zu = L at he ⊢
    by_cases f1 : f = 1
    rotate_left
    · have f1 := eq_false f1
      rcases ho with rfl | rfl | ⟨y, rfl⟩
      all_goals
        simp only [zu, k_, e_, x_, o_, s_, z_, u_, m_, q_, l_, i_, g_, qo, g3, kc, g64, y4, g65, g66, qp, qw, qx, qk, qi, kf, qDJ, kL, Nat.reduceEqDiff, qH, qE, qy, kq, h1, decide_true, ql, qI, qZ, qa, qc, qA, qL, ↓reduceIte, qP, qF, qW, yh, hix, yg, yL, zO, qdO, qDE, qDD, qDz, Nat.reduceAdd, jh, kl, qDy, qDF, kE, qJ, zj, qdh, qds, qN, kB, ke, qz, zT, ki, qX, kU, z8, jO, yD, kj, qDA, zA, jo, qDx, qDT, List.nil_append, qDX, qDQ, List.append_nil, zc, zF, qq, kI, jU, qDN, q9, kY, ju, za, kz, kJ, k9, kS, kP, Nat.reduceLT, yb, qDK, jT, ym, qcP, List.cons_append, zS, zU, kF, jE, List.reduceReplicate, jp, jN, yl, qcU, qgD, yT, yj, yY, qab, qDO, yr, qt, qf, qC, qh, qV, hT, qr, qe, qG, qg, kK, zW, qDL, qDw, qd, qS, kx, qDM, kh, qb, ja, jB, kQ, qDU, jC, qDv, qDu, kA, qDC, zK, f1, decide_false, ky, qDt, kr, qD, qY, z7, ku, kg, zJ, hp]
        exact he _ _ rfl rfl rfl rfl
    subst f1
    by_cases s1 : sa = []
    rotate_left
    · have s1 := eq_false s1
      rcases ho with rfl | rfl | ⟨y, rfl⟩
      all_goals
        simp only [zu, k_, e_, x_, o_, s_, z_, u_, m_, q_, l_, i_, g_, qo, g3, kc, g64, y4, g65, g66, qp, qw, qx, qk, qi, kf, qDJ, kL, Nat.reduceEqDiff, qH, qE, qy, kq, h1, decide_true, ql, qI, qZ, qa, qc, qA, qL, ↓reduceIte, qP, qF, qW, yh, hix, yg, yL, zO, qdO, qDE, qDD, qDz, Nat.reduceAdd, jh, kl, qDy, qDF, kE, qJ, zj, qdh, qds, qN, kB, ke, qz, zT, ki, qX, kU, z8, jO, yD, kj, qDA, zA, jo, qDx, qDT, List.nil_append, qDX, qDQ, List.append_nil, zc, zF, qq, kI, jU, qDN, q9, kY, ju, za, kz, kJ, k9, kS, kP, Nat.reduceLT, yb, qDK, jT, ym, qcP, List.cons_append, zS, zU, kF, jE, List.reduceReplicate, jp, jN, yl, qcU, qgD, yT, yj, yY, qab, qDO, yr, qt, qf, qC, qh, qV, hT, qr, qe, qG, qg, kK, zW, qDL, qDw, qd, qS, kx, qDM, kh, qb, ja, jB, kQ, qDU, jC, qDv, qDu, kA, qDC, zK, ky, j6, s1, decide_false, qD, ku, qDt, kr, qY, z7, kg, zJ, hp]
        exact he _ _ rfl rfl rfl rfl
    have s1 := eq_true s1
    by_cases n1 : n = 0
    rotate_left
    · have n1 := eq_false n1
      rcases ho with rfl | rfl | ⟨y, rfl⟩
      all_goals
        simp only [zu, k_, e_, x_, o_, s_, z_, u_, m_, q_, l_, i_, g_, qo, g3, kc, g64, y4, g65, g66, qp, qw, qx, qk, qi, kf, qDJ, kL, Nat.reduceEqDiff, qH, qE, qy, kq, h1, decide_true, ql, qI, qZ, qa, qc, qA, qL, ↓reduceIte, qP, qF, qW, yh, hix, yg, yL, zO, qdO, qDE, qDD, qDz, Nat.reduceAdd, jh, kl, qDy, qDF, kE, qJ, zj, qdh, qds, qN, kB, ke, qz, zT, ki, qX, kU, z8, jO, yD, kj, qDA, zA, jo, qDx, qDT, List.nil_append, qDX, qDQ, List.append_nil, zc, zF, qq, kI, jU, qDN, q9, kY, ju, za, kz, kJ, k9, kS, kP, Nat.reduceLT, yb, qDK, jT, ym, qcP, List.cons_append, zS, zU, kF, jE, List.reduceReplicate, jp, jN, yl, qcU, qgD, yT, yj, yY, qab, qDO, yr, qt, qf, qC, qh, qV, hT, qr, qe, qG, qg, kK, zW, qDL, qDw, qd, qS, kx, qDM, kh, qb, ja, jB, kQ, qDU, jC, qDv, qDu, kA, qDC, zK, ky, j6, s1, qD, ku, ko, ye, n1, decide_false, qDt, kr, qY, z7, kg, zJ, hp, jR, qDW, Int.reduceEq]
        exact he _ _ rfl rfl rfl rfl
    subst n1
    by_cases m1 : nm = []
    rotate_left
    · have m1 := eq_false m1
      rcases ho with rfl | rfl | ⟨y, rfl⟩
      all_goals
        simp only [zu, k_, e_, x_, o_, s_, z_, u_, m_, q_, l_, i_, g_, qo, g3, kc, g64, y4, g65, g66, qp, qw, qx, qk, qi, kf, qDJ, kL, Nat.reduceEqDiff, qH, qE, qy, kq, h1, decide_true, ql, qI, qZ, qa, qc, qA, qL, ↓reduceIte, qP, qF, qW, yh, hix, yg, yL, zO, qdO, qDE, qDD, qDz, Nat.reduceAdd, jh, kl, qDy, qDF, kE, qJ, zj, qdh, qds, qN, kB, ke, qz, zT, ki, qX, kU, z8, jO, yD, kj, qDA, zA, jo, qDx, qDT, List.nil_append, qDX, qDQ, List.append_nil, zc, zF, qq, kI, jU, qDN, q9, kY, ju, za, kz, kJ, k9, kS, kP, Nat.reduceLT, yb, qDK, jT, ym, qcP, List.cons_append, zS, zU, kF, jE, List.reduceReplicate, jp, jN, yl, qcU, qgD, yT, yj, yY, qab, qDO, yr, qt, qf, qC, qh, qV, hT, qr, qe, qG, qg, kK, zW, qDL, qDw, qd, qS, kx, qDM, kh, qb, ja, jB, kQ, qDU, jC, qDv, qDu, kA, qDC, zK, ky, j6, s1, qD, ku, ko, ye, m1, decide_false, qDt, kr, qY, z7, kg, zJ, hp, jR, qDW, Int.reduceEq]
        exact he _ _ rfl rfl rfl rfl
    subst m1
    by_cases t1 : s = []
    rotate_left
    · have t1 := eq_false t1
      rcases ho with rfl | rfl | ⟨y, rfl⟩
      all_goals
        simp only [zu, k_, e_, x_, o_, s_, z_, u_, m_, q_, l_, i_, g_, qo, g3, kc, g64, y4, g65, g66, qp, qw, qx, qk, qi, kf, qDJ, kL, Nat.reduceEqDiff, qH, qE, qy, kq, h1, decide_true, ql, qI, qZ, qa, qc, qA, qL, ↓reduceIte, qP, qF, qW, yh, hix, yg, yL, zO, qdO, qDE, qDD, qDz, Nat.reduceAdd, jh, kl, qDy, qDF, kE, qJ, zj, qdh, qds, qN, kB, ke, qz, zT, ki, qX, kU, z8, jO, yD, kj, qDA, zA, jo, qDx, qDT, List.nil_append, qDX, qDQ, List.append_nil, zc, zF, qq, kI, jU, qDN, q9, kY, ju, za, kz, kJ, k9, kS, kP, Nat.reduceLT, yb, qDK, jT, ym, qcP, List.cons_append, zS, zU, kF, jE, List.reduceReplicate, jp, jN, yl, qcU, qgD, yT, yj, yY, qab, qDO, yr, qt, qf, qC, qh, qV, hT, qr, qe, qG, qg, kK, zW, qDL, qDw, qd, qS, kx, qDM, kh, qb, ja, jB, kQ, qDU, jC, qDv, qDu, kA, qDC, zK, ky, j6, s1, qD, ku, ko, ye, t1, decide_false, qDt, kr, qY, z7, kg, zJ, hp, jR, qDW, Int.reduceEq]
        exact he _ _ rfl rfl rfl rfl
    subst t1
    rcases ho with rfl | rfl | ⟨y, rfl⟩
    · obtain ⟨l2, hF⟩ := qo7 (i := k) (o := .nil) (.inl rfl)
      simp only [lmod] at hF
      simp only [zu, k_, e_, x_, o_, s_, z_, u_, m_, q_, l_, i_, g_, qo, g3, kc, g64, y4, g65, g66, qp, qw, qx, qk, qi, kf, qDJ, kL, Nat.reduceEqDiff, qH, qE, qy, kq, h1, decide_true, ql, qI, qZ, qa, qc, qA, qL, ↓reduceIte, qP, qF, qW, yh, hix, yg, yL, zO, qdO, qDE, qDD, qDz, Nat.reduceAdd, jh, kl, qDy, qDF, kE, qJ, zj, qdh, qds, qN, kB, ke, qz, zT, ki, qX, kU, z8, jO, yD, kj, qDA, zA, jo, qDx, qDT, List.nil_append, qDX, qDQ, List.append_nil, zc, zF, qq, kI, jU, qDN, q9, kY, ju, za, kz, kJ, k9, kS, kP, Nat.reduceLT, yb, qDK, jT, ym, qcP, List.cons_append, zS, zU, kF, jE, List.reduceReplicate, jp, jN, yl, qcU, qgD, yT, yj, yY, qab, qDO, yr, qt, qf, qC, qh, qV, hT, qr, qe, qG, qg, kK, zW, qDL, qDw, qd, qS, kx, qDM, kh, qb, ja, jB, kQ, qDU, jC, qDv, qDu, kA, qDC, zK, ky, j6, s1, qD, ku, ko, ye, hF, qff, qDt, kg, zJ, hp]
      exact he _ _ rfl rfl rfl rfl
    · obtain ⟨l2, hF⟩ := qo7 (i := k) (o := .sl []) (.inr rfl)
      simp only [lmod] at hF
      simp only [zu, k_, e_, x_, o_, s_, z_, u_, m_, q_, l_, i_, g_, qo, g3, kc, g64, y4, g65, g66, qp, qw, qx, qk, qi, kf, qDJ, kL, Nat.reduceEqDiff, qH, qE, qy, kq, h1, decide_true, ql, qI, qZ, qa, qc, qA, qL, ↓reduceIte, qP, qF, qW, yh, hix, yg, yL, zO, qdO, qDE, qDD, qDz, Nat.reduceAdd, jh, kl, qDy, qDF, kE, qJ, zj, qdh, qds, qN, kB, ke, qz, zT, ki, qX, kU, z8, jO, qab, yD, kj, qDA, zA, jo, qDx, qDT, List.nil_append, qDX, qDQ, List.append_nil, zc, zF, qq, kI, jU, qDN, q9, kY, ju, za, kz, kJ, k9, kS, kP, Nat.reduceLT, yb, qDK, jT, ym, qcP, List.cons_append, zS, zU, kF, jE, List.reduceReplicate, jp, jN, yl, qcU, qgD, yT, yj, yY, qDO, yr, qt, qf, qC, qh, qV, hT, qr, qe, qG, qg, kK, zW, qDL, qDw, qd, qS, kx, qDM, kh, qb, ja, jB, kQ, qDU, jC, qDv, qDu, kA, qDC, zK, ky, j6, s1, qD, ku, ko, jR, qDW, hF, qff, qDt, kg, zJ, hp]
      exact he _ _ rfl rfl rfl rfl
    · simp only [zu, k_, e_, x_, o_, s_, z_, u_, m_, q_, l_, i_, g_, qo, g3, kc, g64, y4, g65, g66, qp, qw, qx, qk, qi, kf, qDJ, kL, Nat.reduceEqDiff, qH, qE, qy, kq, h1, decide_true, ql, qI, qZ, qa, qc, qA, qL, ↓reduceIte, qP, qF, qW, yh, hix, yg, yL, zO, qdO, qDE, qDD, qDz, Nat.reduceAdd, jh, kl, qDy, qDF, kE, qJ, zj, qdh, qds, qN, kB, ke, qz, zT, ki, qX, kU, z8, jO, qab, yD, kj, qDA, zA, jo, qDx, qDT, List.nil_append, qDX, qDQ, List.append_nil, zc, zF, qq, kI, jU, qDN, q9, kY, ju, za, kz, kJ, k9, kS, kP, Nat.reduceLT, yb, qDK, jT, ym, qcP, List.cons_append, zS, zU, kF, jE, List.reduceReplicate, jp, jN, yl, qcU, qgD, yT, yj, yY, qDO, yr, qt, qf, qC, qh, qV, hT, qr, qe, qG, qg, kK, zW, qDL, qDw, qd, qS, kx, qDM, kh, qb, ja, jB, kQ, qDU, jC, qDv, qDu, kA, qDC, zK, ky, j6, s1, qD, ku, ko, jR, qDW, Int.reduceEq, decide_false, qDt, kr, qY, z7, kg, zJ, hp]
      exact he _ _ rfl rfl rfl rfl
end W

set_option linter.unusedSimpArgs false
set_option linter.unusedVariables false
namespace W
open Go (IntKind BinOp UnOp)
set_option maxRecDepth 20000
set_option maxHeartbeats 4000000
theorem qzQ {f n : Int} {nm : List Nat} : TyA 8 (lty f n nm .nil) := ⟨f, n, nm, .inl rfl⟩
theorem qeN {f n i : Int} {nm s : List Nat} (hs : s.length ≤ 1000) (hc : ∀ c ∈ s, c < 256) : OkX (lx f n i nm s .nil) := ⟨f, n, i, nm, s, .nil, rfl, .inl rfl, qm1 qzQ (.inl rfl) hs hc⟩
theorem qdJ {x : D} {l : List D} (h : OkX x) (hl : ∀ y ∈ l, OkX y) : ∀ y ∈ x :: l, OkX y := by
  intro y hy
  rcases List.mem_cons.1 hy with rfl | hy
  · exact h
  · exact hl _ hy
theorem qpC : ∀ y ∈ ([] : List D), OkX y := fun y hy => by cases hy
theorem qtF {op f n i1 i z : Int} {nm s1 s : List Nat} {o xx : D} (hT : TyA 8 (lty f n nm o)) (ho : o = .nil ∨ o = .sl [] ∨ ∃ y, o = .sl [y]) (hx : xx = .nil ∨ ∃ l, xx = .sl l) (h1 : s1.length ≤ 130) (hs : s.length ≤ 130) (hc1 : ∀ c ∈ s1, c < 256) (hc : ∀ c ∈ s, c < 256) (hxx : ∀ l, xx = .sl l → l.length ≤ 3) :
    ∃ lo, qs pgK 5 [.d (.agg [.i .i64 op, .i .i64 f, .i .i64 n, .s nm, o, .i .i32 i1, .s s1, xx]), .d (.i .u8 z), .d (.i .i32 i), .d (.s s)] [] = some ⟨false, true, .d (.b true), [], lo⟩ := by
  obtain ⟨lo0, hkn⟩ := qlG
  have k1 : ((130 : Int) < (s1.length : Int)) = False := eq_false (by omega)
  have k2 : ((130 : Int) < (s.length : Int)) = False := eq_false (by omega)
  have X1 : OkX (lx f n i1 nm s1 o) := ⟨f, n, i1, nm, s1, o, rfl, ho, qm1 hT ho (by omega) hc1⟩
  have e0 : ∀ c ∈ ([] : List Nat), c < 256 := fun c hc => by cases hc
  have done : ∀ {q : Option (Ex × St)} {e : Env} {lo : Nat} {l : List D}, exL pgK jx ⟨e, [], lo⟩ = q → get 64 e = .osl l → get 3 e = .d (.s s) → get 65 e = .d (.i .i64 (l.length : Int)) → get 66 e = .d (.i .i64 ((0 : Nat) : Int)) → l.length ≤ 1000 → (∀ y ∈ l, OkX y) → ∃ e lo', q = some (.exit 0, ⟨e, [], lo'⟩) := by
    intro q e lo l hq g64 g3 g65 g66 hl hx
    rw [← hq]
    exact qrc hl hx l.length 0 e lo (by omega) g3 g64 g65 g66
  rcases hx with rfl | ⟨l, rfl⟩
  · rcases ho with rfl | rfl | ⟨y, rfl⟩
    all_goals
      rw [c_5]
      simp only [bdyK, zI, k_, o_, c_, u_, m_, g_, q_, l_, i_, s_, a_, d_, n_, qn, qDz, Nat.reduceAdd, qu, qDD, qw, qx, qk, zy, kL, qE, qy, qz, ki, qDy, qDF, qX, kU, z8, jO, yD, kj, qDA, yI, qI, kE, qJ, zj, qN, qd, kS, qG, qZ, qa, qc, qt, qh, qV, hkn, qr, qg, qDS, yW, kK, zW, qDL, qDw, ql, qA, qL, qDt, ↓reduceIte, qP, Nat.reduceEqDiff, qH, reduceCtorEq, qM, kT, qi, kf, kA, qDC, kW, k2, decide_false, qS, kx, qDM, kh, qb, ke, ja, jB, qq, kQ, kI, jC, qDv, qDu, q9, ko, ye, Int.reduceLT, qD, ku, k1, qDE, Nat.reduceLeDiff, jU, qDX, qDQ, qDN, qDT, kY, ju, za, kz, kJ, k9, jT, ym, qcP, List.cons_append, List.nil_append, kP, Nat.reduceLT, yb, qDO, qDK, zS, zU, Int.reduceEq, qn6, yZ, qnt, kF, jE, List.reduceReplicate, jp, jN, yl, qcU, yT, yj, yY, yh, jR, qDW, qF, qab]
      generalize hq : exL pgK jx _ = q
      obtain ⟨e, lo', rfl⟩ := done hq rfl rfl rfl rfl (by simp) (qdJ X1 (qdJ (qeN (by simp) e0) (qdJ (qeN (by omega) hc) (qdJ (qeN (by simp) e0) (qdJ (qeN (by simp) e0) (qdJ (qeN (by omega) hc) qpC))))))
      simp only [zC, ↓reduceIte, qp, qb4, k_, o_, qc, qw, qx, qk, qd, kS, qG, qI, qZ, qa, qQ, qO, qj, qT, qE, kX, qm, qB, qU, qC, ji, qDD, qDx, kD, qDS, kn]
    all_goals exact ⟨_, rfl⟩
  · have k3 : ((3 : Int) < (l.length : Int)) = False := eq_false (by have := hxx l rfl; omega)
    rcases ho with rfl | rfl | ⟨y, rfl⟩
    all_goals
      rw [c_5]
      simp only [bdyK, zI, k_, o_, c_, u_, m_, g_, q_, l_, i_, s_, a_, d_, n_, qn, qDz, Nat.reduceAdd, qu, qDD, qw, qx, qk, zy, kL, qE, qy, qz, ki, qDy, qDF, qX, kU, z8, jO, yD, qab, kj, qDA, yI, qI, kE, qJ, zj, qN, qd, kS, qG, qZ, qa, qc, qt, qh, qV, hkn, qr, qg, qDS, yW, kK, zW, qDL, qDw, ql, qA, qL, qDt, ↓reduceIte, qP, Nat.reduceEqDiff, qH, reduceCtorEq, qM, kT, qi, kf, kA, qDC, kW, k2, decide_false, qS, kx, qDM, kh, qb, ke, ja, jB, qq, kQ, kI, jC, qDv, qDu, q9, ko, jR, k3, qD, ku, k1, ye, Int.reduceLT, qDE, Nat.reduceLeDiff, jU, qDX, qDQ, qDN, qDT, kY, ju, za, kz, kJ, k9, jT, ym, qcP, List.cons_append, List.nil_append, kP, Nat.reduceLT, yb, qDO, qDK, zS, zU, Int.reduceEq, qn6, yZ, qnt, kF, jE, List.reduceReplicate, jp, jN, yl, qcU, yT, yj, yY, yh, qDW, qF]
      generalize hq : exL pgK jx _ = q
      obtain ⟨e, lo', rfl⟩ := done hq rfl rfl rfl rfl (by simp) (qdJ X1 (qdJ (qeN (by simp) e0) (qdJ (qeN (by omega) hc) (qdJ (qeN (by simp) e0) (qdJ (qeN (by simp) e0) (qdJ (qeN (by omega) hc) qpC))))))
      simp only [zC, ↓reduceIte, qp, qb4, k_, o_, qc, qw, qx, qk, qd, kS, qG, qI, qZ, qa, qQ, qO, qj, qT, qE, kX, qm, qB, qU, qC, ji, qDD, qDx, kD, qDS, kn]
    all_goals exact ⟨_, rfl⟩
theorem qwg {op f n i1 i z : Int} {nm s1 s : List Nat} {o xx : D} (hT : TyA 8 (lty f n nm o)) (ho : o = .nil ∨ ∃ l, o = .sl l) (hx : xx = .nil ∨ ∃ l, xx = .sl l) (hc1 : ∀ c ∈ s1, c < 256) (hc : ∀ c ∈ s, c < 256) :
    ∃ lo, qs pgK 5 [.d (.agg [.i .i64 op, .i .i64 f, .i .i64 n, .s nm, o, .i .i32 i1, .s s1, xx]), .d (.i .u8 z), .d (.i .i32 i), .d (.s s)] [] = some ⟨false, true, .d (.b true), [], lo⟩ := by
  obtain ⟨lo0, hkn⟩ := qlG
  have oo : D.one o = true := by rcases ho with rfl | ⟨l, rfl⟩ <;> rfl
  have ox : D.one xx = true := by rcases hx with rfl | ⟨l, rfl⟩ <;> rfl
  by_cases k2 : s.length ≤ 130
  rotate_left
  · have k2 : ((130 : Int) < (s.length : Int)) = True := eq_true (by omega)
    rw [c_5]
    simp only [bdyK, zI, k_, o_, c_, u_, m_, g_, q_, l_, i_, s_, a_, d_, n_, qn, qDz, Nat.reduceAdd, qu, qDD, qw, qx, qk, zy, kL, qE, qy, qz, ki, qDy, qDF, qX, kU, z8, jO, oo, ox, kj, qDA, yI, qI, kE, qJ, zj, qN, qd, kS, qG, qZ, qa, qc, qt, qh, qV, hkn, qr, qg, qDS, yW, kK, zW, qDL, qDw, ql, qA, qL, qDt, ↓reduceIte, qP, Nat.reduceEqDiff, qH, reduceCtorEq, qM, kT, qi, kf, kA, qDC, kW, k2, decide_true, qS, kx, kh, kr, qD, qY, qar, qQ, kC, qO, qj, qT, kX, qm, qB, qU, qC, ji, qDx, kD, kn]
    exact ⟨_, rfl⟩
  have q2 : ((130 : Int) < (s.length : Int)) = False := eq_false (by omega)
  by_cases k3 : ∀ l, xx = .sl l → l.length ≤ 3
  rotate_left
  · rcases hx with rfl | ⟨l, rfl⟩
    · exact absurd (fun l h => by cases h) k3
    · have k3 : ((3 : Int) < (l.length : Int)) = True := eq_true (by
        by_cases h : l.length ≤ 3
        · exact absurd (fun l' h' => by cases h'; exact h) k3
        · omega)
      rw [c_5]
      simp only [bdyK, zI, k_, o_, c_, u_, m_, g_, q_, l_, i_, s_, a_, d_, n_, qn, qDz, Nat.reduceAdd, qu, qDD, qw, qx, qk, zy, kL, qE, qy, qz, ki, qDy, qDF, qX, kU, z8, jO, oo, ox, kj, qDA, yI, qI, kE, qJ, zj, qN, qd, kS, qG, qZ, qa, qc, qt, qh, qV, hkn, qr, qg, qDS, yW, kK, zW, qDL, qDw, ql, qA, qL, qDt, ↓reduceIte, qP, Nat.reduceEqDiff, qH, reduceCtorEq, qM, kT, qi, kf, kA, qDC, kW, q2, decide_false, qS, kx, qDM, kh, qb, ke, ja, jB, qq, kQ, kI, jC, qDv, qDu, q9, ko, jR, k3, decide_true, qD, ku, kr, qY, qar, qQ, kC, qO, qj, qT, kX, qm, qB, qU, qC, ji, qDx, kD, kn]
      exact ⟨_, rfl⟩
  have q3 : ∀ l, xx = .sl l → ((3 : Int) < (l.length : Int)) = False := fun l h => eq_false (by have := k3 l h; omega)
  by_cases k1 : s1.length ≤ 130
  rotate_left
  · have k1 : ((130 : Int) < (s1.length : Int)) = True := eq_true (by omega)
    rcases hx with rfl | ⟨l, rfl⟩
    · rw [c_5]
      simp only [bdyK, zI, k_, o_, c_, u_, m_, g_, q_, l_, i_, s_, a_, d_, n_, qn, qDz, Nat.reduceAdd, qu, qDD, qw, qx, qk, zy, kL, qE, qy, qz, ki, qDy, qDF, qX, kU, z8, jO, oo, ox, kj, qDA, yI, qI, kE, qJ, zj, qN, qd, kS, qG, qZ, qa, qc, qt, qh, qV, hkn, qr, qg, qDS, yW, kK, zW, qDL, qDw, ql, qA, qL, qDt, ↓reduceIte, qP, Nat.reduceEqDiff, qH, reduceCtorEq, qM, kT, qi, kf, kA, qDC, kW, q2, decide_false, qS, kx, qDM, kh, qb, ke, ja, jB, qq, kQ, kI, jC, qDv, qDu, q9, ko, ye, Int.reduceLT, qD, ku, k1, decide_true, kr, qY, qar, qQ, kC, qO, qj, qT, kX, qm, qB, qU, qC, ji, qDx, kD, kn]
      exact ⟨_, rfl⟩
    · have q3 := q3 l rfl
      rw [c_5]
      simp only [bdyK, zI, k_, o_, c_, u_, m_, g_, q_, l_, i_, s_, a_, d_, n_, qn, qDz, Nat.reduceAdd, qu, qDD, qw, qx, qk, zy, kL, qE, qy, qz, ki, qDy, qDF, qX, kU, z8, jO, oo, ox, kj, qDA, yI, qI, kE, qJ, zj, qN, qd, kS, qG, qZ, qa, qc, qt, qh, qV, hkn, qr, qg, qDS, yW, kK, zW, qDL, qDw, ql, qA, qL, qDt, ↓reduceIte, qP, Nat.reduceEqDiff, qH, reduceCtorEq, qM, kT, qi, kf, kA, qDC, kW, q2, decide_false, qS, kx, qDM, kh, qb, ke, ja, jB, qq, kQ, kI, jC, qDv, qDu, q9, ko, jR, q3, qD, ku, k1, decide_true, kr, qY, qar, qQ, kC, qO, qj, qT, kX, qm, qB, qU, qC, ji, qDx, kD, kn]
      exact ⟨_, rfl⟩
  have q1 : ((130 : Int) < (s1.length : Int)) = False := eq_false (by omega)
  by_cases k4 : o = .nil ∨ o = .sl [] ∨ ∃ y, o = .sl [y]
  · exact qtF hT k4 hx k1 k2 hc1 hc k3
  rcases ho with rfl | ⟨l, rfl⟩
  · exact absurd (.inl rfl) k4
  · have k5 : ((1 : Int) < (l.length : Int)) = True := eq_true (by
      match l, k4 with
      | [], k4 => exact absurd (.inr (.inl rfl)) k4
      | [y], k4 => exact absurd (.inr (.inr ⟨y, rfl⟩)) k4
      | _ :: _ :: _, _ => simp only [qDE]; omega)
    rcases hx with rfl | ⟨m, rfl⟩
    · rw [c_5]
      simp only [bdyK, zI, k_, o_, c_, u_, m_, g_, q_, l_, i_, s_, a_, d_, n_, qn, qDz, Nat.reduceAdd, qu, qDD, qw, qx, qk, zy, kL, qE, qy, qz, ki, qDy, qDF, qX, kU, z8, jO, oo, ox, kj, qDA, yI, qI, kE, qJ, zj, qN, qd, kS, qG, qZ, qa, qc, qt, qh, qV, hkn, qr, qg, qDS, yW, kK, zW, qDL, qDw, ql, qA, qL, qDt, ↓reduceIte, qP, Nat.reduceEqDiff, qH, reduceCtorEq, qM, kT, qi, kf, kA, qDC, kW, q2, decide_false, qS, kx, qDM, kh, qb, ke, ja, jB, qq, kQ, kI, jC, qDv, qDu, q9, ko, ye, Int.reduceLT, qD, ku, q1, jR, k5, decide_true, qQ, kC, qO, qj, qT, kX, qm, qB, qU, qC, ji, qDx, kD, kn]
      exact ⟨_, rfl⟩
    · have q3 := q3 m rfl
      rw [c_5]
      simp only [bdyK, zI, k_, o_, c_, u_, m_, g_, q_, l_, i_, s_, a_, d_, n_, qn, qDz, Nat.reduceAdd, qu, qDD, qw, qx, qk, zy, kL, qE, qy, qz, ki, qDy, qDF, qX, kU, z8, jO, oo, ox, kj, qDA, yI, qI, kE, qJ, zj, qN, qd, kS, qG, qZ, qa, qc, qt, qh, qV, hkn, qr, qg, qDS, yW, kK, zW, qDL, qDw, ql, qA, qL, qDt, ↓reduceIte, qP, Nat.reduceEqDiff, qH, reduceCtorEq, qM, kT, qi, kf, kA, qDC, kW, q2, decide_false, qS, kx, qDM, kh, qb, ke, ja, jB, qq, kQ, kI, jC, qDv, qDu, q9, ko, jR, q3, qD, ku, q1, k5, decide_true, qQ, kC, qO, qj, qT, kX, qm, qB, qU, qC, ji, qDx, kD, kn]
      exact ⟨_, rfl⟩
end W

