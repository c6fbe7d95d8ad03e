/-
  CheckNames: names that are declared twice, or may not be, are refused, wherever they are; both checkers, of any five names: part 7 of what the proof rests on (a value semantics for a part of the language, sound against the model; the walks).
-/
import Derived.Test.YtdgbjjpdepdmmaaGreatDoorW6
set_option linter.unusedSimpArgs false
set_option linter.unusedVariables false
open Bool renaming false_eq_true → qEl, and_eq_true → qEn, cond_eq_ite → qEt, and_self → qEv, or_true → qEy, or_self → qED, not_true → qEG, not_false → qEJ
open List renaming getElem?_cons_zero → qEm, getElem?_cons_succ → qEq, map_cons → qEs, length_cons → qEx, length_nil → qEz, map_nil → qEA, set_cons_zero → qEC, set_cons_succ → qEF, take_succ_cons → qEH, drop_zero → qEK
open Nat renaming le_refl → qEo, beq → qEr, zero_add → qEu, eq_of_beq_eq_true → qEE, add_zero → qEL
open Option renaming map_some → qEp, bind_eq_some_iff → qEw, bind_eq_bind → qEB, pure_def → qEI
namespace W
open Go (IntKind BinOp UnOp)
set_option maxRecDepth 20000
def nvar (s : List Nat) : D := .agg [.s s, .b false, .i .i64 1, .i .i64 0, .s [], .nil]
def ncon (s : List Nat) : D := .agg [.s s, .b false, .i .i64 0, .i .i64 1, .i .i64 0, .s [], .nil, .i .i32 0, .s [], .nil]
def nrec (c d e : List Nat) : D := .agg [.s c, .b false, .s [], .sl [nvar d, nvar e]]
def nprc (d a e : List Nat) : D := .agg [.s d, .b false, .sl [nvar a], .i .i64 0, .i .i64 0, .s [], .nil, .sl [nvar e], .nil, .nil]
def nmod (a b c d e : List Nat) : D := .agg [.s [77], .sl [.s [73, 110]], .sl [ncon a], .nil, .sl [nrec c d e], .sl [nvar b], .sl [nprc d a e], .nil]
theorem qaw {a b c d e : List Nat} {H : List Obj} (ha : ((a.length : Int) ≤ 65) = True) (hb : ((b.length : Int) ≤ 65) = True) (hc : ((c.length : Int) ≤ 65) = True) (hd : ((d.length : Int) ≤ 65) = True) (he : ((e.length : Int) ≤ 65) = True) (ha2 : (65 < (a.length : Int)) = False) (hb2 : (65 < (b.length : Int)) = False) (hc2 : (65 < (c.length : Int)) = False) (hd2 : (65 < (d.length : Int)) = False) (he2 : (65 < (e.length : Int)) = False) : qn pgK 22 [.d (nmod a b c d e)] H = some ⟨false, true, .d (.b true), H, H.length⟩ := by
  simp only [nmod, ncon, nrec, nvar, nprc, qEb, bdyK, qdu, k_, o_, a_, d_, n_, c_, v_, q_, l_, m_, u_, i_, qs, qEu, qy, qA, qB, qo, qe5, kZ, qL, qD, qC, zV, qEs, qEA, kI, jF, qbW, qmC, qgb, zl, qEv, qk1, qP, zS, ki, qa0, kw, qh, zt, qO, kh, qf, qi, qp, Nat.reduceEqDiff, qM, zY, qfk, qt, qlm, qH, qch, qa8, qlA, qEq, qEm, qEp, kF, zR, qeW, qEx, qEz, Int.cast_ofNat_Int, qE, qk, qQ, qr, kj, qDK, qeu, g_, reduceCtorEq, qm, kq, kL, qEy, ye, Int.reduceLE, decide_true, qX, qZ, qu, kC, jt, qx, qN, kp, qaP, Nat.zero_le, jp, qEo, qdk, qF, ql, qq, ql9, jK, zi, kA, kv, kE, kK, ↓reduceIte, qU, kU, jW, qa6, qEG, zx, qEJ, qEL, qDP, qew, qT, zz, qEl, qDd, qbJ, qeD, qiE, qan, qax, qCH, zj, Nat.reduceAdd, qok, qqn, qBi, zE, yK, yN, e_, x_, s_, yP, Int.reduceNeg, qK, qby, qw, kg, qf2, qz, qED, kS, Int.reduceLT, decide_false, qJ, qS, qbr, yW, j0, jD, qb6, qY, qiK, ko, qkf, qeB, Int.toNat_zero, qpz, qcv, qjQ, cond_true, qaY, jL, qf6, qkc, List.nil_append, List.append_nil, qme, qCp, qaS, qqy, yZ, hb, qar, List.drop_succ_cons, qEK, qEH, List.take_zero, ji, yx, jk, zc, zG, qCM, qbx, h_, zF, qpm, kY, qW, ke, qnZ, kR, zU, List.length_append, Nat.le_add_right, qip, qfm, qpx, qkM, qx0, f_slices_ContainsFunc___api_Type_api_Type_, qx4, f_slices_IndexFunc___api_Type_api_Type_, f_slices_IndexFunc___api_Type_api_Type__L0, f_slices_IndexFunc___api_Type_api_Type__B0, f_slices_IndexFunc___api_Type_api_Type__R1, kc, jr, Int.reduceAdd, qzJ, qDT, qez, qhf, qhk, z_, qgR, qg9, qgM, qhp, qD7, qbE, qeI, qeL, qeK, qDY, zw, qCI, zL, qaa, y8, qag, qck, jQ, qDM, qcj, qC7, kN, qCG, za, j4, yd, ya, qDo, qct, ha, qDq, qcb, qBC, qdB, qgA, qgy, qgE, qB3, qbA, Nat.reduceLeDiff, qBK, kW, qC2, zq, yp, yl, yu, qEh, zk, qCA, zD, yM, yJ, yL, qDH, qcq, hc, hd, Int.reduceToNat, qpg, he, qDf, kX, qCF, zp, yz, yk, yw, qDw, qca, qD0, qbu, qCs, kP, qCm, k9, j3, j9, j8, qBS, qaQ]
end W

set_option linter.unusedSimpArgs false
set_option linter.unusedVariables false
namespace W
open Go (IntKind BinOp UnOp)
set_option maxRecDepth 20000
theorem qay {a b c d e : List Nat} {H : List Obj} (ha : ((a.length : Int) ≤ 65) = True) (hb : ((b.length : Int) ≤ 65) = True) (hc : ((c.length : Int) ≤ 65) = True) (hd : ((d.length : Int) ≤ 65) = True) (he : ((e.length : Int) ≤ 65) = True) (ha2 : (65 < (a.length : Int)) = False) (hb2 : (65 < (b.length : Int)) = False) (hc2 : (65 < (c.length : Int)) = False) (hd2 : (65 < (d.length : Int)) = False) (he2 : (65 < (e.length : Int)) = False) : qn pgK 37 [.d (nmod a b c d e)] H = some ⟨false, true, .d (.b true), H, H.length⟩ := by
  simp only [nmod, ncon, nrec, nvar, nprc, qEa, bdyK, qaM, k_, o_, a_, d_, g_, m_, q_, l_, i_, qd0, qdU, n_, e_, x_, h_, qd4, qdN, qdR, s_, qdP, qdT, qdX, qdV, qd2, qdQ, c_, u_, qdS, qs, qEu, qy, qA, qB, qo, qe5, kZ, qL, qD, qC, zV, qEs, qEA, kI, jF, qbW, qmC, qgb, zl, qEv, qk1, qP, zS, ki, qa0, kw, qh, zt, qO, kh, qf, qi, qp, Nat.reduceEqDiff, qM, zY, qfk, qEL, qt, qlm, qH, qch, qa8, qlA, qEm, qEp, kF, qT, zz, qEx, qEz, Int.cast_ofNat_Int, qm, kq, kL, qEy, zU, Int.reduceLT, decide_false, kv, zx, qEJ, kK, ↓reduceIte, qEq, zR, qeW, qE, qk, qQ, qr, kj, qDb, qbw, reduceCtorEq, ye, Int.reduceLE, decide_true, qX, qZ, qu, kC, jt, qx, qN, kp, qaP, Nat.zero_le, jp, qEo, qdk, qF, ql, qq, ql9, jW, qa6, qEG, qU, kU, qEl, qDs, yB, qcD, qcS, qcJ, qeD, qJ, qS, qY, qK, qby, qw, kg, qz, qED, kS, qbr, yW, j0, ko, qkf, qeB, Int.toNat_zero, qpz, qcv, Nat.reduceAdd, qjQ, cond_true, qaY, jL, qhy, qn1, jQ, hb2, qqO, List.drop_succ_cons, qEK, qEH, List.take_zero, qf6, qBV, yy, qcI, qcP, qcC, yZ, jH, kc, jr, Int.reduceAdd, Int.reduceNeg, qzJ, qC9, qbc, qen, qey, qet, qex, qeo, qeA, jm, zo, qDr, yC, qcH, qcL, qcK, qcT, qcM, qcR, qck, ha2, zB, List.reduceReplicate, Nat.reduceLT, yE, qEC, qaj, qba, qiu, qb7, qdm, qb4, qbe, qcA, qbH, qDN, yb, qcf, qcu, qb8, qBt, qaO, qd1, qdZ, qdO, qBv, yj, qcQ, qcG, qcO, Nat.reduceLeDiff, qar, ji, yx, jk, zc, zG, hc2, quW, qjK, hd2, Int.reduceToNat, qpg, he2, qDv, yi, qcE, qcN, qcF, qqy]
end W

set_option linter.unusedVariables false
set_option linter.defProp false
namespace W
set_option maxRecDepth 20000
def AK0 := (And.intro (And.intro (And.intro (And.intro (And.intro (And.intro @bdyK.eq_1 (And.intro @qby @o_.eq_1)) (And.intro @q_.eq_1 (And.intro @z_.eq_1 @m_.eq_1))) (And.intro (And.intro @l_.eq_1 (And.intro @s_.eq_1 @i_.eq_1)) (And.intro @e_.eq_1 (And.intro @g_.eq_1 @a_.eq_1)))) (And.intro (And.intro (And.intro @d_.eq_1 (And.intro @h_.eq_1 @n_.eq_1)) (And.intro @u_.eq_1 (And.intro @x_.eq_1 @c_.eq_1))) (And.intro (And.intro @r_.eq_1 (And.intro @v_.eq_1 @k_.eq_1)) (And.intro (And.intro @qpM @qsT) (And.intro @qvV @qtk))))) (And.intro (And.intro (And.intro (And.intro @quD (And.intro @qxl @qsZ)) (And.intro @qvQ (And.intro @quX @qtb))) (And.intro (And.intro @qtv (And.intro @qu1 @qsH)) (And.intro @qvU (And.intro @qmX @qlS)))) (And.intro (And.intro (And.intro @qmA (And.intro @qr7 @qBz)) (And.intro @qxT (And.intro @qwp @qme))) (And.intro (And.intro @qzD (And.intro @qzd @qzN)) (And.intro (And.intro @qyK @quT) (And.intro @qvl @qxz)))))) (And.intro (And.intro (And.intro (And.intro (And.intro @qxv (And.intro @que @qtW)) (And.intro @qvt (And.intro @quv @qt4))) (And.intro (And.intro @qvk (And.intro @qD9 @qr9)) (And.intro @qyl (And.intro @qD1 @qAd)))) (And.intro (And.intro (And.intro @qDL (And.intro @qtY @qnJ)) (And.intro @zg (And.intro @ql9 @qBZ))) (And.intro (And.intro @qzJ (And.intro @qD4 @qdk)) (And.intro (And.intro @qu4 @qsU) (And.intro @qkf @qpz))))) (And.intro (And.intro (And.intro (And.intro @qpg (And.intro @qeB @qY)) (And.intro @qB (And.intro @jq @qA))) (And.intro (And.intro @qJ (And.intro @qK @qbr)) (And.intro @qX (And.intro @qi @yW)))) (And.intro (And.intro (And.intro @zo (And.intro @qap @qqr)) (And.intro @qsp (And.intro @qS @kc))) (And.intro (And.intro @j0 (And.intro @zH @qbQ)) (And.intro (And.intro @qn6 @qp7) (And.intro @qz @qw)))))))
def AK1 := (And.intro (And.intro (And.intro (And.intro (And.intro (And.intro @qf (And.intro @qo @kE)) (And.intro @zx (And.intro @qhB @kv))) (And.intro (And.intro @kM (And.intro @zO @qd8)) (And.intro @kK (And.intro @qfp @qP)))) (And.intro (And.intro (And.intro @qbp (And.intro @qvp @qw3)) (And.intro @zN (And.intro @kQ @qtf))) (And.intro (And.intro @qt2 (And.intro @zP @qL)) (And.intro (And.intro @qM @qwZ) (And.intro @qtQ @qsg))))) (And.intro (And.intro (And.intro (And.intro @qZ (And.intro @qhg @qaI)) (And.intro @kp (And.intro @qkv @qes))) (And.intro (And.intro @jp (And.intro @qkr @qpo)) (And.intro @qpl (And.intro @qgd @qrr)))) (And.intro (And.intro (And.intro @qkI (And.intro @qp2 @qs)) (And.intro @qy (And.intro @qx @qN))) (And.intro (And.intro @qu (And.intro @kC @jt)) (And.intro (And.intro @qtM @quZ) (And.intro @qvw @qwD)))))) (And.intro (And.intro (And.intro (And.intro (And.intro @qw7 (And.intro @qkO @kZ)) (And.intro @zt (And.intro @qiE @qD3))) (And.intro (And.intro @jK (And.intro @qD @qbH)) (And.intro @qW (And.intro @qch @zY)))) (And.intro (And.intro (And.intro @jL (And.intro @qtG @qsb)) (And.intro @qiK (And.intro @qbv @q9))) (And.intro (And.intro @qsz (And.intro @zi @qfX)) (And.intro (And.intro @qcr @qtE) (And.intro @qtT @qvx))))) (And.intro (And.intro (And.intro (And.intro @kF (And.intro @qjj @qsI)) (And.intro @qrM (And.intro @kg @qd5))) (And.intro (And.intro @zn (And.intro @qui @jH)) (And.intro @qrF (And.intro @qua @qvv)))) (And.intro (And.intro (And.intro @qf2 (And.intro @qs2 @qsn)) (And.intro @qr6 (And.intro @qpc @qC))) (And.intro (And.intro @qO (And.intro @qb6 @qxO)) (And.intro (And.intro @kA @qq) (And.intro @ql @zM)))))))
def AK2 := (And.intro (And.intro (And.intro (And.intro (And.intro (And.intro @kh (And.intro @qcA @kY)) (And.intro @qlm (And.intro @qaY @qAo))) (And.intro (And.intro @qw4 (And.intro @qqn @qdC)) (And.intro @ky (And.intro @qxc @qrT)))) (And.intro (And.intro (And.intro @zS (And.intro @yR @qkq)) (And.intro @jE (And.intro @qq3 @quF))) (And.intro (And.intro @qts (And.intro @qcw @qkl)) (And.intro (And.intro @qh0 @qjQ) (And.intro @qeB @qnJ))))) (And.intro (And.intro (And.intro (And.intro @qh (And.intro @qm @qt)) (And.intro @qvq (And.intro @qwr @jr))) (And.intro (And.intro @qc9 (And.intro @qi7 @qxD)) (And.intro @qqX (And.intro @jm @qqM)))) (And.intro (And.intro (And.intro @kS (And.intro @ye @zU)) (And.intro @jD (And.intro @yr @qvT))) (And.intro (And.intro @qoZ (And.intro @qk4 @quO)) (And.intro (And.intro @jW @qa6) (And.intro @qzT @qU)))))) (And.intro (And.intro (And.intro (And.intro (And.intro @qc3 (And.intro @jA @kU)) (And.intro @yU (And.intro @qT @zR))) (And.intro (And.intro @zz (And.intro @qeD @qeW)) (And.intro @qxs (And.intro @qG @qE)))) (And.intro (And.intro (And.intro @kj (And.intro @qF @qpG)) (And.intro @qtn (And.intro @qr @qk))) (And.intro (And.intro @qQ (And.intro @qlD @ku)) (And.intro (And.intro @qpW @qr1) (And.intro @qfq @qan))))) (And.intro (And.intro (And.intro (And.intro @qia (And.intro @qax @qfm)) (And.intro @qrC (And.intro @qpx @qz9))) (And.intro (And.intro @qCc (And.intro @qp9 @qAM)) (And.intro @zK (And.intro @qcn @qcd)))) (And.intro (And.intro (And.intro @qAh (And.intro @qzr @qaP)) (And.intro @qq0 (And.intro @qwX @qwd))) (And.intro (And.intro @qz5 (And.intro @qj9 @qmO)) (And.intro (And.intro @qzx @qi3) (And.intro @qhI @qp)))))))
def AK3 := (And.intro (And.intro (And.intro (And.intro (And.intro (And.intro @zm (And.intro @qfk @qwF)) (And.intro @qqO (And.intro @qqy @yZ))) (And.intro (And.intro @qbW (And.intro @qmC @qgb)) (And.intro @qH (And.intro @ke @kR)))) (And.intro (And.intro (And.intro @qwk (And.intro @qa8 @qlA)) (And.intro @qar (And.intro @qaU @qqo))) (And.intro (And.intro @jQ (And.intro @qjK @qmz)) (And.intro (And.intro @qf6 @qpw) (And.intro @qu2 @qtV))))) (And.intro (And.intro (And.intro (And.intro @qh9 (And.intro @qce @qgh)) (And.intro @jx (And.intro @qbF @jX))) (And.intro (And.intro @kz (And.intro @kB @jP)) (And.intro @kV (And.intro @kT @jJ)))) (And.intro (And.intro (And.intro @z8 (And.intro @zJ @zf)) (And.intro @zF (And.intro @zV @qpS))) (And.intro (And.intro @qsi (And.intro @qs0 @qjy)) (And.intro (And.intro @qvu @quQ) (And.intro @zl @kI)))))) (And.intro (And.intro (And.intro (And.intro (And.intro @jF (And.intro @qkE @quA)) (And.intro @qu5 (And.intro @qxt @qxp))) (And.intro (And.intro @qgT (And.intro @kl @qe5)) (And.intro @qpm (And.intro @qk1 @qoQ)))) (And.intro (And.intro (And.intro @qog (And.intro @qlo @qkX)) (And.intro @qsh (And.intro @qha @qjH))) (And.intro (And.intro @qnZ (And.intro @qst @qry)) (And.intro (And.intro @ju @j1) (And.intro @qbd @qmB))))) (And.intro (And.intro (And.intro (And.intro @j6 (And.intro @ji @zG)) (And.intro @qte (And.intro @zc @qpZ))) (And.intro (And.intro @jk (And.intro @yx @qv2)) (And.intro @qt1 (And.intro @qug @qws)))) (And.intro (And.intro (And.intro @qxK (And.intro @qsA @zB)) (And.intro @qaj (And.intro @yE @qbe))) (And.intro (And.intro @qhs (And.intro @quY @qb4)) (And.intro (And.intro @qba @qgq) (And.intro @qiu @qdm)))))))
def AK4 := (And.intro (And.intro (And.intro (And.intro (And.intro (And.intro @qb7 (And.intro @qvf @qtC)) (And.intro @qck (And.intro @qsN @qpv))) (And.intro (And.intro @qcv (And.intro @qgo @qjs)) (And.intro @qoR (And.intro @qo1 @qqi)))) (And.intro (And.intro (And.intro @qiW (And.intro @qn5 @qq4)) (And.intro @qos (And.intro @qrq @ko))) (And.intro (And.intro @qw0 (And.intro @qt9 @qAj)) (And.intro (And.intro @kO @qhe) (And.intro @qeC @qkP))))) (And.intro (And.intro (And.intro (And.intro @qdr (And.intro @qmK @qfQ)) (And.intro @qmx (And.intro @qnz @qrP))) (And.intro (And.intro @qpn (And.intro @qsS @qtt)) (And.intro @qoE (And.intro @qfA @qpi)))) (And.intro (And.intro (And.intro @qoW (And.intro @qtL @qyQ)) (And.intro @qyY (And.intro @qng @qvc))) (And.intro (And.intro @quc (And.intro @qrL @quG)) (And.intro (And.intro @qwU @qwR) (And.intro @qv6 @qtr)))))) (And.intro (And.intro (And.intro (And.intro (And.intro @qj7 (And.intro @qwI @qwA)) (And.intro @qu6 (And.intro @qrw @qta))) (And.intro (And.intro @qrQ (And.intro @qyw @qAe)) (And.intro @qzl (And.intro @qyP @qmb)))) (And.intro (And.intro (And.intro @qvO (And.intro @qaF @qhD)) (And.intro @yY (And.intro @qgm @qln))) (And.intro (And.intro @qjq (And.intro @qqm @qwm)) (And.intro (And.intro @qt8 @qsQ) (And.intro @qqz @qdx))))) (And.intro (And.intro (And.intro (And.intro @qmM (And.intro @qp1 @ql5)) (And.intro @quk (And.intro @kq @kL))) (And.intro (And.intro @qAw (And.intro @qBW @qn9)) (And.intro @qpB (And.intro @qoK @qpf)))) (And.intro (And.intro (And.intro @qz0 (And.intro @qwu @qwT)) (And.intro @qul (And.intro @qw2 @qwS))) (And.intro (And.intro @kw (And.intro @ki @qa0)) (And.intro (And.intro @qmq @zh) (And.intro @qsd @qbX)))))))
def AK5 := (And.intro (And.intro (And.intro (And.intro (And.intro (And.intro @qv1 (And.intro @qrJ @qbB)) (And.intro @qvY (And.intro @qmh @qjL))) (And.intro (And.intro @quu (And.intro @quU @qs7)) (And.intro @zI (And.intro @qlp @qhy)))) (And.intro (And.intro (And.intro @qoF (And.intro @qn1 @qA8)) (And.intro @quW (And.intro @qwh @qxi))) (And.intro (And.intro @zA (And.intro @y9 @qiB)) (And.intro (And.intro @qkA @qv4) (And.intro @qrd @quy))))) (And.intro (And.intro (And.intro (And.intro @qgk (And.intro @qlv @qde)) (And.intro @qof (And.intro @qvP @qhH))) (And.intro (And.intro @qtg (And.intro @qvA @qu9)) (And.intro @qok (And.intro @qma @qrU)))) (And.intro (And.intro (And.intro @qsJ (And.intro @qwt @qtN)) (And.intro @qn2 (And.intro @qtP @qxZ))) (And.intro (And.intro @qqP (And.intro @qwj @qxd)) (And.intro (And.intro @qra @qtq) (And.intro @qxe @qwJ)))))) (And.intro (And.intro (And.intro (And.intro (And.intro @qzv (And.intro @qxy @ql3)) (And.intro @qAs (And.intro @qz3 @qwK))) (And.intro (And.intro @qqk (And.intro @qtm @qdj)) (And.intro @qfV (And.intro @qjV @qoj)))) (And.intro (And.intro (And.intro @qhC (And.intro @qwL @qjx)) (And.intro @qy5 (And.intro @qkc @qlr))) (And.intro (And.intro @qoI (And.intro @qo2 @qip)) (And.intro (And.intro @qkM @qww) (And.intro @qqt @qqj))))) (And.intro (And.intro (And.intro (And.intro @qvi (And.intro @qtJ @qnn)) (And.intro @qvW (And.intro @qg0 @qse))) (And.intro (And.intro @qom (And.intro @qj0 @qrW)) (And.intro @qm3 (And.intro @qrB @qrI)))) (And.intro (And.intro (And.intro @qrO (And.intro @qxF @qsl)) (And.intro @qso (And.intro @quP @quw))) (And.intro (And.intro @qr2 (And.intro @qtF @qr3)) (And.intro (And.intro @qxC @qw1) (And.intro @qwe @qvB)))))))
def AK6 := (And.intro (And.intro (And.intro (And.intro (And.intro (And.intro @qlM (And.intro @qpD @c_6)) (And.intro @f_waferlaw17_CheckNames.eq_1 (And.intro @qzE @f_waferlaw17_told.eq_1))) (And.intro (And.intro @qum (And.intro @f_waferref17_Check_B0.eq_1 @f_waferref17_Check_L0.eq_1)) (And.intro @f_waferref17_Check_R1.eq_1 (And.intro @f_waferref17_Check.eq_1 @qDF)))) (And.intro (And.intro (And.intro @f_recheck_must.eq_1 (And.intro @qDI @f_front_NewEnv_A0.eq_1)) (And.intro @f_front_NewEnv_B0.eq_1 (And.intro @f_front_NewEnv_R1.eq_1 @f_front_NewEnv_B2.eq_1))) (And.intro (And.intro @f_front_NewEnv_L2.eq_1 (And.intro @f_front_NewEnv_R3.eq_1 @f_front_NewEnv.eq_1)) (And.intro (And.intro @qDz @f_recheck_checker_heads_B0.eq_1) (And.intro @f_recheck_checker_heads_L0.eq_1 @f_recheck_checker_heads_B1.eq_1))))) (And.intro (And.intro (And.intro (And.intro @f_recheck_checker_heads_L1.eq_1 (And.intro @f_recheck_checker_heads_B2.eq_1 @f_recheck_checker_heads_L2.eq_1)) (And.intro @f_recheck_checker_heads_B3.eq_1 (And.intro @f_recheck_checker_heads_L3.eq_1 @f_recheck_checker_heads_B4.eq_1))) (And.intro (And.intro @f_recheck_checker_heads_L4.eq_1 (And.intro @f_recheck_checker_heads_B5.eq_1 @f_recheck_checker_heads_L5.eq_1)) (And.intro @f_recheck_checker_heads_R6.eq_1 (And.intro @f_recheck_checker_heads_R7.eq_1 @f_recheck_checker_heads_R8.eq_1)))) (And.intro (And.intro (And.intro @f_recheck_checker_heads_R9.eq_1 (And.intro @f_recheck_checker_heads_R10.eq_1 @f_recheck_checker_heads.eq_1)) (And.intro @qDg (And.intro @f_recheck_checker_records_B0.eq_1 @f_recheck_checker_records_L0.eq_1))) (And.intro (And.intro @f_recheck_checker_records_B1.eq_1 (And.intro @f_recheck_checker_records_L1.eq_1 @f_recheck_checker_records_B2.eq_1)) (And.intro (And.intro @f_recheck_checker_records_L2.eq_1 @f_recheck_checker_records_R3.eq_1) (And.intro @f_recheck_checker_records_R4.eq_1 @f_recheck_checker_records_R5.eq_1)))))) (And.intro (And.intro (And.intro (And.intro (And.intro @f_recheck_checker_records_B6.eq_1 (And.intro @f_recheck_checker_records_L6.eq_1 @f_recheck_checker_records_R7.eq_1)) (And.intro @f_recheck_checker_records.eq_1 (And.intro @qDO @f_recheck_checker_declared_B0.eq_1))) (And.intro (And.intro @f_recheck_checker_declared_L0.eq_1 (And.intro @f_recheck_checker_declared_B1.eq_1 @f_recheck_checker_declared_L1.eq_1)) (And.intro @f_recheck_checker_declared_B2.eq_1 (And.intro @f_recheck_checker_declared_L2.eq_1 @f_recheck_checker_declared_B3.eq_1)))) (And.intro (And.intro (And.intro @f_recheck_checker_declared_L3.eq_1 (And.intro @f_recheck_checker_declared_R4.eq_1 @f_recheck_checker_declared_R5.eq_1)) (And.intro @f_recheck_checker_declared_R6.eq_1 (And.intro @f_recheck_checker_declared.eq_1 @qDG))) (And.intro (And.intro @f_recheck_checker_procedure_B0.eq_1 (And.intro @f_recheck_checker_procedure_L0.eq_1 @f_recheck_checker_procedure_B1.eq_1)) (And.intro (And.intro @f_recheck_checker_procedure_L1.eq_1 @f_recheck_checker_procedure_B2.eq_1) (And.intro @f_recheck_checker_procedure_L2.eq_1 @f_recheck_checker_procedure_R3.eq_1))))) (And.intro (And.intro (And.intro (And.intro @f_recheck_checker_procedure_R4.eq_1 (And.intro @f_recheck_checker_procedure.eq_1 @qEe)) (And.intro @f_recheck_checker_body_B0.eq_1 (And.intro @f_recheck_checker_body_L0.eq_1 @f_recheck_checker_body_R1.eq_1))) (And.intro (And.intro @f_recheck_checker_body_B2.eq_1 (And.intro @f_recheck_checker_body_L2.eq_1 @f_recheck_checker_body.eq_1)) (And.intro @qDe (And.intro @f_waferref17_Others_B0.eq_1 @f_waferref17_Others_L0.eq_1)))) (And.intro (And.intro (And.intro @f_waferref17_Others_R1.eq_1 (And.intro @f_waferref17_Others.eq_1 @qDc)) (And.intro @f_waferref11_Recs_B0.eq_1 (And.intro @f_waferref11_Recs_L0.eq_1 @f_waferref11_Recs_R1.eq_1))) (And.intro (And.intro @f_waferref11_Recs_B2.eq_1 (And.intro @f_waferref11_Recs_L2.eq_1 @f_waferref11_Recs_R3.eq_1)) (And.intro (And.intro @f_waferref11_Recs.eq_1 @qDl) (And.intro @f_waferref17_ctx_names_B0.eq_1 @f_waferref17_ctx_names_L0.eq_1)))))))
def AK7 := (And.intro (And.intro (And.intro (And.intro (And.intro (And.intro @f_waferref17_ctx_names_R1.eq_1 (And.intro @f_waferref17_ctx_names.eq_1 @qEj)) (And.intro @f_waferref17_ctx_types_B0.eq_1 (And.intro @f_waferref17_ctx_types_L0.eq_1 @f_waferref17_ctx_types_B1.eq_1))) (And.intro (And.intro @f_waferref17_ctx_types_L1.eq_1 (And.intro @f_waferref17_ctx_types_B2.eq_1 @f_waferref17_ctx_types_L2.eq_1)) (And.intro @f_waferref17_ctx_types_R3.eq_1 (And.intro @f_waferref17_ctx_types_R4.eq_1 @f_waferref17_ctx_types_B5.eq_1)))) (And.intro (And.intro (And.intro @f_waferref17_ctx_types_L5.eq_1 (And.intro @f_waferref17_ctx_types_B6.eq_1 @f_waferref17_ctx_types_L6.eq_1)) (And.intro @f_waferref17_ctx_types_B7.eq_1 (And.intro @f_waferref17_ctx_types_L7.eq_1 @f_waferref17_ctx_types_R8.eq_1))) (And.intro (And.intro @f_waferref17_ctx_types_R9.eq_1 (And.intro @f_waferref17_ctx_types_R10.eq_1 @f_waferref17_ctx_types_R11.eq_1)) (And.intro (And.intro @f_waferref17_ctx_types.eq_1 @qDm) (And.intro @f_waferref17_ctx_procedure_B0.eq_1 @f_waferref17_ctx_procedure_L0.eq_1))))) (And.intro (And.intro (And.intro (And.intro @f_waferref17_ctx_procedure_B1.eq_1 (And.intro @f_waferref17_ctx_procedure_L1.eq_1 @f_waferref17_ctx_procedure_R2.eq_1)) (And.intro @f_waferref17_ctx_procedure_R3.eq_1 (And.intro @f_waferref17_ctx_procedure.eq_1 @qC8))) (And.intro (And.intro @f_waferref17_ctx_body_B0.eq_1 (And.intro @f_waferref17_ctx_body_L0.eq_1 @f_waferref17_ctx_body_R1.eq_1)) (And.intro @f_waferref17_ctx_body.eq_1 (And.intro @qDS @f_slices_Backward___api_Rec_api_Rec_.eq_1)))) (And.intro (And.intro (And.intro @qD6 (And.intro @f_recheck_name.eq_1 @qDE)) (And.intro @f_recheck_checker_heads_1.eq_1 (And.intro @qDA @f_front_Env_Import_B0.eq_1))) (And.intro (And.intro @f_front_Env_Import_L0.eq_1 (And.intro @f_front_Env_Import_A1.eq_1 @f_front_Env_Import_B1.eq_1)) (And.intro (And.intro @f_front_Env_Import_A2.eq_1 @f_front_Env_Import_B2.eq_1) (And.intro @f_front_Env_Import_R3.eq_1 @f_front_Env_Import_R4.eq_1)))))) (And.intro (And.intro (And.intro (And.intro (And.intro @f_front_Env_Import_R5.eq_1 (And.intro @f_front_Env_Import.eq_1 @qC6)) (And.intro @f_recheck_checker_own.eq_1 (And.intro @qD5 @f_types_Fields_B0.eq_1))) (And.intro (And.intro @f_types_Fields_L0.eq_1 (And.intro @f_types_Fields_A1.eq_1 @f_types_Fields_B1.eq_1)) (And.intro @f_types_Fields_R2.eq_1 (And.intro @f_types_Fields.eq_1 @qEg)))) (And.intro (And.intro (And.intro @f_recheck_checker_typ.eq_1 (And.intro @qEc @f_recheck_checker_expr_B0.eq_1)) (And.intro @f_recheck_checker_expr_L0.eq_1 (And.intro @f_recheck_checker_expr_R1.eq_1 @f_recheck_checker_expr_B2.eq_1))) (And.intro (And.intro @f_recheck_checker_expr_L2.eq_1 (And.intro @f_recheck_checker_expr_R3.eq_1 @f_recheck_checker_expr_R4.eq_1)) (And.intro (And.intro @f_recheck_checker_expr.eq_1 @qDh) (And.intro @f_recheck_typed.eq_1 @qDn))))) (And.intro (And.intro (And.intro (And.intro @f_recheck_checker_local.eq_1 (And.intro @qDD @f_front_Plain.eq_1)) (And.intro @qDj (And.intro @f_recheck_same.eq_1 @qDB))) (And.intro (And.intro @f_recheck_checker_stmt_B0.eq_1 (And.intro @f_recheck_checker_stmt_L0.eq_1 @f_recheck_checker_stmt_R1.eq_1)) (And.intro @f_recheck_checker_stmt.eq_1 (And.intro @qDC @f_slices_Contains___string_string_.eq_1)))) (And.intro (And.intro (And.intro @qDW (And.intro @f_waferref17_once_B0.eq_1 @f_waferref17_once_L0.eq_1)) (And.intro @f_waferref17_once_R1.eq_1 (And.intro @f_waferref17_once.eq_1 @qDy))) (And.intro (And.intro @f_waferref17_all_B0.eq_1 (And.intro @f_waferref17_all_L0.eq_1 @f_waferref17_all_B1.eq_1)) (And.intro (And.intro @f_waferref17_all_L1.eq_1 @f_waferref17_all_B2.eq_1) (And.intro @f_waferref17_all_L2.eq_1 @f_waferref17_all_B3.eq_1)))))))
def AK8 := (And.intro (And.intro (And.intro (And.intro (And.intro (And.intro @f_waferref17_all_L3.eq_1 (And.intro @f_waferref17_all_B4.eq_1 @f_waferref17_all_L4.eq_1)) (And.intro @f_waferref17_all_R5.eq_1 (And.intro @f_waferref17_all_R6.eq_1 @f_waferref17_all_R7.eq_1))) (And.intro (And.intro @f_waferref17_all_R8.eq_1 (And.intro @f_waferref17_all_R9.eq_1 @f_waferref17_all.eq_1)) (And.intro @qC5 (And.intro @f_waferref17_imported_B0.eq_1 @f_waferref17_imported_L0.eq_1)))) (And.intro (And.intro (And.intro @f_waferref17_imported_R1.eq_1 (And.intro @f_waferref17_imported.eq_1 @qEd)) (And.intro @f_waferref17_module_B0.eq_1 (And.intro @f_waferref17_module_L0.eq_1 @f_waferref17_module_R1.eq_1))) (And.intro (And.intro @f_waferref17_module.eq_1 (And.intro @qD8 @f_waferref17_RightLit_B0.eq_1)) (And.intro (And.intro @f_waferref17_RightLit_L0.eq_1 @f_waferref17_RightLit_R1.eq_1) (And.intro @f_waferref17_RightLit_R2.eq_1 @f_waferref17_RightLit.eq_1))))) (And.intro (And.intro (And.intro (And.intro @qDp (And.intro @f_waferref17_is.eq_1 @qDV)) (And.intro @f_waferref11_Fields.eq_1 (And.intro @qAJ @f_waferref11_Words.eq_1))) (And.intro (And.intro @qAS (And.intro @f_waferref17_record.eq_1 @qCg)) (And.intro @f_waferref17_ctx_known_B0.eq_1 (And.intro @f_waferref17_ctx_known_L0.eq_1 @f_waferref17_ctx_known_R1.eq_1)))) (And.intro (And.intro (And.intro @f_waferref17_ctx_known.eq_1 (And.intro @qCk @f_waferref11_Scalar.eq_1)) (And.intro @qCz (And.intro @f_waferref11_Alike_B0.eq_1 @f_waferref11_Alike_L0.eq_1))) (And.intro (And.intro @f_waferref11_Alike_R1.eq_1 (And.intro @f_waferref11_Alike.eq_1 @qBo)) (And.intro (And.intro @f_types_chain_B0.eq_1 @f_types_chain_L0.eq_1) (And.intro @f_types_chain_R1.eq_1 @f_types_chain.eq_1)))))) (And.intro (And.intro (And.intro (And.intro (And.intro @qCS (And.intro @f_types_Clone_B0.eq_1 @f_types_Clone_L0.eq_1)) (And.intro @f_types_Clone_R1.eq_1 (And.intro @f_types_Clone.eq_1 @qBO))) (And.intro (And.intro @f_types_Right.eq_1 (And.intro @qCf @f_front_Env_Named.eq_1)) (And.intro @qBb (And.intro @f_types_Words.eq_1 @qAK)))) (And.intro (And.intro (And.intro @f_types_Basic.eq_1 (And.intro @qCh @f_recheck_bare.eq_1)) (And.intro @qBF (And.intro @f_recheck_checker_lit_B0.eq_1 @f_recheck_checker_lit_L0.eq_1))) (And.intro (And.intro @f_recheck_checker_lit.eq_1 (And.intro @qCT @f_recheck_checker_name.eq_1)) (And.intro (And.intro @qCP @f_front_form.eq_1) (And.intro @qCK @f_tree_SameExpr.eq_1))))) (And.intro (And.intro (And.intro (And.intro @qAY (And.intro @f_types_plain.eq_1 @qAZ)) (And.intro @f_recheck_checker_standard_B0.eq_1 (And.intro @f_recheck_checker_standard_L0.eq_1 @f_recheck_checker_standard_R1.eq_1))) (And.intro (And.intro @f_recheck_checker_standard.eq_1 (And.intro @qA7 @f_waferref11_Basic.eq_1)) (And.intro @qBr (And.intro @f_slices_Index___string_string__B0.eq_1 @f_slices_Index___string_string__L0.eq_1)))) (And.intro (And.intro (And.intro @f_slices_Index___string_string__R1.eq_1 (And.intro @f_slices_Index___string_string_.eq_1 @qC4)) (And.intro @f_waferref17_basic.eq_1 (And.intro @qA1 @f_waferref11_fields.eq_1))) (And.intro (And.intro @qAR (And.intro @f_waferref11_words_B0.eq_1 @f_waferref11_words_L0.eq_1)) (And.intro (And.intro @f_waferref11_words_R1.eq_1 @f_waferref11_words_R2.eq_1) (And.intro @f_waferref11_words.eq_1 @qAD)))))))
def AK9 := (And.intro (And.intro (And.intro (And.intro (And.intro (And.intro @f_waferref11_Right.eq_1 @qx0) (And.intro @f_slices_ContainsFunc___api_Type_api_Type_.eq_1 @qCO)) (And.intro (And.intro @f_types_sizes_words.eq_1 @qB4) (And.intro @f_strings_Contains.eq_1 @qCy))) (And.intro (And.intro (And.intro @f_slices_Contains___int_int_.eq_1 @qBh) (And.intro @f_tree_sameType.eq_1 @qC1)) (And.intro (And.intro @f_slices_EqualFunc___api_Expr___api_Expr_api_Expr_api_Expr__B0.eq_1 @f_slices_EqualFunc___api_Expr___api_Expr_api_Expr_api_Expr__L0.eq_1) (And.intro @f_slices_EqualFunc___api_Expr___api_Expr_api_Expr_api_Expr__R1.eq_1 @f_slices_EqualFunc___api_Expr___api_Expr_api_Expr_api_Expr_.eq_1)))) (And.intro (And.intro (And.intro (And.intro @qAT @f_slices_EqualFunc___api_Type___api_Type_api_Type_api_Type__B0.eq_1) (And.intro @f_slices_EqualFunc___api_Type___api_Type_api_Type_api_Type__L0.eq_1 @f_slices_EqualFunc___api_Type___api_Type_api_Type_api_Type__R1.eq_1)) (And.intro (And.intro @f_slices_EqualFunc___api_Type___api_Type_api_Type_api_Type_.eq_1 @qC0) (And.intro @f_front_Env_Right_B0.eq_1 @f_front_Env_Right_L0.eq_1))) (And.intro (And.intro (And.intro @f_front_Env_Right_R1.eq_1 @f_front_Env_Right.eq_1) (And.intro @qx4 @f_slices_IndexFunc___api_Type_api_Type__B0.eq_1)) (And.intro (And.intro @f_slices_IndexFunc___api_Type_api_Type__L0.eq_1 @f_slices_IndexFunc___api_Type_api_Type__R1.eq_1) (And.intro @f_slices_IndexFunc___api_Type_api_Type_.eq_1 (And.intro @qBs @f_types_sizes_record_B0.eq_1)))))) (And.intro (And.intro (And.intro (And.intro (And.intro @f_types_sizes_record_L0.eq_1 @f_types_sizes_record_R1.eq_1) (And.intro @f_types_sizes_record_B2.eq_1 @f_types_sizes_record_L2.eq_1)) (And.intro (And.intro @f_types_sizes_record_R3.eq_1 @f_types_sizes_record.eq_1) (And.intro @qAV @f_strings_Index.eq_1))) (And.intro (And.intro (And.intro @qBG @f_slices_Index___int_int__B0.eq_1) (And.intro @f_slices_Index___int_int__L0.eq_1 @f_slices_Index___int_int__R1.eq_1)) (And.intro (And.intro @f_slices_Index___int_int_.eq_1 @qBX) (And.intro @f_front_forms.eq_1 @qAG)))) (And.intro (And.intro (And.intro (And.intro @f_internal_stringslite_Index_B0.eq_1 @f_internal_stringslite_Index_L0.eq_1) (And.intro @f_internal_stringslite_Index_R1.eq_1 @f_internal_stringslite_Index.eq_1)) (And.intro (And.intro @f_recheck_Check_D.eq_1 @f_recheck_Check_B0.eq_1) (And.intro @f_recheck_Check_L0.eq_1 @f_recheck_Check_R1.eq_1))) (And.intro (And.intro (And.intro @f_recheck_Check_1.eq_1 @qxI) (And.intro @qzV @qyp)) (And.intro (And.intro @nmod.eq_1 @nvar.eq_1) (And.intro @ncon.eq_1 (And.intro @nrec.eq_1 @nprc.eq_1)))))))
end W

set_option linter.unusedSimpArgs false
set_option linter.unusedVariables false
namespace W
open Go (IntKind BinOp UnOp)
set_option maxRecDepth 20000
set_option maxHeartbeats 4000000
theorem qu0 : (∀ {a b c d e : List Nat}, Nm a → Nm b → Nm c → Nm d → Nm e → idB a = false → Bad 11 (nmod a b c d e)) ∧
    (∀ {a b d e : List Nat}, Nm a → Nm b → Nm d → Nm e → idB a = true → (a = [73, 110]) = False → Bad 11 (nmod a b a d e)) ∧
    (∀ {a c d e : List Nat}, Nm a → Nm c → Nm d → Nm e → idB a = true → idB c = true → (a = [73, 110]) = False → (c = [73, 110]) = False → (c = a) = False → Bad 11 (nmod a c c d e)) ∧
    (∀ {a b c e : List Nat}, Nm a → Nm b → Nm c → Nm e → idB a = true → idB c = true → idB b = true → (a = [73, 110]) = False → (c = [73, 110]) = False → (c = a) = False → (b = [73, 110]) = False → (b = a) = False → (b = c) = False → Bad 11 (nmod a b c c e)) ∧
    (∀ {a b c d : List Nat}, Nm a → Nm b → Nm c → Nm d → idB a = true → idB c = true → idB b = true → idB d = true → (a = [73, 110]) = False → (c = [73, 110]) = False → (c = a) = False → (b = [73, 110]) = False → (b = a) = False → (b = c) = False → (d = [73, 110]) = False → (d = a) = False → (d = c) = False → (d = b) = False → Bad 11 (nmod a b c d a)) := by
  refine ⟨?_, ?_, ?_, ?_, ?_⟩
  intro a b c d e na nb nc nd ne ia
  have hS := fun H => qaw (H := H) na.l1 nb.l1 nc.l1 nd.l1 ne.l1 na.l2 nb.l2 nc.l2 nd.l2 ne.l2
  have jM := nmM.i14 (b := true) (by decide)
  have jI := nmIn.i14 (b := true) (by decide)
  have qI := nmIn.cat
  have qa := na.cat
  have qb := nb.cat
  have qc := nc.cat
  have qd := nd.cat
  have qe := ne.cat
  have ja := na.i14 ia
  clear na nb nc nd ne ia
  rotate_left
  intro a b d e na nb nd ne ia h0
  have hS := fun H => qaw (H := H) na.l1 nb.l1 na.l1 nd.l1 ne.l1 na.l2 nb.l2 na.l2 nd.l2 ne.l2
  have jM := nmM.i14 (b := true) (by decide)
  have jI := nmIn.i14 (b := true) (by decide)
  have qI := nmIn.cat
  have qa := na.cat
  have qb := nb.cat
  have qd := nd.cat
  have qe := ne.cat
  have ja := na.i14 ia
  have g0 := qj h0
  clear na nb nd ne ia
  rotate_left
  intro a c d e na nc nd ne ia ic h0 h1 h2
  have hS := fun H => qaw (H := H) na.l1 nc.l1 nc.l1 nd.l1 ne.l1 na.l2 nc.l2 nc.l2 nd.l2 ne.l2
  have jM := nmM.i14 (b := true) (by decide)
  have jI := nmIn.i14 (b := true) (by decide)
  have qI := nmIn.cat
  have qa := na.cat
  have qc := nc.cat
  have qd := nd.cat
  have qe := ne.cat
  have ja := na.i14 ia
  have jc := nc.i14 ic
  have g0 := qj h0
  have g1 := qj h1
  have g2 := qj h2
  clear na nc nd ne ia ic
  rotate_left
  intro a b c e na nb nc ne ia ic ib h0 h1 h2 h3 h4 h5
  have hS := fun H => qaw (H := H) na.l1 nb.l1 nc.l1 nc.l1 ne.l1 na.l2 nb.l2 nc.l2 nc.l2 ne.l2
  have jM := nmM.i14 (b := true) (by decide)
  have jI := nmIn.i14 (b := true) (by decide)
  have qI := nmIn.cat
  have qa := na.cat
  have qb := nb.cat
  have qc := nc.cat
  have qe := ne.cat
  have ja := na.i14 ia
  have jc := nc.i14 ic
  have jb := nb.i14 ib
  have g0 := qj h0
  have g1 := qj h1
  have g2 := qj h2
  have g3 := qj h3
  have g4 := qj h4
  have g5 := qj h5
  clear na nb nc ne ia ic ib
  rotate_left
  intro a b c d na nb nc nd ia ic ib id h0 h1 h2 h3 h4 h5 h6 h7 h8 h9
  have hS := fun H => qaw (H := H) na.l1 nb.l1 nc.l1 nd.l1 na.l1 na.l2 nb.l2 nc.l2 nd.l2 na.l2
  have jM := nmM.i14 (b := true) (by decide)
  have jI := nmIn.i14 (b := true) (by decide)
  have qI := nmIn.cat
  have qa := na.cat
  have qb := nb.cat
  have qc := nc.cat
  have qd := nd.cat
  have ja := na.i14 ia
  have jc := nc.i14 ic
  have jb := nb.i14 ib
  have jd := nd.i14 id
  have g0 := qj h0
  have g1 := qj h1
  have g2 := qj h2
  have g3 := qj h3
  have g4 := qj h4
  have g5 := qj h5
  have g6 := qj h6
  have g7 := qj h7
  have g8 := qj h8
  have g9 := qj h9
  clear na nb nc nd ia ic ib id
  rotate_left
  all_goals
    simp only [nmod, nvar, ncon, nrec, nprc] at hS
    first | unfold qlW | unfold Bad
    rw [qxG]
    simp (config := { maxSteps := 100000000 }) only [*, AK0, AK1, AK2, AK3, AK4, AK5, AK6, AK7, AK8, AK9, eq_self, Int.cast_ofNat_Int, beq_true, beq_false, Nat.max_self, Nat.zero_max, Nat.max_zero, qEm, qEq, qEL, qEC, qEF, ne_eq, not_false_eq_true, not_true_eq_false, Bool.true_and, Bool.and_true, Bool.false_and, Bool.and_false, qEG, qEJ, Bool.false_or, Bool.true_or, Bool.or_false, qEy, decide_true, decide_false, decide_eq_true_eq, Bool.not_eq_true', decide_eq_false_iff_not, qEp, Option.map_none, qEs, qEA, Nat.succ_eq_add_one, qEu, List.cons_append, List.nil_append, List.append_nil, qEl, Bool.true_eq_false, beq_self_eq_true, qEx, qEz, qEv, qED, Int.not_lt, Int.not_le, Nat.min_self, List.length_append, qEK, List.drop_succ_cons, qEH, List.take_zero, qeF, qfs, Option.getD_some, Option.getD_none, jo, gt_iff_lt, ge_iff_le, yT, qav, roomy, List.cons.injEq, false_and, and_false, true_and, and_true, and_self, List.ne_cons_self, Nat.le_add_right, qEo, Nat.zero_le, Nat.lt_irrefl, cond_true, cond_false, Int.toNat_zero, List.reduceReplicate, Nat.reduceEqDiff, reduceCtorEq, ↓reduceIte, Nat.reduceAdd, Nat.reduceSub, Nat.reduceMul, Int.reduceEq, Int.reduceNe, Int.reduceLT, Int.reduceLE, Int.reduceNeg, Int.reduceAdd, Int.reduceSub, Int.reduceMul, Nat.reduceLT, Nat.reduceLeDiff, Nat.reduceBEq, Int.reduceToNat]
    first | exact ⟨_, rfl⟩ | exact ⟨_, _, rfl, by decide⟩
end W

set_option linter.unusedSimpArgs false
set_option linter.unusedVariables false
namespace W
open Go (IntKind BinOp UnOp)
set_option maxRecDepth 20000
set_option maxHeartbeats 4000000
theorem qtH : (∀ {b c d e : List Nat}, Nm b → Nm c → Nm d → Nm e → Bad 11 (nmod [73, 110] b c d e)) ∧
    (∀ {a b c d e : List Nat}, Nm a → Nm b → Nm c → Nm d → Nm e → idB a = true → idB c = true → idB b = false → (a = [73, 110]) = False → (c = [73, 110]) = False → (c = a) = False → Bad 11 (nmod a b c d e)) ∧
    (∀ {a b c d e : List Nat}, Nm a → Nm b → Nm c → Nm d → Nm e → idB a = true → idB c = true → idB b = true → idB d = false → (a = [73, 110]) = False → (c = [73, 110]) = False → (c = a) = False → (b = [73, 110]) = False → (b = a) = False → (b = c) = False → Bad 11 (nmod a b c d e)) ∧
    (∀ {a b c e : List Nat}, Nm a → Nm b → Nm c → Nm e → idB a = true → idB c = true → idB b = true → (a = [73, 110]) = False → (c = [73, 110]) = False → (c = a) = False → (b = [73, 110]) = False → (b = a) = False → (b = c) = False → Bad 11 (nmod a b c b e)) ∧
    (∀ {a b c d : List Nat}, Nm a → Nm b → Nm c → Nm d → idB a = true → idB c = true → idB b = true → idB d = true → (a = [73, 110]) = False → (c = [73, 110]) = False → (c = a) = False → (b = [73, 110]) = False → (b = a) = False → (b = c) = False → (d = [73, 110]) = False → (d = a) = False → (d = c) = False → (d = b) = False → Bad 11 (nmod a b c d [73, 110])) := by
  refine ⟨?_, ?_, ?_, ?_, ?_⟩
  intro b c d e nb nc nd ne
  have hS := fun H => qaw (H := H) nmIn.l1 nb.l1 nc.l1 nd.l1 ne.l1 nmIn.l2 nb.l2 nc.l2 nd.l2 ne.l2
  have jM := nmM.i14 (b := true) (by decide)
  have jI := nmIn.i14 (b := true) (by decide)
  have qI := nmIn.cat
  have qb := nb.cat
  have qc := nc.cat
  have qd := nd.cat
  have qe := ne.cat
  clear nb nc nd ne
  rotate_left
  intro a b c d e na nb nc nd ne ia ic ib h0 h1 h2
  have hS := fun H => qaw (H := H) na.l1 nb.l1 nc.l1 nd.l1 ne.l1 na.l2 nb.l2 nc.l2 nd.l2 ne.l2
  have jM := nmM.i14 (b := true) (by decide)
  have jI := nmIn.i14 (b := true) (by decide)
  have qI := nmIn.cat
  have qa := na.cat
  have qb := nb.cat
  have qc := nc.cat
  have qd := nd.cat
  have qe := ne.cat
  have ja := na.i14 ia
  have jc := nc.i14 ic
  have jb := nb.i14 ib
  have g0 := qj h0
  have g1 := qj h1
  have g2 := qj h2
  clear na nb nc nd ne ia ic ib
  rotate_left
  intro a b c d e na nb nc nd ne ia ic ib id h0 h1 h2 h3 h4 h5
  have hS := fun H => qaw (H := H) na.l1 nb.l1 nc.l1 nd.l1 ne.l1 na.l2 nb.l2 nc.l2 nd.l2 ne.l2
  have jM := nmM.i14 (b := true) (by decide)
  have jI := nmIn.i14 (b := true) (by decide)
  have qI := nmIn.cat
  have qa := na.cat
  have qb := nb.cat
  have qc := nc.cat
  have qd := nd.cat
  have qe := ne.cat
  have ja := na.i14 ia
  have jc := nc.i14 ic
  have jb := nb.i14 ib
  have jd := nd.i14 id
  have g0 := qj h0
  have g1 := qj h1
  have g2 := qj h2
  have g3 := qj h3
  have g4 := qj h4
  have g5 := qj h5
  clear na nb nc nd ne ia ic ib id
  rotate_left
  intro a b c e na nb nc ne ia ic ib h0 h1 h2 h3 h4 h5
  have hS := fun H => qaw (H := H) na.l1 nb.l1 nc.l1 nb.l1 ne.l1 na.l2 nb.l2 nc.l2 nb.l2 ne.l2
  have jM := nmM.i14 (b := true) (by decide)
  have jI := nmIn.i14 (b := true) (by decide)
  have qI := nmIn.cat
  have qa := na.cat
  have qb := nb.cat
  have qc := nc.cat
  have qe := ne.cat
  have ja := na.i14 ia
  have jc := nc.i14 ic
  have jb := nb.i14 ib
  have g0 := qj h0
  have g1 := qj h1
  have g2 := qj h2
  have g3 := qj h3
  have g4 := qj h4
  have g5 := qj h5
  clear na nb nc ne ia ic ib
  rotate_left
  intro a b c d na nb nc nd ia ic ib id h0 h1 h2 h3 h4 h5 h6 h7 h8 h9
  have hS := fun H => qaw (H := H) na.l1 nb.l1 nc.l1 nd.l1 nmIn.l1 na.l2 nb.l2 nc.l2 nd.l2 nmIn.l2
  have jM := nmM.i14 (b := true) (by decide)
  have jI := nmIn.i14 (b := true) (by decide)
  have qI := nmIn.cat
  have qa := na.cat
  have qb := nb.cat
  have qc := nc.cat
  have qd := nd.cat
  have ja := na.i14 ia
  have jc := nc.i14 ic
  have jb := nb.i14 ib
  have jd := nd.i14 id
  have g0 := qj h0
  have g1 := qj h1
  have g2 := qj h2
  have g3 := qj h3
  have g4 := qj h4
  have g5 := qj h5
  have g6 := qj h6
  have g7 := qj h7
  have g8 := qj h8
  have g9 := qj h9
  clear na nb nc nd ia ic ib id
  rotate_left
  all_goals
    simp only [nmod, nvar, ncon, nrec, nprc] at hS
    first | unfold qlW | unfold Bad
    rw [qxG]
    simp (config := { maxSteps := 100000000 }) only [*, AK0, AK1, AK2, AK3, AK4, AK5, AK6, AK7, AK8, AK9, eq_self, Int.cast_ofNat_Int, beq_true, beq_false, Nat.max_self, Nat.zero_max, Nat.max_zero, qEm, qEq, qEL, qEC, qEF, ne_eq, not_false_eq_true, not_true_eq_false, Bool.true_and, Bool.and_true, Bool.false_and, Bool.and_false, qEG, qEJ, Bool.false_or, Bool.true_or, Bool.or_false, qEy, decide_true, decide_false, decide_eq_true_eq, Bool.not_eq_true', decide_eq_false_iff_not, qEp, Option.map_none, qEs, qEA, Nat.succ_eq_add_one, qEu, List.cons_append, List.nil_append, List.append_nil, qEl, Bool.true_eq_false, beq_self_eq_true, qEx, qEz, qEv, qED, Int.not_lt, Int.not_le, Nat.min_self, List.length_append, qEK, List.drop_succ_cons, qEH, List.take_zero, qeF, qfs, Option.getD_some, Option.getD_none, jo, gt_iff_lt, ge_iff_le, yT, qav, roomy, List.cons.injEq, false_and, and_false, true_and, and_true, and_self, List.ne_cons_self, Nat.le_add_right, qEo, Nat.zero_le, Nat.lt_irrefl, cond_true, cond_false, Int.toNat_zero, List.reduceReplicate, Nat.reduceEqDiff, reduceCtorEq, ↓reduceIte, Nat.reduceAdd, Nat.reduceSub, Nat.reduceMul, Int.reduceEq, Int.reduceNe, Int.reduceLT, Int.reduceLE, Int.reduceNeg, Int.reduceAdd, Int.reduceSub, Int.reduceMul, Nat.reduceLT, Nat.reduceLeDiff, Nat.reduceBEq, Int.reduceToNat]
    first | exact ⟨_, rfl⟩ | exact ⟨_, _, rfl, by decide⟩
end W

set_option linter.unusedSimpArgs false
set_option linter.unusedVariables false
namespace W
open Go (IntKind BinOp UnOp)
set_option maxRecDepth 20000
set_option maxHeartbeats 4000000
theorem quq : (∀ {a b c d e : List Nat}, Nm a → Nm b → Nm c → Nm d → Nm e → idB a = true → idB c = false → (a = [73, 110]) = False → Bad 11 (nmod a b c d e)) ∧
    (∀ {a c d e : List Nat}, Nm a → Nm c → Nm d → Nm e → idB a = true → idB c = true → (a = [73, 110]) = False → (c = [73, 110]) = False → (c = a) = False → Bad 11 (nmod a [73, 110] c d e)) ∧
    (∀ {a b c e : List Nat}, Nm a → Nm b → Nm c → Nm e → idB a = true → idB c = true → idB b = true → (a = [73, 110]) = False → (c = [73, 110]) = False → (c = a) = False → (b = [73, 110]) = False → (b = a) = False → (b = c) = False → Bad 11 (nmod a b c [73, 110] e)) ∧
    (∀ {a b c d : List Nat}, Nm a → Nm b → Nm c → Nm d → idB a = true → idB c = true → idB b = true → idB d = true → (a = [73, 110]) = False → (c = [73, 110]) = False → (c = a) = False → (b = [73, 110]) = False → (b = a) = False → (b = c) = False → (d = [73, 110]) = False → (d = a) = False → (d = c) = False → (d = b) = False → Bad 11 (nmod a b c d d)) ∧
    (∀ {a b c d e : List Nat}, Nm a → Nm b → Nm c → Nm d → Nm e → idB a = true → idB c = true → idB b = true → idB d = true → idB e = true → (a = [73, 110]) = False → (c = [73, 110]) = False → (c = a) = False → (b = [73, 110]) = False → (b = a) = False → (b = c) = False → (d = [73, 110]) = False → (d = a) = False → (d = c) = False → (d = b) = False → (e = d) = False → (e = a) = False → (e = [73, 110]) = False → qlW 11 (nmod a b c d e)) := by
  refine ⟨?_, ?_, ?_, ?_, ?_⟩
  intro a b c d e na nb nc nd ne ia ic h0
  have hS := fun H => qaw (H := H) na.l1 nb.l1 nc.l1 nd.l1 ne.l1 na.l2 nb.l2 nc.l2 nd.l2 ne.l2
  have jM := nmM.i14 (b := true) (by decide)
  have jI := nmIn.i14 (b := true) (by decide)
  have qI := nmIn.cat
  have qa := na.cat
  have qb := nb.cat
  have qc := nc.cat
  have qd := nd.cat
  have qe := ne.cat
  have ja := na.i14 ia
  have jc := nc.i14 ic
  have g0 := qj h0
  clear na nb nc nd ne ia ic
  rotate_left
  intro a c d e na nc nd ne ia ic h0 h1 h2
  have hS := fun H => qaw (H := H) na.l1 nmIn.l1 nc.l1 nd.l1 ne.l1 na.l2 nmIn.l2 nc.l2 nd.l2 ne.l2
  have jM := nmM.i14 (b := true) (by decide)
  have jI := nmIn.i14 (b := true) (by decide)
  have qI := nmIn.cat
  have qa := na.cat
  have qc := nc.cat
  have qd := nd.cat
  have qe := ne.cat
  have ja := na.i14 ia
  have jc := nc.i14 ic
  have g0 := qj h0
  have g1 := qj h1
  have g2 := qj h2
  clear na nc nd ne ia ic
  rotate_left
  intro a b c e na nb nc ne ia ic ib h0 h1 h2 h3 h4 h5
  have hS := fun H => qaw (H := H) na.l1 nb.l1 nc.l1 nmIn.l1 ne.l1 na.l2 nb.l2 nc.l2 nmIn.l2 ne.l2
  have jM := nmM.i14 (b := true) (by decide)
  have jI := nmIn.i14 (b := true) (by decide)
  have qI := nmIn.cat
  have qa := na.cat
  have qb := nb.cat
  have qc := nc.cat
  have qe := ne.cat
  have ja := na.i14 ia
  have jc := nc.i14 ic
  have jb := nb.i14 ib
  have g0 := qj h0
  have g1 := qj h1
  have g2 := qj h2
  have g3 := qj h3
  have g4 := qj h4
  have g5 := qj h5
  clear na nb nc ne ia ic ib
  rotate_left
  intro a b c d na nb nc nd ia ic ib id h0 h1 h2 h3 h4 h5 h6 h7 h8 h9
  have hS := fun H => qaw (H := H) na.l1 nb.l1 nc.l1 nd.l1 nd.l1 na.l2 nb.l2 nc.l2 nd.l2 nd.l2
  have jM := nmM.i14 (b := true) (by decide)
  have jI := nmIn.i14 (b := true) (by decide)
  have qI := nmIn.cat
  have qa := na.cat
  have qb := nb.cat
  have qc := nc.cat
  have qd := nd.cat
  have ja := na.i14 ia
  have jc := nc.i14 ic
  have jb := nb.i14 ib
  have jd := nd.i14 id
  have g0 := qj h0
  have g1 := qj h1
  have g2 := qj h2
  have g3 := qj h3
  have g4 := qj h4
  have g5 := qj h5
  have g6 := qj h6
  have g7 := qj h7
  have g8 := qj h8
  have g9 := qj h9
  clear na nb nc nd ia ic ib id
  rotate_left
  intro a b c d e na nb nc nd ne ia ic ib id ie h0 h1 h2 h3 h4 h5 h6 h7 h8 h9 h10 h11 h12
  have hS := fun H => qaw (H := H) na.l1 nb.l1 nc.l1 nd.l1 ne.l1 na.l2 nb.l2 nc.l2 nd.l2 ne.l2
  have jM := nmM.i14 (b := true) (by decide)
  have jI := nmIn.i14 (b := true) (by decide)
  have qI := nmIn.cat
  have qa := na.cat
  have qb := nb.cat
  have qc := nc.cat
  have qd := nd.cat
  have qe := ne.cat
  have ja := na.i14 ia
  have jc := nc.i14 ic
  have jb := nb.i14 ib
  have jd := nd.i14 id
  have je := ne.i14 ie
  have g0 := qj h0
  have g1 := qj h1
  have g2 := qj h2
  have g3 := qj h3
  have g4 := qj h4
  have g5 := qj h5
  have g6 := qj h6
  have g7 := qj h7
  have g8 := qj h8
  have g9 := qj h9
  have g10 := qj h10
  have g11 := qj h11
  have g12 := qj h12
  clear na nb nc nd ne ia ic ib id ie
  rotate_left
  all_goals
    simp only [nmod, nvar, ncon, nrec, nprc] at hS
    first | unfold qlW | unfold Bad
    rw [qxG]
    simp (config := { maxSteps := 100000000 }) only [*, AK0, AK1, AK2, AK3, AK4, AK5, AK6, AK7, AK8, AK9, eq_self, Int.cast_ofNat_Int, beq_true, beq_false, Nat.max_self, Nat.zero_max, Nat.max_zero, qEm, qEq, qEL, qEC, qEF, ne_eq, not_false_eq_true, not_true_eq_false, Bool.true_and, Bool.and_true, Bool.false_and, Bool.and_false, qEG, qEJ, Bool.false_or, Bool.true_or, Bool.or_false, qEy, decide_true, decide_false, decide_eq_true_eq, Bool.not_eq_true', decide_eq_false_iff_not, qEp, Option.map_none, qEs, qEA, Nat.succ_eq_add_one, qEu, List.cons_append, List.nil_append, List.append_nil, qEl, Bool.true_eq_false, beq_self_eq_true, qEx, qEz, qEv, qED, Int.not_lt, Int.not_le, Nat.min_self, List.length_append, qEK, List.drop_succ_cons, qEH, List.take_zero, qeF, qfs, Option.getD_some, Option.getD_none, jo, gt_iff_lt, ge_iff_le, yT, qav, roomy, List.cons.injEq, false_and, and_false, true_and, and_true, and_self, List.ne_cons_self, Nat.le_add_right, qEo, Nat.zero_le, Nat.lt_irrefl, cond_true, cond_false, Int.toNat_zero, List.reduceReplicate, Nat.reduceEqDiff, reduceCtorEq, ↓reduceIte, Nat.reduceAdd, Nat.reduceSub, Nat.reduceMul, Int.reduceEq, Int.reduceNe, Int.reduceLT, Int.reduceLE, Int.reduceNeg, Int.reduceAdd, Int.reduceSub, Int.reduceMul, Nat.reduceLT, Nat.reduceLeDiff, Nat.reduceBEq, Int.reduceToNat]
    first | exact ⟨_, rfl⟩ | exact ⟨_, _, rfl, by decide⟩
end W

set_option linter.unusedSimpArgs false
set_option linter.unusedVariables false
namespace W
open Go (IntKind BinOp UnOp)
set_option maxRecDepth 20000
set_option maxHeartbeats 4000000
theorem qwY : (∀ {a b d e : List Nat}, Nm a → Nm b → Nm d → Nm e → idB a = true → (a = [73, 110]) = False → Bad 11 (nmod a b [73, 110] d e)) ∧
    (∀ {a c d e : List Nat}, Nm a → Nm c → Nm d → Nm e → idB a = true → idB c = true → (a = [73, 110]) = False → (c = [73, 110]) = False → (c = a) = False → Bad 11 (nmod a a c d e)) ∧
    (∀ {a b c e : List Nat}, Nm a → Nm b → Nm c → Nm e → idB a = true → idB c = true → idB b = true → (a = [73, 110]) = False → (c = [73, 110]) = False → (c = a) = False → (b = [73, 110]) = False → (b = a) = False → (b = c) = False → Bad 11 (nmod a b c a e)) ∧
    (∀ {a b c d e : List Nat}, Nm a → Nm b → Nm c → Nm d → Nm e → idB a = true → idB c = true → idB b = true → idB d = true → idB e = false → (a = [73, 110]) = False → (c = [73, 110]) = False → (c = a) = False → (b = [73, 110]) = False → (b = a) = False → (b = c) = False → (d = [73, 110]) = False → (d = a) = False → (d = c) = False → (d = b) = False → (e = d) = False → Bad 11 (nmod a b c d e)) := by
  refine ⟨?_, ?_, ?_, ?_⟩
  intro a b d e na nb nd ne ia h0
  have hS := fun H => qaw (H := H) na.l1 nb.l1 nmIn.l1 nd.l1 ne.l1 na.l2 nb.l2 nmIn.l2 nd.l2 ne.l2
  have jM := nmM.i14 (b := true) (by decide)
  have jI := nmIn.i14 (b := true) (by decide)
  have qI := nmIn.cat
  have qa := na.cat
  have qb := nb.cat
  have qd := nd.cat
  have qe := ne.cat
  have ja := na.i14 ia
  have g0 := qj h0
  clear na nb nd ne ia
  rotate_left
  intro a c d e na nc nd ne ia ic h0 h1 h2
  have hS := fun H => qaw (H := H) na.l1 na.l1 nc.l1 nd.l1 ne.l1 na.l2 na.l2 nc.l2 nd.l2 ne.l2
  have jM := nmM.i14 (b := true) (by decide)
  have jI := nmIn.i14 (b := true) (by decide)
  have qI := nmIn.cat
  have qa := na.cat
  have qc := nc.cat
  have qd := nd.cat
  have qe := ne.cat
  have ja := na.i14 ia
  have jc := nc.i14 ic
  have g0 := qj h0
  have g1 := qj h1
  have g2 := qj h2
  clear na nc nd ne ia ic
  rotate_left
  intro a b c e na nb nc ne ia ic ib h0 h1 h2 h3 h4 h5
  have hS := fun H => qaw (H := H) na.l1 nb.l1 nc.l1 na.l1 ne.l1 na.l2 nb.l2 nc.l2 na.l2 ne.l2
  have jM := nmM.i14 (b := true) (by decide)
  have jI := nmIn.i14 (b := true) (by decide)
  have qI := nmIn.cat
  have qa := na.cat
  have qb := nb.cat
  have qc := nc.cat
  have qe := ne.cat
  have ja := na.i14 ia
  have jc := nc.i14 ic
  have jb := nb.i14 ib
  have g0 := qj h0
  have g1 := qj h1
  have g2 := qj h2
  have g3 := qj h3
  have g4 := qj h4
  have g5 := qj h5
  clear na nb nc ne ia ic ib
  rotate_left
  intro a b c d e na nb nc nd ne ia ic ib id ie h0 h1 h2 h3 h4 h5 h6 h7 h8 h9 h10
  have hS := fun H => qaw (H := H) na.l1 nb.l1 nc.l1 nd.l1 ne.l1 na.l2 nb.l2 nc.l2 nd.l2 ne.l2
  have jM := nmM.i14 (b := true) (by decide)
  have jI := nmIn.i14 (b := true) (by decide)
  have qI := nmIn.cat
  have qa := na.cat
  have qb := nb.cat
  have qc := nc.cat
  have qd := nd.cat
  have qe := ne.cat
  have ja := na.i14 ia
  have jc := nc.i14 ic
  have jb := nb.i14 ib
  have jd := nd.i14 id
  have je := ne.i14 ie
  have g0 := qj h0
  have g1 := qj h1
  have g2 := qj h2
  have g3 := qj h3
  have g4 := qj h4
  have g5 := qj h5
  have g6 := qj h6
  have g7 := qj h7
  have g8 := qj h8
  have g9 := qj h9
  have g10 := qj h10
  clear na nb nc nd ne ia ic ib id ie
  rotate_left
  all_goals
    simp only [nmod, nvar, ncon, nrec, nprc] at hS
    first | unfold qlW | unfold Bad
    rw [qxG]
    simp (config := { maxSteps := 100000000 }) only [*, AK0, AK1, AK2, AK3, AK4, AK5, AK6, AK7, AK8, AK9, eq_self, Int.cast_ofNat_Int, beq_true, beq_false, Nat.max_self, Nat.zero_max, Nat.max_zero, qEm, qEq, qEL, qEC, qEF, ne_eq, not_false_eq_true, not_true_eq_false, Bool.true_and, Bool.and_true, Bool.false_and, Bool.and_false, qEG, qEJ, Bool.false_or, Bool.true_or, Bool.or_false, qEy, decide_true, decide_false, decide_eq_true_eq, Bool.not_eq_true', decide_eq_false_iff_not, qEp, Option.map_none, qEs, qEA, Nat.succ_eq_add_one, qEu, List.cons_append, List.nil_append, List.append_nil, qEl, Bool.true_eq_false, beq_self_eq_true, qEx, qEz, qEv, qED, Int.not_lt, Int.not_le, Nat.min_self, List.length_append, qEK, List.drop_succ_cons, qEH, List.take_zero, qeF, qfs, Option.getD_some, Option.getD_none, jo, gt_iff_lt, ge_iff_le, yT, qav, roomy, List.cons.injEq, false_and, and_false, true_and, and_true, and_self, List.ne_cons_self, Nat.le_add_right, qEo, Nat.zero_le, Nat.lt_irrefl, cond_true, cond_false, Int.toNat_zero, List.reduceReplicate, Nat.reduceEqDiff, reduceCtorEq, ↓reduceIte, Nat.reduceAdd, Nat.reduceSub, Nat.reduceMul, Int.reduceEq, Int.reduceNe, Int.reduceLT, Int.reduceLE, Int.reduceNeg, Int.reduceAdd, Int.reduceSub, Int.reduceMul, Nat.reduceLT, Nat.reduceLeDiff, Nat.reduceBEq, Int.reduceToNat]
    first | exact ⟨_, rfl⟩ | exact ⟨_, _, rfl, by decide⟩
end W

set_option linter.unusedSimpArgs false
set_option linter.unusedVariables false
namespace W
open Go (IntKind BinOp UnOp)
set_option maxRecDepth 20000
set_option maxHeartbeats 4000000
theorem qvK : (∀ {a b c d e : List Nat}, Nm a → Nm b → Nm c → Nm d → Nm e → idB a = false → Bad 16 (nmod a b c d e)) ∧
    (∀ {a b d e : List Nat}, Nm a → Nm b → Nm d → Nm e → idB a = true → (a = [73, 110]) = False → Bad 16 (nmod a b a d e)) ∧
    (∀ {a c d e : List Nat}, Nm a → Nm c → Nm d → Nm e → idB a = true → idB c = true → (a = [73, 110]) = False → (c = [73, 110]) = False → (c = a) = False → Bad 16 (nmod a c c d e)) ∧
    (∀ {a b c e : List Nat}, Nm a → Nm b → Nm c → Nm e → idB a = true → idB c = true → idB b = true → (a = [73, 110]) = False → (c = [73, 110]) = False → (c = a) = False → (b = [73, 110]) = False → (b = a) = False → (b = c) = False → Bad 16 (nmod a b c c e)) ∧
    (∀ {a b c d : List Nat}, Nm a → Nm b → Nm c → Nm d → idB a = true → idB c = true → idB b = true → idB d = true → (a = [73, 110]) = False → (c = [73, 110]) = False → (c = a) = False → (b = [73, 110]) = False → (b = a) = False → (b = c) = False → (d = [73, 110]) = False → (d = a) = False → (d = c) = False → (d = b) = False → Bad 16 (nmod a b c d a)) := by
  refine ⟨?_, ?_, ?_, ?_, ?_⟩
  intro a b c d e na nb nc nd ne ia
  have hS := fun H => qay (H := H) na.l1 nb.l1 nc.l1 nd.l1 ne.l1 na.l2 nb.l2 nc.l2 nd.l2 ne.l2
  have jM := nmM.i15 (b := true) (by decide)
  have jI := nmIn.i15 (b := true) (by decide)
  have qI := nmIn.cat
  have qa := na.cat
  have qb := nb.cat
  have qc := nc.cat
  have qd := nd.cat
  have qe := ne.cat
  have ja := na.i15 ia
  clear na nb nc nd ne ia
  rotate_left
  intro a b d e na nb nd ne ia h0
  have hS := fun H => qay (H := H) na.l1 nb.l1 na.l1 nd.l1 ne.l1 na.l2 nb.l2 na.l2 nd.l2 ne.l2
  have jM := nmM.i15 (b := true) (by decide)
  have jI := nmIn.i15 (b := true) (by decide)
  have qI := nmIn.cat
  have qa := na.cat
  have qb := nb.cat
  have qd := nd.cat
  have qe := ne.cat
  have ja := na.i15 ia
  have g0 := qj h0
  clear na nb nd ne ia
  rotate_left
  intro a c d e na nc nd ne ia ic h0 h1 h2
  have hS := fun H => qay (H := H) na.l1 nc.l1 nc.l1 nd.l1 ne.l1 na.l2 nc.l2 nc.l2 nd.l2 ne.l2
  have jM := nmM.i15 (b := true) (by decide)
  have jI := nmIn.i15 (b := true) (by decide)
  have qI := nmIn.cat
  have qa := na.cat
  have qc := nc.cat
  have qd := nd.cat
  have qe := ne.cat
  have ja := na.i15 ia
  have jc := nc.i15 ic
  have g0 := qj h0
  have g1 := qj h1
  have g2 := qj h2
  clear na nc nd ne ia ic
  rotate_left
  intro a b c e na nb nc ne ia ic ib h0 h1 h2 h3 h4 h5
  have hS := fun H => qay (H := H) na.l1 nb.l1 nc.l1 nc.l1 ne.l1 na.l2 nb.l2 nc.l2 nc.l2 ne.l2
  have jM := nmM.i15 (b := true) (by decide)
  have jI := nmIn.i15 (b := true) (by decide)
  have qI := nmIn.cat
  have qa := na.cat
  have qb := nb.cat
  have qc := nc.cat
  have qe := ne.cat
  have ja := na.i15 ia
  have jc := nc.i15 ic
  have jb := nb.i15 ib
  have g0 := qj h0
  have g1 := qj h1
  have g2 := qj h2
  have g3 := qj h3
  have g4 := qj h4
  have g5 := qj h5
  clear na nb nc ne ia ic ib
  rotate_left
  intro a b c d na nb nc nd ia ic ib id h0 h1 h2 h3 h4 h5 h6 h7 h8 h9
  have hS := fun H => qay (H := H) na.l1 nb.l1 nc.l1 nd.l1 na.l1 na.l2 nb.l2 nc.l2 nd.l2 na.l2
  have jM := nmM.i15 (b := true) (by decide)
  have jI := nmIn.i15 (b := true) (by decide)
  have qI := nmIn.cat
  have qa := na.cat
  have qb := nb.cat
  have qc := nc.cat
  have qd := nd.cat
  have ja := na.i15 ia
  have jc := nc.i15 ic
  have jb := nb.i15 ib
  have jd := nd.i15 id
  have g0 := qj h0
  have g1 := qj h1
  have g2 := qj h2
  have g3 := qj h3
  have g4 := qj h4
  have g5 := qj h5
  have g6 := qj h6
  have g7 := qj h7
  have g8 := qj h8
  have g9 := qj h9
  clear na nb nc nd ia ic ib id
  rotate_left
  all_goals
    simp only [nmod, nvar, ncon, nrec, nprc] at hS
    first | unfold qlW | unfold Bad
    rw [qum]
    simp (config := { maxSteps := 100000000 }) only [*, AK0, AK1, AK2, AK3, AK4, AK5, AK6, AK7, AK8, AK9, eq_self, Int.cast_ofNat_Int, beq_true, beq_false, Nat.max_self, Nat.zero_max, Nat.max_zero, qEm, qEq, qEL, qEC, qEF, ne_eq, not_false_eq_true, not_true_eq_false, Bool.true_and, Bool.and_true, Bool.false_and, Bool.and_false, qEG, qEJ, Bool.false_or, Bool.true_or, Bool.or_false, qEy, decide_true, decide_false, decide_eq_true_eq, Bool.not_eq_true', decide_eq_false_iff_not, qEp, Option.map_none, qEs, qEA, Nat.succ_eq_add_one, qEu, List.cons_append, List.nil_append, List.append_nil, qEl, Bool.true_eq_false, beq_self_eq_true, qEx, qEz, qEv, qED, Int.not_lt, Int.not_le, Nat.min_self, List.length_append, qEK, List.drop_succ_cons, qEH, List.take_zero, qeF, qfs, Option.getD_some, Option.getD_none, jo, gt_iff_lt, ge_iff_le, yT, qav, roomy, List.cons.injEq, false_and, and_false, true_and, and_true, and_self, List.ne_cons_self, Nat.le_add_right, qEo, Nat.zero_le, Nat.lt_irrefl, cond_true, cond_false, Int.toNat_zero, List.reduceReplicate, Nat.reduceEqDiff, reduceCtorEq, ↓reduceIte, Nat.reduceAdd, Nat.reduceSub, Nat.reduceMul, Int.reduceEq, Int.reduceNe, Int.reduceLT, Int.reduceLE, Int.reduceNeg, Int.reduceAdd, Int.reduceSub, Int.reduceMul, Nat.reduceLT, Nat.reduceLeDiff, Nat.reduceBEq, Int.reduceToNat]
    first | exact ⟨_, rfl⟩ | exact ⟨_, _, rfl, by decide⟩
end W

set_option linter.unusedSimpArgs false
set_option linter.unusedVariables false
namespace W
open Go (IntKind BinOp UnOp)
set_option maxRecDepth 20000
set_option maxHeartbeats 4000000
theorem qt0 : (∀ {b c d e : List Nat}, Nm b → Nm c → Nm d → Nm e → Bad 16 (nmod [73, 110] b c d e)) ∧
    (∀ {a b c d e : List Nat}, Nm a → Nm b → Nm c → Nm d → Nm e → idB a = true → idB c = true → idB b = false → (a = [73, 110]) = False → (c = [73, 110]) = False → (c = a) = False → Bad 16 (nmod a b c d e)) ∧
    (∀ {a b c d e : List Nat}, Nm a → Nm b → Nm c → Nm d → Nm e → idB a = true → idB c = true → idB b = true → idB d = false → (a = [73, 110]) = False → (c = [73, 110]) = False → (c = a) = False → (b = [73, 110]) = False → (b = a) = False → (b = c) = False → Bad 16 (nmod a b c d e)) ∧
    (∀ {a b c e : List Nat}, Nm a → Nm b → Nm c → Nm e → idB a = true → idB c = true → idB b = true → (a = [73, 110]) = False → (c = [73, 110]) = False → (c = a) = False → (b = [73, 110]) = False → (b = a) = False → (b = c) = False → Bad 16 (nmod a b c b e)) ∧
    (∀ {a b c d : List Nat}, Nm a → Nm b → Nm c → Nm d → idB a = true → idB c = true → idB b = true → idB d = true → (a = [73, 110]) = False → (c = [73, 110]) = False → (c = a) = False → (b = [73, 110]) = False → (b = a) = False → (b = c) = False → (d = [73, 110]) = False → (d = a) = False → (d = c) = False → (d = b) = False → Bad 16 (nmod a b c d [73, 110])) := by
  refine ⟨?_, ?_, ?_, ?_, ?_⟩
  intro b c d e nb nc nd ne
  have hS := fun H => qay (H := H) nmIn.l1 nb.l1 nc.l1 nd.l1 ne.l1 nmIn.l2 nb.l2 nc.l2 nd.l2 ne.l2
  have jM := nmM.i15 (b := true) (by decide)
  have jI := nmIn.i15 (b := true) (by decide)
  have qI := nmIn.cat
  have qb := nb.cat
  have qc := nc.cat
  have qd := nd.cat
  have qe := ne.cat
  clear nb nc nd ne
  rotate_left
  intro a b c d e na nb nc nd ne ia ic ib h0 h1 h2
  have hS := fun H => qay (H := H) na.l1 nb.l1 nc.l1 nd.l1 ne.l1 na.l2 nb.l2 nc.l2 nd.l2 ne.l2
  have jM := nmM.i15 (b := true) (by decide)
  have jI := nmIn.i15 (b := true) (by decide)
  have qI := nmIn.cat
  have qa := na.cat
  have qb := nb.cat
  have qc := nc.cat
  have qd := nd.cat
  have qe := ne.cat
  have ja := na.i15 ia
  have jc := nc.i15 ic
  have jb := nb.i15 ib
  have g0 := qj h0
  have g1 := qj h1
  have g2 := qj h2
  clear na nb nc nd ne ia ic ib
  rotate_left
  intro a b c d e na nb nc nd ne ia ic ib id h0 h1 h2 h3 h4 h5
  have hS := fun H => qay (H := H) na.l1 nb.l1 nc.l1 nd.l1 ne.l1 na.l2 nb.l2 nc.l2 nd.l2 ne.l2
  have jM := nmM.i15 (b := true) (by decide)
  have jI := nmIn.i15 (b := true) (by decide)
  have qI := nmIn.cat
  have qa := na.cat
  have qb := nb.cat
  have qc := nc.cat
  have qd := nd.cat
  have qe := ne.cat
  have ja := na.i15 ia
  have jc := nc.i15 ic
  have jb := nb.i15 ib
  have jd := nd.i15 id
  have g0 := qj h0
  have g1 := qj h1
  have g2 := qj h2
  have g3 := qj h3
  have g4 := qj h4
  have g5 := qj h5
  clear na nb nc nd ne ia ic ib id
  rotate_left
  intro a b c e na nb nc ne ia ic ib h0 h1 h2 h3 h4 h5
  have hS := fun H => qay (H := H) na.l1 nb.l1 nc.l1 nb.l1 ne.l1 na.l2 nb.l2 nc.l2 nb.l2 ne.l2
  have jM := nmM.i15 (b := true) (by decide)
  have jI := nmIn.i15 (b := true) (by decide)
  have qI := nmIn.cat
  have qa := na.cat
  have qb := nb.cat
  have qc := nc.cat
  have qe := ne.cat
  have ja := na.i15 ia
  have jc := nc.i15 ic
  have jb := nb.i15 ib
  have g0 := qj h0
  have g1 := qj h1
  have g2 := qj h2
  have g3 := qj h3
  have g4 := qj h4
  have g5 := qj h5
  clear na nb nc ne ia ic ib
  rotate_left
  intro a b c d na nb nc nd ia ic ib id h0 h1 h2 h3 h4 h5 h6 h7 h8 h9
  have hS := fun H => qay (H := H) na.l1 nb.l1 nc.l1 nd.l1 nmIn.l1 na.l2 nb.l2 nc.l2 nd.l2 nmIn.l2
  have jM := nmM.i15 (b := true) (by decide)
  have jI := nmIn.i15 (b := true) (by decide)
  have qI := nmIn.cat
  have qa := na.cat
  have qb := nb.cat
  have qc := nc.cat
  have qd := nd.cat
  have ja := na.i15 ia
  have jc := nc.i15 ic
  have jb := nb.i15 ib
  have jd := nd.i15 id
  have g0 := qj h0
  have g1 := qj h1
  have g2 := qj h2
  have g3 := qj h3
  have g4 := qj h4
  have g5 := qj h5
  have g6 := qj h6
  have g7 := qj h7
  have g8 := qj h8
  have g9 := qj h9
  clear na nb nc nd ia ic ib id
  rotate_left
  all_goals
    simp only [nmod, nvar, ncon, nrec, nprc] at hS
    first | unfold qlW | unfold Bad
    rw [qum]
    simp (config := { maxSteps := 100000000 }) only [*, AK0, AK1, AK2, AK3, AK4, AK5, AK6, AK7, AK8, AK9, eq_self, Int.cast_ofNat_Int, beq_true, beq_false, Nat.max_self, Nat.zero_max, Nat.max_zero, qEm, qEq, qEL, qEC, qEF, ne_eq, not_false_eq_true, not_true_eq_false, Bool.true_and, Bool.and_true, Bool.false_and, Bool.and_false, qEG, qEJ, Bool.false_or, Bool.true_or, Bool.or_false, qEy, decide_true, decide_false, decide_eq_true_eq, Bool.not_eq_true', decide_eq_false_iff_not, qEp, Option.map_none, qEs, qEA, Nat.succ_eq_add_one, qEu, List.cons_append, List.nil_append, List.append_nil, qEl, Bool.true_eq_false, beq_self_eq_true, qEx, qEz, qEv, qED, Int.not_lt, Int.not_le, Nat.min_self, List.length_append, qEK, List.drop_succ_cons, qEH, List.take_zero, qeF, qfs, Option.getD_some, Option.getD_none, jo, gt_iff_lt, ge_iff_le, yT, qav, roomy, List.cons.injEq, false_and, and_false, true_and, and_true, and_self, List.ne_cons_self, Nat.le_add_right, qEo, Nat.zero_le, Nat.lt_irrefl, cond_true, cond_false, Int.toNat_zero, List.reduceReplicate, Nat.reduceEqDiff, reduceCtorEq, ↓reduceIte, Nat.reduceAdd, Nat.reduceSub, Nat.reduceMul, Int.reduceEq, Int.reduceNe, Int.reduceLT, Int.reduceLE, Int.reduceNeg, Int.reduceAdd, Int.reduceSub, Int.reduceMul, Nat.reduceLT, Nat.reduceLeDiff, Nat.reduceBEq, Int.reduceToNat]
    first | exact ⟨_, rfl⟩ | exact ⟨_, _, rfl, by decide⟩
end W

set_option linter.unusedSimpArgs false
set_option linter.unusedVariables false
namespace W
open Go (IntKind BinOp UnOp)
set_option maxRecDepth 20000
set_option maxHeartbeats 4000000
theorem quC : (∀ {a b c d e : List Nat}, Nm a → Nm b → Nm c → Nm d → Nm e → idB a = true → idB c = false → (a = [73, 110]) = False → Bad 16 (nmod a b c d e)) ∧
    (∀ {a c d e : List Nat}, Nm a → Nm c → Nm d → Nm e → idB a = true → idB c = true → (a = [73, 110]) = False → (c = [73, 110]) = False → (c = a) = False → Bad 16 (nmod a [73, 110] c d e)) ∧
    (∀ {a b c e : List Nat}, Nm a → Nm b → Nm c → Nm e → idB a = true → idB c = true → idB b = true → (a = [73, 110]) = False → (c = [73, 110]) = False → (c = a) = False → (b = [73, 110]) = False → (b = a) = False → (b = c) = False → Bad 16 (nmod a b c [73, 110] e)) ∧
    (∀ {a b c d : List Nat}, Nm a → Nm b → Nm c → Nm d → idB a = true → idB c = true → idB b = true → idB d = true → (a = [73, 110]) = False → (c = [73, 110]) = False → (c = a) = False → (b = [73, 110]) = False → (b = a) = False → (b = c) = False → (d = [73, 110]) = False → (d = a) = False → (d = c) = False → (d = b) = False → Bad 16 (nmod a b c d d)) ∧
    (∀ {a b c d e : List Nat}, Nm a → Nm b → Nm c → Nm d → Nm e → idB a = true → idB c = true → idB b = true → idB d = true → idB e = true → (a = [73, 110]) = False → (c = [73, 110]) = False → (c = a) = False → (b = [73, 110]) = False → (b = a) = False → (b = c) = False → (d = [73, 110]) = False → (d = a) = False → (d = c) = False → (d = b) = False → (e = d) = False → (e = a) = False → (e = [73, 110]) = False → qlW 16 (nmod a b c d e)) := by
  refine ⟨?_, ?_, ?_, ?_, ?_⟩
  intro a b c d e na nb nc nd ne ia ic h0
  have hS := fun H => qay (H := H) na.l1 nb.l1 nc.l1 nd.l1 ne.l1 na.l2 nb.l2 nc.l2 nd.l2 ne.l2
  have jM := nmM.i15 (b := true) (by decide)
  have jI := nmIn.i15 (b := true) (by decide)
  have qI := nmIn.cat
  have qa := na.cat
  have qb := nb.cat
  have qc := nc.cat
  have qd := nd.cat
  have qe := ne.cat
  have ja := na.i15 ia
  have jc := nc.i15 ic
  have g0 := qj h0
  clear na nb nc nd ne ia ic
  rotate_left
  intro a c d e na nc nd ne ia ic h0 h1 h2
  have hS := fun H => qay (H := H) na.l1 nmIn.l1 nc.l1 nd.l1 ne.l1 na.l2 nmIn.l2 nc.l2 nd.l2 ne.l2
  have jM := nmM.i15 (b := true) (by decide)
  have jI := nmIn.i15 (b := true) (by decide)
  have qI := nmIn.cat
  have qa := na.cat
  have qc := nc.cat
  have qd := nd.cat
  have qe := ne.cat
  have ja := na.i15 ia
  have jc := nc.i15 ic
  have g0 := qj h0
  have g1 := qj h1
  have g2 := qj h2
  clear na nc nd ne ia ic
  rotate_left
  intro a b c e na nb nc ne ia ic ib h0 h1 h2 h3 h4 h5
  have hS := fun H => qay (H := H) na.l1 nb.l1 nc.l1 nmIn.l1 ne.l1 na.l2 nb.l2 nc.l2 nmIn.l2 ne.l2
  have jM := nmM.i15 (b := true) (by decide)
  have jI := nmIn.i15 (b := true) (by decide)
  have qI := nmIn.cat
  have qa := na.cat
  have qb := nb.cat
  have qc := nc.cat
  have qe := ne.cat
  have ja := na.i15 ia
  have jc := nc.i15 ic
  have jb := nb.i15 ib
  have g0 := qj h0
  have g1 := qj h1
  have g2 := qj h2
  have g3 := qj h3
  have g4 := qj h4
  have g5 := qj h5
  clear na nb nc ne ia ic ib
  rotate_left
  intro a b c d na nb nc nd ia ic ib id h0 h1 h2 h3 h4 h5 h6 h7 h8 h9
  have hS := fun H => qay (H := H) na.l1 nb.l1 nc.l1 nd.l1 nd.l1 na.l2 nb.l2 nc.l2 nd.l2 nd.l2
  have jM := nmM.i15 (b := true) (by decide)
  have jI := nmIn.i15 (b := true) (by decide)
  have qI := nmIn.cat
  have qa := na.cat
  have qb := nb.cat
  have qc := nc.cat
  have qd := nd.cat
  have ja := na.i15 ia
  have jc := nc.i15 ic
  have jb := nb.i15 ib
  have jd := nd.i15 id
  have g0 := qj h0
  have g1 := qj h1
  have g2 := qj h2
  have g3 := qj h3
  have g4 := qj h4
  have g5 := qj h5
  have g6 := qj h6
  have g7 := qj h7
  have g8 := qj h8
  have g9 := qj h9
  clear na nb nc nd ia ic ib id
  rotate_left
  intro a b c d e na nb nc nd ne ia ic ib id ie h0 h1 h2 h3 h4 h5 h6 h7 h8 h9 h10 h11 h12
  have hS := fun H => qay (H := H) na.l1 nb.l1 nc.l1 nd.l1 ne.l1 na.l2 nb.l2 nc.l2 nd.l2 ne.l2
  have jM := nmM.i15 (b := true) (by decide)
  have jI := nmIn.i15 (b := true) (by decide)
  have qI := nmIn.cat
  have qa := na.cat
  have qb := nb.cat
  have qc := nc.cat
  have qd := nd.cat
  have qe := ne.cat
  have ja := na.i15 ia
  have jc := nc.i15 ic
  have jb := nb.i15 ib
  have jd := nd.i15 id
  have je := ne.i15 ie
  have g0 := qj h0
  have g1 := qj h1
  have g2 := qj h2
  have g3 := qj h3
  have g4 := qj h4
  have g5 := qj h5
  have g6 := qj h6
  have g7 := qj h7
  have g8 := qj h8
  have g9 := qj h9
  have g10 := qj h10
  have g11 := qj h11
  have g12 := qj h12
  clear na nb nc nd ne ia ic ib id ie
  rotate_left
  all_goals
    simp only [nmod, nvar, ncon, nrec, nprc] at hS
    first | unfold qlW | unfold Bad
    rw [qum]
    simp (config := { maxSteps := 100000000 }) only [*, AK0, AK1, AK2, AK3, AK4, AK5, AK6, AK7, AK8, AK9, eq_self, Int.cast_ofNat_Int, beq_true, beq_false, Nat.max_self, Nat.zero_max, Nat.max_zero, qEm, qEq, qEL, qEC, qEF, ne_eq, not_false_eq_true, not_true_eq_false, Bool.true_and, Bool.and_true, Bool.false_and, Bool.and_false, qEG, qEJ, Bool.false_or, Bool.true_or, Bool.or_false, qEy, decide_true, decide_false, decide_eq_true_eq, Bool.not_eq_true', decide_eq_false_iff_not, qEp, Option.map_none, qEs, qEA, Nat.succ_eq_add_one, qEu, List.cons_append, List.nil_append, List.append_nil, qEl, Bool.true_eq_false, beq_self_eq_true, qEx, qEz, qEv, qED, Int.not_lt, Int.not_le, Nat.min_self, List.length_append, qEK, List.drop_succ_cons, qEH, List.take_zero, qeF, qfs, Option.getD_some, Option.getD_none, jo, gt_iff_lt, ge_iff_le, yT, qav, roomy, List.cons.injEq, false_and, and_false, true_and, and_true, and_self, List.ne_cons_self, Nat.le_add_right, qEo, Nat.zero_le, Nat.lt_irrefl, cond_true, cond_false, Int.toNat_zero, List.reduceReplicate, Nat.reduceEqDiff, reduceCtorEq, ↓reduceIte, Nat.reduceAdd, Nat.reduceSub, Nat.reduceMul, Int.reduceEq, Int.reduceNe, Int.reduceLT, Int.reduceLE, Int.reduceNeg, Int.reduceAdd, Int.reduceSub, Int.reduceMul, Nat.reduceLT, Nat.reduceLeDiff, Nat.reduceBEq, Int.reduceToNat]
    first | exact ⟨_, rfl⟩ | exact ⟨_, _, rfl, by decide⟩
end W

set_option linter.unusedSimpArgs false
set_option linter.unusedVariables false
namespace W
open Go (IntKind BinOp UnOp)
set_option maxRecDepth 20000
set_option maxHeartbeats 4000000
theorem qwl : (∀ {a b d e : List Nat}, Nm a → Nm b → Nm d → Nm e → idB a = true → (a = [73, 110]) = False → Bad 16 (nmod a b [73, 110] d e)) ∧
    (∀ {a c d e : List Nat}, Nm a → Nm c → Nm d → Nm e → idB a = true → idB c = true → (a = [73, 110]) = False → (c = [73, 110]) = False → (c = a) = False → Bad 16 (nmod a a c d e)) ∧
    (∀ {a b c e : List Nat}, Nm a → Nm b → Nm c → Nm e → idB a = true → idB c = true → idB b = true → (a = [73, 110]) = False → (c = [73, 110]) = False → (c = a) = False → (b = [73, 110]) = False → (b = a) = False → (b = c) = False → Bad 16 (nmod a b c a e)) ∧
    (∀ {a b c d e : List Nat}, Nm a → Nm b → Nm c → Nm d → Nm e → idB a = true → idB c = true → idB b = true → idB d = true → idB e = false → (a = [73, 110]) = False → (c = [73, 110]) = False → (c = a) = False → (b = [73, 110]) = False → (b = a) = False → (b = c) = False → (d = [73, 110]) = False → (d = a) = False → (d = c) = False → (d = b) = False → (e = d) = False → Bad 16 (nmod a b c d e)) := by
  refine ⟨?_, ?_, ?_, ?_⟩
  intro a b d e na nb nd ne ia h0
  have hS := fun H => qay (H := H) na.l1 nb.l1 nmIn.l1 nd.l1 ne.l1 na.l2 nb.l2 nmIn.l2 nd.l2 ne.l2
  have jM := nmM.i15 (b := true) (by decide)
  have jI := nmIn.i15 (b := true) (by decide)
  have qI := nmIn.cat
  have qa := na.cat
  have qb := nb.cat
  have qd := nd.cat
  have qe := ne.cat
  have ja := na.i15 ia
  have g0 := qj h0
  clear na nb nd ne ia
  rotate_left
  intro a c d e na nc nd ne ia ic h0 h1 h2
  have hS := fun H => qay (H := H) na.l1 na.l1 nc.l1 nd.l1 ne.l1 na.l2 na.l2 nc.l2 nd.l2 ne.l2
  have jM := nmM.i15 (b := true) (by decide)
  have jI := nmIn.i15 (b := true) (by decide)
  have qI := nmIn.cat
  have qa := na.cat
  have qc := nc.cat
  have qd := nd.cat
  have qe := ne.cat
  have ja := na.i15 ia
  have jc := nc.i15 ic
  have g0 := qj h0
  have g1 := qj h1
  have g2 := qj h2
  clear na nc nd ne ia ic
  rotate_left
  intro a b c e na nb nc ne ia ic ib h0 h1 h2 h3 h4 h5
  have hS := fun H => qay (H := H) na.l1 nb.l1 nc.l1 na.l1 ne.l1 na.l2 nb.l2 nc.l2 na.l2 ne.l2
  have jM := nmM.i15 (b := true) (by decide)
  have jI := nmIn.i15 (b := true) (by decide)
  have qI := nmIn.cat
  have qa := na.cat
  have qb := nb.cat
  have qc := nc.cat
  have qe := ne.cat
  have ja := na.i15 ia
  have jc := nc.i15 ic
  have jb := nb.i15 ib
  have g0 := qj h0
  have g1 := qj h1
  have g2 := qj h2
  have g3 := qj h3
  have g4 := qj h4
  have g5 := qj h5
  clear na nb nc ne ia ic ib
  rotate_left
  intro a b c d e na nb nc nd ne ia ic ib id ie h0 h1 h2 h3 h4 h5 h6 h7 h8 h9 h10
  have hS := fun H => qay (H := H) na.l1 nb.l1 nc.l1 nd.l1 ne.l1 na.l2 nb.l2 nc.l2 nd.l2 ne.l2
  have jM := nmM.i15 (b := true) (by decide)
  have jI := nmIn.i15 (b := true) (by decide)
  have qI := nmIn.cat
  have qa := na.cat
  have qb := nb.cat
  have qc := nc.cat
  have qd := nd.cat
  have qe := ne.cat
  have ja := na.i15 ia
  have jc := nc.i15 ic
  have jb := nb.i15 ib
  have jd := nd.i15 id
  have je := ne.i15 ie
  have g0 := qj h0
  have g1 := qj h1
  have g2 := qj h2
  have g3 := qj h3
  have g4 := qj h4
  have g5 := qj h5
  have g6 := qj h6
  have g7 := qj h7
  have g8 := qj h8
  have g9 := qj h9
  have g10 := qj h10
  clear na nb nc nd ne ia ic ib id ie
  rotate_left
  all_goals
    simp only [nmod, nvar, ncon, nrec, nprc] at hS
    first | unfold qlW | unfold Bad
    rw [qum]
    simp (config := { maxSteps := 100000000 }) only [*, AK0, AK1, AK2, AK3, AK4, AK5, AK6, AK7, AK8, AK9, eq_self, Int.cast_ofNat_Int, beq_true, beq_false, Nat.max_self, Nat.zero_max, Nat.max_zero, qEm, qEq, qEL, qEC, qEF, ne_eq, not_false_eq_true, not_true_eq_false, Bool.true_and, Bool.and_true, Bool.false_and, Bool.and_false, qEG, qEJ, Bool.false_or, Bool.true_or, Bool.or_false, qEy, decide_true, decide_false, decide_eq_true_eq, Bool.not_eq_true', decide_eq_false_iff_not, qEp, Option.map_none, qEs, qEA, Nat.succ_eq_add_one, qEu, List.cons_append, List.nil_append, List.append_nil, qEl, Bool.true_eq_false, beq_self_eq_true, qEx, qEz, qEv, qED, Int.not_lt, Int.not_le, Nat.min_self, List.length_append, qEK, List.drop_succ_cons, qEH, List.take_zero, qeF, qfs, Option.getD_some, Option.getD_none, jo, gt_iff_lt, ge_iff_le, yT, qav, roomy, List.cons.injEq, false_and, and_false, true_and, and_true, and_self, List.ne_cons_self, Nat.le_add_right, qEo, Nat.zero_le, Nat.lt_irrefl, cond_true, cond_false, Int.toNat_zero, List.reduceReplicate, Nat.reduceEqDiff, reduceCtorEq, ↓reduceIte, Nat.reduceAdd, Nat.reduceSub, Nat.reduceMul, Int.reduceEq, Int.reduceNe, Int.reduceLT, Int.reduceLE, Int.reduceNeg, Int.reduceAdd, Int.reduceSub, Int.reduceMul, Nat.reduceLT, Nat.reduceLeDiff, Nat.reduceBEq, Int.reduceToNat]
    first | exact ⟨_, rfl⟩ | exact ⟨_, _, rfl, by decide⟩
end W

set_option linter.unusedSimpArgs false
set_option linter.unusedVariables false
namespace W
open Go (IntKind BinOp UnOp)
set_option maxRecDepth 20000
theorem qq7 {x0 x1 x2 x3 x4 x5 x6 x7 : D} (h0 : D.one x0 = true) (h1 : D.one x1 = true) (h2 : D.one x2 = true) (h3 : D.one x3 = true) (h4 : D.one x4 = true) (h5 : D.one x5 = true) (h6 : D.one x6 = true) (h7 : D.one x7 = true) {e w : Int} {l1 l2 : Nat}
    (he : qn pgK 11 [.d (.agg [x0, x1, x2, x3, x4, x5, x6, x7]), .d .nil] [] = some ⟨false, true, .d (.i .i64 e), [], l1⟩) (hw : qn pgK 16 [.d (.agg [x0, x1, x2, x3, x4, x5, x6, x7]), .d .nil] [] = some ⟨false, true, .d (.i .i64 w), [], l2⟩)
    (h : e = 0 ∧ w = 0 ∨ bad e = true ∧ bad w = true) : ∃ lo, qn pgK 13 [.d (.agg [x0, x1, x2, x3, x4, x5, x6, x7]), .d .nil] [] = some ⟨false, true, .d (.b true), [], lo⟩ := by
  have hb : ∀ {x : Int}, bad x = true → x = 32 ∨ x = 33 ∨ x = 40 := by
    intro x hx
    unfold bad at hx
    split at hx
    · exact .inl rfl
    · exact .inr (.inl rfl)
    · exact .inr (.inr rfl)
    · cases hx
  rcases h with ⟨rfl, rfl⟩ | ⟨ha, hc⟩
  · rw [qzE]
    simp only [bdyK, f_waferlaw17_told, k_, o_, s_, m_, c_, v_, g_, q_, i_, qs, qEu, Nat.reduceAdd, qy, qEz, qA, qB, qo, qe5, kZ, qL, qD, qC, zV, qEs, qEA, kI, jF, h0, h1, h2, h3, h4, h5, h6, h7, zl, qEv, qk1, qP, zS, ki, qa0, kw, qh, zt, qO, kh, qf, qi, qH, Nat.reduceEqDiff, qM, zY, qa8, qEx, qEo, qar, qEK, qEH, List.take_zero, kF, ji, yx, jk, zc, zG, qt, reduceCtorEq, qE, qk, qQ, qr, kj, he, qF, ql, qq, Nat.zero_le, ql9, jK, zi, kA, hw, qm, kq, kL, qEy, jm, Int.reduceEq, decide_false, qJ, qS, qEl, ↓reduceIte, qY, decide_true, qED, qk4, beq_self_eq_true, kv, kE, kK, zx, qEG, ky, qhB, qU, q9, qc3, kU, qX, qZ, qu, kC, jt, qx, qN, kp, qaP, jp, qdk]
    all_goals exact ⟨_, rfl⟩
  · rcases hb ha with rfl | rfl | rfl <;> rcases hb hc with rfl | rfl | rfl
    all_goals
      rw [qzE]
      simp only [bdyK, f_waferlaw17_told, k_, o_, s_, m_, c_, v_, g_, q_, i_, qs, qEu, Nat.reduceAdd, qy, qEz, qA, qB, qo, qe5, kZ, qL, qD, qC, zV, qEs, qEA, kI, jF, h0, h1, h2, h3, h4, h5, h6, h7, zl, qEv, qk1, qP, zS, ki, qa0, kw, qh, zt, qO, kh, qf, qi, qH, Nat.reduceEqDiff, qM, zY, qa8, qEx, qEo, qar, qEK, qEH, List.take_zero, kF, ji, yx, jk, zc, zG, qt, reduceCtorEq, qE, qk, qQ, qr, kj, he, qF, ql, qq, Nat.zero_le, ql9, jK, zi, kA, hw, qm, kq, kL, qEy, jm, Int.reduceEq, decide_false, qJ, qS, qEl, ↓reduceIte, qY, qED, qk4, beq_self_eq_true, kv, kE, kK, zx, qEJ, jD, Int.reduceLE, decide_true, ye, qU, kU, qEG, ky, q9, qc3, qX, qZ, qu, kC, jt, qx, qN, kp, qaP, jp, qdk]
    all_goals exact ⟨_, rfl⟩
end W

set_option linter.unusedSimpArgs false
set_option linter.unusedVariables false
namespace W
open Go (IntKind BinOp UnOp)
set_option maxRecDepth 20000
theorem yI {m : D} {x0 x1 x2 x3 x4 x5 x6 x7 : D} (hm : m = .agg [x0, x1, x2, x3, x4, x5, x6, x7]) (h0 : D.ones [x0, x1, x2, x3, x4, x5, x6, x7] = true)
    (he : ∃ e l, qn pgK 11 [.d m, .d .nil] [] = some ⟨false, true, .d (.i .i64 e), [], l⟩ ∧ bad e = true) (hw : ∃ w l, qn pgK 16 [.d m, .d .nil] [] = some ⟨false, true, .d (.i .i64 w), [], l⟩ ∧ bad w = true) :
    ∃ lo, qn pgK 13 [.d m, .d .nil] [] = some ⟨false, true, .d (.b true), [], lo⟩ := by
  obtain ⟨e, l1, he, h1⟩ := he
  obtain ⟨w, l2, hw, h2⟩ := hw
  subst hm
  simp only [D.ones, qEn] at h0
  exact qq7 h0.1 h0.2.1 h0.2.2.1 h0.2.2.2.1 h0.2.2.2.2.1 h0.2.2.2.2.2.1 h0.2.2.2.2.2.2.1 h0.2.2.2.2.2.2.2.1 he hw (.inr ⟨h1, h2⟩)
theorem qrs {m : D} {x0 x1 x2 x3 x4 x5 x6 x7 : D} (hm : m = .agg [x0, x1, x2, x3, x4, x5, x6, x7]) (h0 : D.ones [x0, x1, x2, x3, x4, x5, x6, x7] = true)
    (he : ∃ l, qn pgK 11 [.d m, .d .nil] [] = some ⟨false, true, .d (.i .i64 0), [], l⟩) (hw : ∃ l, qn pgK 16 [.d m, .d .nil] [] = some ⟨false, true, .d (.i .i64 0), [], l⟩) :
    ∃ lo, qn pgK 13 [.d m, .d .nil] [] = some ⟨false, true, .d (.b true), [], lo⟩ := by
  obtain ⟨l1, he⟩ := he
  obtain ⟨l2, hw⟩ := hw
  subst hm
  simp only [D.ones, qEn] at h0
  exact qq7 h0.1 h0.2.1 h0.2.2.1 h0.2.2.2.1 h0.2.2.2.2.1 h0.2.2.2.2.2.1 h0.2.2.2.2.2.2.1 h0.2.2.2.2.2.2.2.1 he hw (.inl ⟨rfl, rfl⟩)
theorem qqh {a b c d e : List Nat} (na : Nm a) (nb : Nm b) (nc : Nm c) (nd : Nm d) (ne : Nm e) : ∃ lo, qn pgK 13 [.d (nmod a b c d e), .d .nil] [] = some ⟨false, true, .d (.b true), [], lo⟩ := by
  rcases Bool.eq_false_or_eq_true (idB a) with ia | ia
  rotate_left
  · exact yI rfl rfl (qu0.1 na nb nc nd ne  ia ) (qvK.1 na nb nc nd ne  ia )
  by_cases paI : a = [73, 110]
  · subst paI; exact yI rfl rfl (qtH.1 nb nc nd ne  ) (qt0.1 nb nc nd ne  )
  rcases Bool.eq_false_or_eq_true (idB c) with ic | ic
  rotate_left
  · exact yI rfl rfl (quq.1 na nb nc nd ne ia ic (eq_false paI)) (quC.1 na nb nc nd ne ia ic (eq_false paI))
  by_cases pcI : c = [73, 110]
  · subst pcI; exact yI rfl rfl (qwY.1 na nb nd ne ia (eq_false paI)) (qwl.1 na nb nd ne ia (eq_false paI))
  by_cases pca : c = a
  · subst pca; exact yI rfl rfl (qu0.2.1 na nb nd ne ia (eq_false paI)) (qvK.2.1 na nb nd ne ia (eq_false paI))
  rcases Bool.eq_false_or_eq_true (idB b) with ib | ib
  rotate_left
  · exact yI rfl rfl (qtH.2.1 na nb nc nd ne ia ic ib (eq_false paI) (eq_false pcI) (eq_false pca)) (qt0.2.1 na nb nc nd ne ia ic ib (eq_false paI) (eq_false pcI) (eq_false pca))
  by_cases pbI : b = [73, 110]
  · subst pbI; exact yI rfl rfl (quq.2.1 na nc nd ne ia ic (eq_false paI) (eq_false pcI) (eq_false pca)) (quC.2.1 na nc nd ne ia ic (eq_false paI) (eq_false pcI) (eq_false pca))
  by_cases pba : b = a
  · subst pba; exact yI rfl rfl (qwY.2.1 na nc nd ne ia ic (eq_false paI) (eq_false pcI) (eq_false pca)) (qwl.2.1 na nc nd ne ia ic (eq_false paI) (eq_false pcI) (eq_false pca))
  by_cases pbc : b = c
  · subst pbc; exact yI rfl rfl (qu0.2.2.1 na nc nd ne ia ic (eq_false paI) (eq_false pcI) (eq_false pca)) (qvK.2.2.1 na nc nd ne ia ic (eq_false paI) (eq_false pcI) (eq_false pca))
  rcases Bool.eq_false_or_eq_true (idB d) with id | id
  rotate_left
  · exact yI rfl rfl (qtH.2.2.1 na nb nc nd ne ia ic ib id (eq_false paI) (eq_false pcI) (eq_false pca) (eq_false pbI) (eq_false pba) (eq_false pbc)) (qt0.2.2.1 na nb nc nd ne ia ic ib id (eq_false paI) (eq_false pcI) (eq_false pca) (eq_false pbI) (eq_false pba) (eq_false pbc))
  by_cases pdI : d = [73, 110]
  · subst pdI; exact yI rfl rfl (quq.2.2.1 na nb nc ne ia ic ib (eq_false paI) (eq_false pcI) (eq_false pca) (eq_false pbI) (eq_false pba) (eq_false pbc)) (quC.2.2.1 na nb nc ne ia ic ib (eq_false paI) (eq_false pcI) (eq_false pca) (eq_false pbI) (eq_false pba) (eq_false pbc))
  by_cases pda : d = a
  · subst pda; exact yI rfl rfl (qwY.2.2.1 na nb nc ne ia ic ib (eq_false paI) (eq_false pcI) (eq_false pca) (eq_false pbI) (eq_false pba) (eq_false pbc)) (qwl.2.2.1 na nb nc ne ia ic ib (eq_false paI) (eq_false pcI) (eq_false pca) (eq_false pbI) (eq_false pba) (eq_false pbc))
  by_cases pdc : d = c
  · subst pdc; exact yI rfl rfl (qu0.2.2.2.1 na nb nc ne ia ic ib (eq_false paI) (eq_false pcI) (eq_false pca) (eq_false pbI) (eq_false pba) (eq_false pbc)) (qvK.2.2.2.1 na nb nc ne ia ic ib (eq_false paI) (eq_false pcI) (eq_false pca) (eq_false pbI) (eq_false pba) (eq_false pbc))
  by_cases pdb : d = b
  · subst pdb; exact yI rfl rfl (qtH.2.2.2.1 na nb nc ne ia ic ib (eq_false paI) (eq_false pcI) (eq_false pca) (eq_false pbI) (eq_false pba) (eq_false pbc)) (qt0.2.2.2.1 na nb nc ne ia ic ib (eq_false paI) (eq_false pcI) (eq_false pca) (eq_false pbI) (eq_false pba) (eq_false pbc))
  by_cases ped : e = d
  · subst ped; exact yI rfl rfl (quq.2.2.2.1 na nb nc nd ia ic ib id (eq_false paI) (eq_false pcI) (eq_false pca) (eq_false pbI) (eq_false pba) (eq_false pbc) (eq_false pdI) (eq_false pda) (eq_false pdc) (eq_false pdb)) (quC.2.2.2.1 na nb nc nd ia ic ib id (eq_false paI) (eq_false pcI) (eq_false pca) (eq_false pbI) (eq_false pba) (eq_false pbc) (eq_false pdI) (eq_false pda) (eq_false pdc) (eq_false pdb))
  rcases Bool.eq_false_or_eq_true (idB e) with ie | ie
  rotate_left
  · exact yI rfl rfl (qwY.2.2.2 na nb nc nd ne ia ic ib id ie (eq_false paI) (eq_false pcI) (eq_false pca) (eq_false pbI) (eq_false pba) (eq_false pbc) (eq_false pdI) (eq_false pda) (eq_false pdc) (eq_false pdb) (eq_false ped)) (qwl.2.2.2 na nb nc nd ne ia ic ib id ie (eq_false paI) (eq_false pcI) (eq_false pca) (eq_false pbI) (eq_false pba) (eq_false pbc) (eq_false pdI) (eq_false pda) (eq_false pdc) (eq_false pdb) (eq_false ped))
  by_cases pea : e = a
  · subst pea; exact yI rfl rfl (qu0.2.2.2.2 na nb nc nd ia ic ib id (eq_false paI) (eq_false pcI) (eq_false pca) (eq_false pbI) (eq_false pba) (eq_false pbc) (eq_false pdI) (eq_false pda) (eq_false pdc) (eq_false pdb)) (qvK.2.2.2.2 na nb nc nd ia ic ib id (eq_false paI) (eq_false pcI) (eq_false pca) (eq_false pbI) (eq_false pba) (eq_false pbc) (eq_false pdI) (eq_false pda) (eq_false pdc) (eq_false pdb))
  by_cases peI : e = [73, 110]
  · subst peI; exact yI rfl rfl (qtH.2.2.2.2 na nb nc nd ia ic ib id (eq_false paI) (eq_false pcI) (eq_false pca) (eq_false pbI) (eq_false pba) (eq_false pbc) (eq_false pdI) (eq_false pda) (eq_false pdc) (eq_false pdb)) (qt0.2.2.2.2 na nb nc nd ia ic ib id (eq_false paI) (eq_false pcI) (eq_false pca) (eq_false pbI) (eq_false pba) (eq_false pbc) (eq_false pdI) (eq_false pda) (eq_false pdc) (eq_false pdb))
  exact qrs rfl rfl (quq.2.2.2.2 na nb nc nd ne ia ic ib id ie (eq_false paI) (eq_false pcI) (eq_false pca) (eq_false pbI) (eq_false pba) (eq_false pbc) (eq_false pdI) (eq_false pda) (eq_false pdc) (eq_false pdb) (eq_false ped) (eq_false pea) (eq_false peI)) (quC.2.2.2.2 na nb nc nd ne ia ic ib id ie (eq_false paI) (eq_false pcI) (eq_false pca) (eq_false pbI) (eq_false pba) (eq_false pbc) (eq_false pdI) (eq_false pda) (eq_false pdc) (eq_false pdb) (eq_false ped) (eq_false pea) (eq_false peI))
end W

set_option linter.unusedSimpArgs false
set_option linter.unusedVariables false
namespace W
open Go (IntKind BinOp UnOp)
set_option maxRecDepth 20000
def NL : List (List Nat) := [[120], [121], [122], [73, 110], [77], [83, 69, 84], [], [73, 70], [97, 32, 98], [119, 49], [118], [117]]
theorem qAW : ∀ k, k < 12 → ∃ s, Nm s ∧ qlj 1 (NL.map D.s) k = some (.cp (.s s))
  | 0, _ => ⟨_, ⟨by simp, by simp⟩, rfl⟩
  | 1, _ => ⟨_, ⟨by simp, by simp⟩, rfl⟩
  | 2, _ => ⟨_, ⟨by simp, by simp⟩, rfl⟩
  | 3, _ => ⟨_, ⟨by simp, by simp⟩, rfl⟩
  | 4, _ => ⟨_, ⟨by simp, by simp⟩, rfl⟩
  | 5, _ => ⟨_, ⟨by simp, by simp⟩, rfl⟩
  | 6, _ => ⟨_, ⟨by simp, by simp⟩, rfl⟩
  | 7, _ => ⟨_, ⟨by simp, by simp⟩, rfl⟩
  | 8, _ => ⟨_, ⟨by simp, by simp⟩, rfl⟩
  | 9, _ => ⟨_, ⟨by simp, by simp⟩, rfl⟩
  | 10, _ => ⟨_, ⟨by simp, by simp⟩, rfl⟩
  | 11, _ => ⟨_, ⟨by simp, by simp⟩, rfl⟩
  | n + 12, h => by omega
theorem qnS (a : Nat) : ∃ s, Nm s ∧ qlj 1 (NL.map D.s) (Int.tmod (a : Int) 12).toNat = some (.cp (.s s)) ∧ ((0 : Int) ≤ Int.tmod (a : Int) 12) = True := by
  have h : Int.tmod (a : Int) 12 = ((a % 12 : Nat) : Int) := rfl
  obtain ⟨s, h1, h2⟩ := qAW (a % 12) (Nat.mod_lt _ (by omega))
  refine ⟨s, h1, ?_, ?_⟩
  · rw [h]; exact h2
  · rw [h, eq_iff_iff]; simp; omega
theorem qsY {a b c d e : Nat} : ∃ lo, qn pgK 6 [.d (.i .u8 (a : Nat)), .d (.i .u8 (b : Nat)), .d (.i .u8 (c : Nat)), .d (.i .u8 (d : Nat)), .d (.i .u8 (e : Nat))] [] = some ⟨false, true, .d (.b true), [], lo⟩ := by
  obtain ⟨lo0, hkn⟩ := qpP
  obtain ⟨sa, na, ea, la⟩ := qnS a
  obtain ⟨sb, nb, eb, lb⟩ := qnS b
  obtain ⟨sc, nc, ec, lc⟩ := qnS c
  obtain ⟨sd, nd, ed, ld⟩ := qnS d
  obtain ⟨se, ne, ee, le⟩ := qnS e
  obtain ⟨lo1, hT⟩ := qqh na nb nc nd ne
  simp only [nmod, nvar, ncon, nrec, nprc] at hT
  simp only [NL, qEs, qEA] at ea eb ec ed ee
  rw [c_6]
  simp only [bdyK, f_waferlaw17_CheckNames, k_, o_, c_, u_, v_, i_, z_, s_, m_, x_, h_, qs, qEu, Nat.reduceAdd, qy, qEz, qA, qB, qo, qh, zt, qO, qP, kh, qf, qi, qE, qEA, qr, kj, hkn, qF, qq, Nat.zero_le, ql9, jW, kZ, qL, qD, qa6, qEG, qEp, qt, qJ, qS, qEl, ↓reduceIte, qY, zB, qck, qEx, List.reduceReplicate, qEs, Nat.reduceLT, yE, qEC, qEF, qaj, qba, qbW, qgq, qb4, qEv, qbe, qcA, jK, qfX, kA, ju, yZ, zF, jF, qbd, j1, j6, ji, yx, jk, zc, zG, kl, zS, ki, qa0, qmq, qjL, kw, kB, Nat.reduceEqDiff, qM, zY, qC, jJ, zV, kI, qgb, zl, z8, jo, qEo, List.take_zero, List.nil_append, List.drop_succ_cons, qEK, List.append_nil, zJ, zM, jq, zO, zN, qkq, zP, qbH, yR, reduceCtorEq, qm, kq, kL, qEy, Int.reduceEq, qqX, ko, qkf, qeB, la, decide_true, ea, cond_true, qq3, qH, jL, jQ, qa8, qar, qEH, kF, qb7, qdm, Nat.reduceLeDiff, qmB, List.cons_append, qcv, qiu, qqy, lb, eb, lc, ec, ld, ed, le, ee, qmC, qkA, qrd, qtP, qxZ, qqP, qtq, qra, ql3, qn2, quy, kQ, qcw, kM, qk, qQ, hT, ql, zi, qX, qZ, qu, kC, jt, qx, qN, kp, qaP, jp, qdk]
  all_goals exact ⟨_, rfl⟩
end W

