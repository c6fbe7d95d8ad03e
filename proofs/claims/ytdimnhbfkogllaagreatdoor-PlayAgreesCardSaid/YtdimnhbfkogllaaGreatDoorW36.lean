/-
  PlayAgrees, part 36.
-/
import Derived.KernelRfl
import Derived.Lib.Bytealg
import Derived.Laws.Externs
import Derived.Test.YtdimnhbfkogllaaGreatDoorW30
import Derived.Test.YtdimnhbfkogllaaGreatDoorW31
import Derived.Test.YtdimnhbfkogllaaGreatDoorW32
import Derived.Test.YtdimnhbfkogllaaGreatDoorW33
import Derived.Test.YtdimnhbfkogllaaGreatDoorW34
import Derived.Test.YtdimnhbfkogllaaGreatDoorW35
set_option linter.unusedSimpArgs false
set_option linter.unusedVariables false
open Bool renaming cond_eq_ite->qS5,and_eq_true->qS6,false_eq_true->qTb,and_self->qTc,not_true->qTl
open Nat renaming le_refl->qS7,eq_of_beq_eq_true->qS9,beq->qTd,zero_add->qTf,le_of_ble_eq_true->qTq
open Option renaming bind_eq_some_iff->qS8,bind_eq_bind->qTa,map_some->qTh,pure_def->qTj
open List renaming map_cons->qTe,getElem?_cons_zero->qTg,length_nil->qTi,length_cons->qTk,map_nil->qTm,cons_append->qTn,getElem?_cons_succ->qTo,length_append->qTp,nil_append->qTr
namespace W
theorem qHN:∀e ∈ qJ0,e.Ok pg:=by
 simp only [qJ0,List.forall_mem_cons,List.forall_mem_append]
 exact ⟨qG7,qFD,qGM,qE8⟩
theorem qH6:∀e ∈ qLf,e.Ok pg1\/e.Ok pgG:=by
 simp only [qLf,List.forall_mem_cons]
 exact ⟨.inl qCR,.inr qCh,.inl qFZ,.inl qGm,.inl qH8,.inl qIj,fun _ h=>by cases h⟩
theorem qGA:∀e ∈ qJn,e.Ok pg\/e.Ok pg1\/e.Ok pgG:=fun e he=>(List.mem_append.1 he).elim (fun h=>.inr (qH6 e h)) fun h=>.inl (qE8 e h)
theorem qHX:∀e ∈ qOh,e.Ok pg1\/e.Ok pgG\/e.Ok pg2:=by
 simp only [qOh,List.forall_mem_cons]
 exact ⟨.inl qCR,.inr (.inl qCh),.inr (.inr qHG),.inr (.inr qFd),fun _ h=>by cases h⟩
end W
/- PlayAgrees: when two results agree. -/
namespace W
open Go (IntKind BinOp UnOp)
set_option maxRecDepth 20000
set_option linter.defProp false in
def yU:=(And.intro (And.intro (And.intro (And.intro (And.intro (And.intro @qB6 (And.intro @qnn @qmG)) (And.intro @qyI (And.intro @qeM @qxa))) (And.intro (And.intro @qqL (And.intro @qrz @qpC)) (And.intro @qcr (And.intro @qiC @qo0)))) (And.intro (And.intro (And.intro @qhJ (And.intro @qGN @qwO)) (And.intro @qi8 (And.intro @qiX @ql4))) (And.intro (And.intro @qyz (And.intro @qy7 @qEW)) (And.intro @qik (And.intro @qvr @qmc))))) (And.intro (And.intro (And.intro (And.intro @qnI (And.intro @qnK @qkb)) (And.intro @qrP (And.intro @qu2 @qcx))) (And.intro (And.intro @qj1 (And.intro @qvj @qeB)) (And.intro @qcy (And.intro @qqU @qCT)))) (And.intro (And.intro (And.intro @qes (And.intro @qz5 @qty)) (And.intro @qjR (And.intro @qzq @qCd))) (And.intro (And.intro @qtw (And.intro @qCJ @qnm)) (And.intro (And.intro @qEJ @qsz) (And.intro @qE5 @qw7)))))) (And.intro (And.intro (And.intro (And.intro (And.intro @qwP (And.intro @qwD @qAt)) (And.intro @qGB (And.intro @qsW @qCN))) (And.intro (And.intro @qmI (And.intro @qp2 @qqT)) (And.intro @qjw (And.intro @yx @qxU)))) (And.intro (And.intro (And.intro @qx6 (And.intro @qtG @qhm)) (And.intro @qwc (And.intro @qnG @qqt))) (And.intro (And.intro @qqv (And.intro @qf0 @qnt)) (And.intro @qtA (And.intro @qts @qFb))))) (And.intro (And.intro (And.intro (And.intro @qyv (And.intro @qDN @qyi)) (And.intro @qnv (And.intro @qIC @qrp))) (And.intro (And.intro @qCe (And.intro @qJJ @qxJ)) (And.intro @qwv (And.intro @qCB @qyw)))) (And.intro (And.intro (And.intro @qrb (And.intro @qh3 @qGq)) (And.intro @qI2 (And.intro @qqW @qjV))) (And.intro (And.intro @qxN (And.intro @qnF @qpw)) (And.intro (And.intro @qqp @qHM) (And.intro @qGK @qPH)))))))
def plL:List (Nat × Fn):=[(3,qp),(6,kg),(7,kG),(8,qA),(15,yz),(16,kN),(17,ku),(18,kp)]
def qQ8:List Ent:=[pl_k]
def pgL:Pg:=⟨fun n=>qws n plL,qvJ qQ8⟩
theorem qIp:qw pgL.ext:=qp1
theorem qia {H:List Obj}:qc pgL 5 [] H=some ⟨false,true,.d (.b true),H,H.length⟩:=by
 rw [qre]
 rfl
theorem zK {H:List Obj} {pan:Bool} {x:D} {e:Env}:leave H pan (.d x) ⟨e,H,H.length⟩=some ⟨pan,true,.d x,H,H.length⟩:=by
 have h:Nat.ble 0 H.length=true:=Nat.ble_eq_true_of_le (Nat.zero_le _)
 have h':Nat.ble H.length H.length=true:=Nat.ble_eq_true_of_le (qS7 _)
 simp [leave,settle,V.leaves,V.ref,V.ok,h,h']
theorem em2 (p:Prop):p=True\/p=False:=(Classical.em p).elim (fun h=>.inl (eq_true h)) fun h=>.inr (eq_false h)
structure Bt (X:D) (s:List Nat):Prop where
 sl:SlD e8 X s
 ok:∀c ∈ s,c<256
theorem Bt.len {X:D} {s:List Nat} (h:Bt X s) {H:List Obj}:qEY .lenL (.d X) H=some (.d (.i .i64 s.length)):=h.sl.len
theorem Bt.text {X:D} {s:List Nat} (h:Bt X s) {H:List Obj}:qCv (.d X) H=some (.d (.s s)):=by
 obtain ⟨h,ok⟩:=h
 cases h with
 | nil=>rfl
 | sl=>
  rw [qFy,show s.map e8=s.map fun n:Nat=>.i .u8 n from rfl,qyW ok]
  rfl
theorem Bt.cut {X:D} {s:List Nat} (h:Bt X s) {n:Nat} (hn:n<=s.length):∃X',qo2 1 (.d X) none (some (n:Int))=some (.d X')/\Bt X' (s.take n):=by
 obtain ⟨h,ok⟩:=h
 cases h with
 | nil=>
  have:n=0:=by simpa using hn
  subst this
  exact ⟨.nil,rfl,.nil,by simp⟩
 | sl=>
  refine ⟨.sl ((s.take n).map e8),?_,.sl _,fun c hc=>ok c (List.mem_of_mem_take hc)⟩
  have hh:qN 1 (s.map e8)=true:=by cases s<;>rfl
  simp only [qo2,hh,cond_true,qkU,Option.getD_none,Option.getD_some,List.length_map]
  simp [jx,hn,List.map_take]
theorem qra {X Y:D} {s t:List Nat} (hX:Bt X s) (hY:Bt Y t) {H:List Obj}:qc pgL 15 [.d X,.d Y] H=some ⟨false,true,.d (.b (decide (s=t))),H,H.length⟩:=by
 rw [qh (fn:=yz) rfl rfl]
 simp only [yU,yz,qTf,Nat.reduceAdd,reduceCtorEq,qj4,hX.text,Nat.reduceEqDiff,hY.text,Bool.or_self,qqJ,zK]
def qn9 (s t:List Nat):Bool:=decide (t.length<=s.length) && decide (s.take t.length=t)
theorem qx5 {X Y:D} {s t:List Nat} (hX:Bt X s) (hY:Bt Y t) {H:List Obj}:qc pgL 16 [.d X,.d Y] H=some ⟨false,true,.d (.b (qn9 s t)),H,H.length⟩:=by
 rw [qh (fn:=kN) rfl rfl]
 by_cases h:t.length<=s.length
 ·obtain ⟨X',h1,h2⟩:=hX.cut h
  have hl:((t.length:Int)<=(s.length:Int))=True:=eq_true (by omega)
  simp only [yU,kN,qTf,Nat.reduceAdd,reduceCtorEq,hX.len,Nat.reduceEqDiff,hY.len,Bool.or_self,qqR,hl,decide_true,↓reduceIte,qeF,qhj,qgS,qyp,qnM,h1,qTe,qTm,qTc,qra h2 hY,Nat.min_self,zK,qn9,h,Bool.true_and]
 ·have hl:((t.length:Int)<=(s.length:Int))=False:=eq_false (by omega)
  simp only [yU,kN,qTf,Nat.reduceAdd,reduceCtorEq,hX.len,Nat.reduceEqDiff,hY.len,Bool.or_self,qqR,hl,decide_false,qTb,↓reduceIte,zK,qn9,h,Bool.false_and]
theorem qxb {X Y:D} {s t:List Nat} (hX:Bt X s) (hY:Bt Y t) {H:List Obj}:qc pgL 18 [.d Y,.d X] H=some ⟨false,true,.d (.b (qn9 s t)),H,H.length⟩:=by
 rw [qh (fn:=kp) rfl rfl]
 by_cases h:t.length<=s.length
 ·obtain ⟨X',h1,h2⟩:=hX.cut h
  have hl:((t.length:Int)<=(s.length:Int))=True:=eq_true (by omega)
  have e:decide (t=s.take t.length)=decide (s.take t.length=t):=decide_eq_decide.2 eq_comm
  simp only [yU,kp,qTf,Nat.reduceAdd,reduceCtorEq,hY.len,Nat.reduceEqDiff,hX.len,Bool.or_self,qqA,hl,decide_true,↓reduceIte,qj4,hY.text,qeF,qhj,qgS,qyp,qnM,h1,h2.text,qqJ,e,zK,qn9,h,Bool.true_and]
 ·have hl:((t.length:Int)<=(s.length:Int))=False:=eq_false (by omega)
  simp only [yU,kp,qTf,Nat.reduceAdd,reduceCtorEq,hY.len,Nat.reduceEqDiff,hX.len,Bool.or_self,qqA,hl,decide_false,qTb,↓reduceIte,zK,qn9,h,Bool.false_and]
theorem quA {k n:Int} (hn:n=3\/n=70):∃e,∀H,qc pgL 6 [.d (.i .i64 k),.d (.i .i64 n)] H=some ⟨false,true,.d (.i .i64 e),H,H.length⟩:=by
 by_cases h:Int.tmod k n<0
 ·refine ⟨wr .i64 (k.tmod n+n),fun H=>?_⟩
  rw [qh (fn:=kg) rfl rfl]
  have hl:(Int.tmod k n<0)=True:=eq_true h
  rcases hn with rfl|rfl<;>simp only [yU,kg,qTf,Nat.reduceAdd,reduceCtorEq,Nat.reduceEqDiff,Bool.or_self,Int.reduceEq,qtH,Bool.or_true,qnL,hl,decide_true,↓reduceIte,qnp,zK]
 ·refine ⟨k.tmod n,fun H=>?_⟩
  rw [qh (fn:=kg) rfl rfl]
  have hl:(Int.tmod k n<0)=False:=eq_false h
  rcases hn with rfl|rfl<;>simp only [yU,kg,qTf,Nat.reduceAdd,reduceCtorEq,Nat.reduceEqDiff,Bool.or_self,Int.reduceEq,qtH,Bool.or_true,qnL,hl,decide_false,qTb,↓reduceIte,zK]
def agM (qe qx qy:Bool) (e1 e2 r1 r2:Int):Bool:=
 if e1=0 then (if e2=0 then qx || qy else qy) else if e2=0 then qx else qe && decide (e1=e2) && decide (r1=r2)
theorem Bt.form {X:D} {s:List Nat} (h:Bt X s):X=.nil/\s=[]\/X=.sl (s.map e8):=by
 obtain ⟨h,_⟩:=h
 cases h with
 | nil=>exact .inl ⟨rfl,rfl⟩
 | sl=>exact .inr rfl
theorem qrh {X Y:D} {s t:List Nat} (hX:Bt X s) (hY:Bt Y t) {e1 e2 r1 r2:Int} {H:List Obj}:qc pgL 17 [.d (.agg [X,.i .i64 e1,.i .i64 r1]),.d (.agg [Y,.i .i64 e2,.i .i64 r2])] H=some ⟨false,true,.d (.b (decide (s=t) && decide (e1=e2) && decide (r1=r2))),H,H.length⟩:=by
 have h1:=fun H=>hX.text (H:=H)
 have h2:=fun H=>hY.text (H:=H)
 obtain ⟨q,hq⟩:∃q,decide (s=t)=q:=⟨_,rfl⟩
 rw [qh (fn:=ku) rfl rfl]
 rcases hX.form with ⟨rfl,rfl⟩|rfl<;>rcases hY.form with ⟨rfl,rfl⟩|rfl
 ·rcases em2 (e1=e2) with h4|h4<;>simp only [yU,ku,qTf,Nat.reduceAdd,qTe,qTm,qTc,Nat.reduceEqDiff,reduceCtorEq,Nat.add_zero,qTg,qTh,qj4,h1,Bool.or_self,qqJ,decide_true,↓reduceIte,qTo,qrl,h4,zK,Bool.true_and,decide_false,qTb,Bool.and_false,Bool.false_and]
 all_goals
  cases q<;>(rcases em2 (e1=e2) with h4|h4<;>simp only [yU,ku,qTf,Nat.reduceAdd,qTe,qTm,qTc,Nat.reduceEqDiff,reduceCtorEq,Nat.add_zero,qTg,qTh,qj4,h1,h2,Bool.or_self,qqJ,hq,qTb,↓reduceIte,zK,h4,decide_true,Bool.and_true,Bool.false_and,decide_false,qTo,qrl,Bool.true_and,Bool.and_false])
theorem qBU {e1 e2 r1 r2:Int} {H:List Obj} (hN:Bt .nil []):qc pgL 7 [.d (.agg [.nil,.i .i64 e1,.i .i64 r1]),.d (.agg [.nil,.i .i64 e2,.i .i64 r2])] H=some ⟨false,true,.d (.b (agM true true true e1 e2 r1 r2)),H,H.length⟩:=by
 have h1:∀H,qc pgL 15 [.d .nil,.d .nil] H=some ⟨false,true,.d (.b true),H,H.length⟩:=fun H=>qra hN hN
 have h2:∀H,qc pgL 16 [.d .nil,.d .nil] H=some ⟨false,true,.d (.b true),H,H.length⟩:=fun H=>qx5 hN hN
 have h4:∀H,qc pgL 17 [.d (.agg [.nil,.i .i64 e1,.i .i64 r1]),.d (.agg [.nil,.i .i64 e2,.i .i64 r2])] H=_:=fun H=>qrh hN hN (H:=H)
 rw [qh (fn:=kG) rfl rfl]
 by_cases a1:e1=0<;>by_cases a2:e2=0
 all_goals rcases em2 (e1=e2) with a3|a3<;>simp only [yU,kG,a1,a2,qTf,Nat.reduceAdd,qTe,qTm,qTc,Nat.reduceEqDiff,reduceCtorEq,qTo,qTg,qTh,Bool.or_true,decide_true,qTl,qTb,↓reduceIte,qf1,kn,qwI,yh,Nat.add_zero,h2,Nat.min_self,zK,agM,Bool.or_self,decide_false,Bool.not_false,qfb,h1,qrl,a3,Bool.true_and,Bool.and_false,Bool.false_and]
theorem qne {X Y:D} {s t:List Nat} (hX:Bt X s) (hY:Bt Y t) {e1 e2 r1 r2:Int} {H:List Obj}:qc pgL 7 [.d (.agg [X,.i .i64 e1,.i .i64 r1]),.d (.agg [Y,.i .i64 e2,.i .i64 r2])] H=some ⟨false,true,.d (.b (agM (decide (s=t)) (qn9 s t) (qn9 t s) e1 e2 r1 r2)),H,H.length⟩:=by
 have h1:=fun H=>qra hX hY (H:=H)
 have h2:=fun H=>qx5 hX hY (H:=H)
 have h3:=fun H=>qx5 hY hX (H:=H)
 have h4:=fun H=>qrh hX hY (e1:=e1) (e2:=e2) (r1:=r1) (r2:=r2) (H:=H)
 obtain ⟨qe,he⟩:∃q,decide (s=t)=q:=⟨_,rfl⟩
 obtain ⟨qx,hx⟩:∃q,qn9 s t=q:=⟨_,rfl⟩
 obtain ⟨qy,hy⟩:∃q,qn9 t s=q:=⟨_,rfl⟩
 simp only [he,hx,hy] at h1 h2 h3 h4 |-
 rcases hX.form with ⟨rfl,rfl⟩|rfl<;>rcases hY.form with ⟨rfl,rfl⟩|rfl
 ·cases he;cases hx;cases hy
  exact qBU hX
 all_goals
  rw [qh (fn:=kG) rfl rfl]
  by_cases a1:e1=0<;>by_cases a2:e2=0
  ·cases qx<;>cases qy<;>simp only [yU,kG,a1,a2,qTf,Nat.reduceAdd,qTe,qTm,qTc,Nat.reduceEqDiff,reduceCtorEq,qTo,qTg,qTh,Bool.or_true,decide_true,qTl,qTb,↓reduceIte,qf1,kn,qwI,yh,Nat.add_zero,h2,Nat.min_self,Bool.not_false,h3,zK,agM,Bool.or_self,Bool.or_false]
  ·simp only [yU,kG,a1,qTf,Nat.reduceAdd,qTe,qTm,qTc,Nat.reduceEqDiff,reduceCtorEq,qTo,qTg,qTh,Bool.or_true,decide_true,qTl,qTb,↓reduceIte,a2,decide_false,Bool.not_false,Nat.add_zero,h3,Nat.min_self,qfb,zK,agM]
  ·simp only [yU,kG,a2,qTf,Nat.reduceAdd,qTe,qTm,qTc,Nat.reduceEqDiff,reduceCtorEq,qTo,qTg,qTh,Bool.or_true,a1,decide_false,Bool.not_false,↓reduceIte,decide_true,qTl,qTb,Nat.add_zero,h2,Nat.min_self,qfb,zK,agM]
  ·cases qe<;>rcases em2 (e1=e2) with a3|a3<;>simp only [yU,kG,qTf,Nat.reduceAdd,qTe,qTm,qTc,Nat.reduceEqDiff,reduceCtorEq,qTo,qTg,qTh,Bool.or_true,a1,decide_false,Bool.not_false,↓reduceIte,a2,Nat.add_zero,h1,Nat.min_self,qTb,qfb,zK,agM,a3,decide_true,Bool.and_true,Bool.false_and,Bool.or_self,qrl,Bool.true_and,Bool.and_false]
theorem qAX {e1 e2 r1 r2:Int} {H:List Obj} (hN:Bt .nil []):qc pgL 8 [.d (.agg [.nil,.i .i64 e1,.i .i64 r1]),.d (.agg [.nil,.i .i64 e2,.i .i64 r2])] H=some ⟨false,true,.d (.b (agM true true true e1 e2 r1 r2)),H,H.length⟩:=by
 have h1:∀H,qc pgL 15 [.d .nil,.d .nil] H=some ⟨false,true,.d (.b true),H,H.length⟩:=fun H=>qra hN hN
 have h2:∀H,qc pgL 18 [.d .nil,.d .nil] H=some ⟨false,true,.d (.b true),H,H.length⟩:=fun H=>qxb hN hN
 have h4:∀H,qc pgL 17 [.d (.agg [.nil,.i .i64 e1,.i .i64 r1]),.d (.agg [.nil,.i .i64 e2,.i .i64 r2])] H=_:=fun H=>qrh hN hN (H:=H)
 rw [qh (fn:=qA) rfl rfl]
 by_cases a1:e1=0<;>by_cases a2:e2=0
 all_goals rcases em2 (e1=e2) with a3|a3<;>simp only [yU,qA,a1,a2,qTf,Nat.reduceAdd,qTe,qTm,qTc,Nat.reduceEqDiff,reduceCtorEq,qTo,qTg,qTh,Bool.or_true,decide_true,qTl,qTb,↓reduceIte,Nat.add_zero,h2,Nat.min_self,zK,agM,Bool.or_self,decide_false,Bool.not_false,qTk,qTi,Nat.reduceLeDiff,List.drop_zero,List.take_succ_cons,List.take_zero,h4,a3,Bool.true_and,Bool.and_false,Bool.false_and]
theorem qzU {X Y:D} {s t:List Nat} (hX:Bt X s) (hY:Bt Y t) {e1 e2 r1 r2:Int} {H:List Obj}:qc pgL 8 [.d (.agg [X,.i .i64 e1,.i .i64 r1]),.d (.agg [Y,.i .i64 e2,.i .i64 r2])] H=some ⟨false,true,.d (.b (agM (decide (s=t)) (qn9 s t) (qn9 t s) e1 e2 r1 r2)),H,H.length⟩:=by
 have h1:=fun H=>qra hX hY (H:=H)
 have h2:=fun H=>qxb hX hY (H:=H)
 have h3:=fun H=>qxb hY hX (H:=H)
 have h4:=fun H=>qrh hX hY (e1:=e1) (e2:=e2) (r1:=r1) (r2:=r2) (H:=H)
 obtain ⟨qe,he⟩:∃q,decide (s=t)=q:=⟨_,rfl⟩
 obtain ⟨qx,hx⟩:∃q,qn9 s t=q:=⟨_,rfl⟩
 obtain ⟨qy,hy⟩:∃q,qn9 t s=q:=⟨_,rfl⟩
 simp only [he,hx,hy] at h1 h2 h3 h4 |-
 rcases hX.form with ⟨rfl,rfl⟩|rfl<;>rcases hY.form with ⟨rfl,rfl⟩|rfl
 ·cases he;cases hx;cases hy
  exact qAX hX
 all_goals
  rw [qh (fn:=qA) rfl rfl]
  by_cases a1:e1=0<;>by_cases a2:e2=0
  ·cases qx<;>cases qy<;>simp only [yU,qA,a1,a2,qTf,Nat.reduceAdd,qTe,qTm,qTc,Nat.reduceEqDiff,reduceCtorEq,qTo,qTg,qTh,Bool.or_true,decide_true,qTl,qTb,↓reduceIte,Nat.add_zero,h3,Nat.min_self,Bool.not_false,h2,zK,agM,Bool.or_self,Bool.or_false]
  ·simp only [yU,qA,a1,qTf,Nat.reduceAdd,qTe,qTm,qTc,Nat.reduceEqDiff,reduceCtorEq,qTo,qTg,qTh,Bool.or_true,decide_true,qTl,qTb,↓reduceIte,a2,decide_false,Bool.not_false,Nat.add_zero,h3,Nat.min_self,zK,agM]
  ·simp only [yU,qA,a2,qTf,Nat.reduceAdd,qTe,qTm,qTc,Nat.reduceEqDiff,reduceCtorEq,qTo,qTg,qTh,Bool.or_true,a1,decide_false,Bool.not_false,↓reduceIte,decide_true,qTl,qTb,Nat.add_zero,h2,Nat.min_self,zK,agM]
  ·cases qe<;>rcases em2 (e1=e2) with a3|a3<;>simp only [yU,qA,qTf,Nat.reduceAdd,qTe,qTm,qTc,Nat.reduceEqDiff,reduceCtorEq,qTo,qTg,qTh,Bool.or_true,a1,decide_false,Bool.not_false,↓reduceIte,a2,qTk,qTi,Nat.reduceLeDiff,List.drop_zero,List.take_succ_cons,List.take_zero,h4,a3,decide_true,Bool.and_true,Bool.false_and,Nat.min_self,zK,agM,Bool.true_and,Bool.and_false]
theorem qFO {qe qx qy:Bool} {e1 e2 r1 r2:Int}:agM qe qx qy e1 e2 r1 r2=agM qe qy qx e2 e1 r2 r1:=by
 have h1:decide (e1=e2)=decide (e2=e1):=decide_eq_decide.2 eq_comm
 have h2:decide (r1=r2)=decide (r2=r1):=decide_eq_decide.2 eq_comm
 unfold agM
 by_cases a1:e1=0<;>by_cases a2:e2=0<;>simp only [a1,a2,if_true,if_false,h1,h2,Bool.or_comm qx qy]
theorem qFa {e r:Int}:agM true true true e e r r=true:=by
 unfold agM
 by_cases a1:e=0<;>simp [a1]
theorem qDf (s:List Nat):qn9 s s=true:=by simp [qn9]
theorem ends {X Y:D} {s t:List Nat} (hX:Bt X s) (hY:Bt Y t) {e1 e2 r1 r2:Int}:∃u,(∀H,qc pgL 7 [.d (.agg [X,.i .i64 e1,.i .i64 r1]),.d (.agg [Y,.i .i64 e2,.i .i64 r2])] H=some ⟨false,true,.d (.b u),H,H.length⟩)/\
  (∀H,qc pgL 8 [.d (.agg [X,.i .i64 e1,.i .i64 r1]),.d (.agg [Y,.i .i64 e2,.i .i64 r2])] H=some ⟨false,true,.d (.b u),H,H.length⟩)/\
  (∀H,qc pgL 7 [.d (.agg [Y,.i .i64 e2,.i .i64 r2]),.d (.agg [X,.i .i64 e1,.i .i64 r1])] H=some ⟨false,true,.d (.b u),H,H.length⟩)/\
  (∀H,qc pgL 7 [.d (.agg [X,.i .i64 e1,.i .i64 r1]),.d (.agg [X,.i .i64 e1,.i .i64 r1])] H=some ⟨false,true,.d (.b true),H,H.length⟩):=by
 refine ⟨_,fun H=>qne hX hY,fun H=>qzU hX hY,fun H=>?_,fun H=>?_⟩
 ·have h:=qne hY hX (e1:=e2) (e2:=e1) (r1:=r2) (r2:=r1) (H:=H)
  rw [h,qFO,show decide (t=s)=decide (s=t) from decide_eq_decide.2 eq_comm]
 ·rw [qne hX hX,qDf,show decide (s=s)=true from decide_eq_true rfl,qFa]
theorem qA3 {X Y:D} {s t:List Nat} (hX:Bt X s) (hY:Bt Y t) {e1 e2 r1 r2:Int} {c:Nat} (hc:c<256) {q:Bool}:∃lo,qc pgL 3 [.d (.agg [X,.i .i64 e1,.i .i64 r1]),.d (.agg [Y,.i .i64 e2,.i .i64 r2]),.d (.i .u8 c),.d (.b q)] []=some ⟨false,true,.d (.b true),[],lo⟩:=by
 obtain ⟨f1,g1⟩:∃e,∀H,qc pgL 6 [.d (.i .i64 e1),.d (.i .i64 3)] H=some ⟨false,true,.d (.i .i64 e),H,H.length⟩:=quA (.inl rfl)
 obtain ⟨f2,g2⟩:∃e,∀H,qc pgL 6 [.d (.i .i64 e2),.d (.i .i64 3)] H=some ⟨false,true,.d (.i .i64 e),H,H.length⟩:=quA (.inl rfl)
 have l1:=fun H=>hX.len (H:=H)
 have l2:=fun H=>hY.len (H:=H)
 rw [qh (fn:=qp) rfl rfl]
 rcases em2 (60<(s.length:Int)) with h3|h3
 ·rcases hX.form with ⟨rfl,rfl⟩|rfl
  ·simp at h3
  rcases hY.form with ⟨rfl,rfl⟩|rfl<;>simp only [yU,qp,qTf,Nat.reduceAdd,qTi,qTe,qTm,qTc,Nat.reduceEqDiff,reduceCtorEq,qia,Nat.min_self,qTl,qTh,qTb,↓reduceIte,Nat.add_zero,qTg,l1,Bool.or_true,h3,decide_true]<;>exact ⟨_,rfl⟩
 ·rcases em2 (60<(t.length:Int)) with h4|h4
  ·rcases hY.form with ⟨rfl,rfl⟩|rfl
   ·simp at h4
   rcases hX.form with ⟨rfl,rfl⟩|rfl<;>simp only [yU,qp,qTf,Nat.reduceAdd,qTi,qTe,qTm,qTc,Nat.reduceEqDiff,reduceCtorEq,qia,Nat.min_self,qTl,qTh,qTb,↓reduceIte,Nat.add_zero,qTg,l1,Int.cast_ofNat_Int,Bool.or_true,Int.reduceLT,decide_false,Bool.not_false,l2,h4,decide_true,h3]<;>exact ⟨_,rfl⟩
  ·cases q with
   | false=>
    obtain ⟨u,k1,k2,k3,k4⟩:=ends hX hY (e1:=f1) (e2:=f2) (r1:=r1) (r2:=r2)
    rcases hX.form with ⟨rfl,rfl⟩|rfl<;>rcases hY.form with ⟨rfl,rfl⟩|rfl<;>simp only [yU,qp,qTf,Nat.reduceAdd,qTi,qTe,qTm,qTc,Nat.reduceEqDiff,reduceCtorEq,qia,Nat.min_self,qTl,qTh,qTb,↓reduceIte,Nat.add_zero,qTg,l1,Int.cast_ofNat_Int,Bool.or_true,Int.reduceLT,decide_false,Bool.not_false,qTk,Nat.reduceLeDiff,List.drop_zero,List.take_succ_cons,List.take_zero,qby,qpW,qxc,qBf,qFX,qB7,qkq,qyj,qtK,qA4,yY,qiy,qfn,qbQ,qc3,qnx,qxx,qo7,qGQ,qTo,g1,g2,qmU,Nat.reduceLT,qcn,List.set_cons_succ,List.set_cons_zero,k1,k2,Bool.or_self,quD,beq_self_eq_true,k3,k4,l2,h4,h3]<;>exact ⟨_,rfl⟩
   | true=>
    have w1:wr .i64 (c:Int)=(c:Int):=qdM (by omega) (by omega)
    rcases hX.form with ⟨rfl,rfl⟩|rfl
    ·have hm:(c:Int).tmod 1=0:=Int.tmod_one _
     have w2:wr .i64 1=1:=rfl
     have h0:((1:Int)=0)=False:=by simp
     have c1:qo2 1 (.d .nil) none (some 0)=some (.d .nil):=rfl
     obtain ⟨u,k1,k2,k3,k4⟩:=ends hX hX (e1:=f1) (e2:=f2) (r1:=r1) (r2:=r2)
     rcases hY.form with ⟨rfl,rfl⟩|rfl<;>simp only [yU,qp,qTf,Nat.reduceAdd,qTi,qTe,qTm,qTc,Nat.reduceEqDiff,reduceCtorEq,qia,Nat.min_self,qTl,qTh,qTb,↓reduceIte,Nat.add_zero,qTg,l1,Int.cast_ofNat_Int,Bool.or_true,Int.reduceLT,decide_false,Bool.not_false,qTk,Nat.reduceLeDiff,List.drop_zero,List.take_succ_cons,List.take_zero,qby,qpW,qxc,qBf,qFX,qB7,qkq,qyj,qtK,qA4,yY,qiy,qfn,qbQ,qc3,qnx,qxx,qo7,qGQ,qTo,g1,g2,qmU,Nat.reduceLT,qcn,List.set_cons_succ,List.set_cons_zero,qjK,w1,qnp,Int.reduceAdd,w2,Bool.or_self,h0,qtH,hm,qeF,qhj,qgS,qyp,qnM,c1,k1,k2,quD,beq_self_eq_true,k3,k4,l2,h4]<;>exact ⟨_,rfl⟩
    ·have hs:s.length<=60:=by
      have:=of_eq_false h3
      omega
     have w2:wr .i64 ((s.length:Int)+1)=(s.length:Int)+1:=qdM (by omega) (by omega)
     have h0:(((s.length:Int)+1)=0)=False:=eq_false (by omega)
     have hm:(c:Int).tmod ((s.length:Int)+1)=((c % (s.length+1):Nat):Int):=rfl
     have hle:c % (s.length+1)<=s.length:=Nat.le_of_lt_succ (Nat.mod_lt c (Nat.succ_pos s.length))
     obtain ⟨X',c1,c2⟩:=hX.cut hle
     obtain ⟨u,k1,k2,k3,k4⟩:=ends hX c2 (e1:=f1) (e2:=f2) (r1:=r1) (r2:=r2)
     rcases c2.form with ⟨rfl,hc2⟩|rfl<;>rcases hY.form with ⟨rfl,rfl⟩|rfl<;>simp only [yU,qp,qTf,Nat.reduceAdd,qTi,qTe,qTm,qTc,Nat.reduceEqDiff,reduceCtorEq,qia,Nat.min_self,qTl,qTh,qTb,↓reduceIte,Nat.add_zero,qTg,l1,Bool.or_true,h3,decide_false,Bool.not_false,l2,Int.cast_ofNat_Int,Int.reduceLT,qTk,Nat.reduceLeDiff,List.drop_zero,List.take_succ_cons,List.take_zero,qby,qpW,qxc,qBf,qFX,qB7,qkq,qyj,qtK,qA4,yY,qiy,qfn,qbQ,qc3,qnx,qxx,qo7,qGQ,qTo,g1,g2,qmU,Nat.reduceLT,qcn,List.set_cons_succ,List.set_cons_zero,qjK,w1,qnp,w2,Bool.or_self,h0,qtH,hm,qeF,qhj,qgS,qyp,qnM,c1,k1,k2,quD,beq_self_eq_true,k3,k4,h4]<;>exact ⟨_,rfl⟩
end W
/- What stands in for bytealg.IndexByteString does what it does. -/
namespace W
open Go (World Value Addr IntKind Program TypeId FuncId Func Calls Code Result Oper)
theorem qFk (c:Nat):∀l:List UInt8,ixN (c % 256) (l.map (·.toNat))=Go.Lib.indexByte l c.toUInt8
 | []=>rfl
 | b::l=>by
  have ih:=qFk c l
  have hge:=Go.Lib.indexByte_ge l c.toUInt8
  have hb:qTd b.toNat (c % 256)=(b == c.toUInt8):=by
   have hc:c.toUInt8.toNat=c % 256:=by simp [Nat.toUInt8]
   rw [<- hc]
   by_cases h:b=c.toUInt8
   ·subst h;simp
   ·have h2:¬b.toNat=c.toUInt8.toNat:=fun e=>h (UInt8.toNat_inj.1 e)
    have h3:qTd b.toNat c.toUInt8.toNat=false:=by rw [Bool.eq_false_iff];intro e;exact h2 (qS9 e)
    rw [h3];symm;simpa using h
  simp only [qTe,ixN,Go.Lib.indexByte,hb]
  cases b == c.toUInt8 with
  | true=>rfl
  | false=>
   simp only [cond_false,qTb,if_false]
   rw [ih]
   generalize Go.Lib.indexByte l c.toUInt8=v at hge |-
   cases v with
   | ofNat n=>simp
   | negSucc m=>
    have:m=0:=by omega
    subst this
    rfl
theorem qH1 {P:Program} {M:Maps} {K:FuncId} {fn:Func} (hf:P.funcs[K]?=some fn) (hname:(fn.name == "runtime.NumGoroutine")=false) (hb:fn.body.isNone=true) (hn:Go.Extern.findNext fn=none)
  (he:Go.Extern.find fn=some Go.Extern.BytealgIndexByte.indexByte) {g:Gh} {w:World} {vs:List V} {H:List Obj} {r:Cr} (h:ixX vs H=some r) {argv:List Value} (ha:ArgsRep M g w 0 vs argv) (hH:RelH M g w H) :
  qxR P K argv.toArray w (qI M g w r):=by
 unfold ixX at h
 split at h
 ·rename_i t c
  cases h
  cases ha with
  | cons h0 ha=>cases ha with
   | cons h1 ha=>cases ha;cases h0 with
    | s h0=>cases h0 with
     | d _ _ h0=>cases h0 with
      | s _ x hx=>cases h1 with
       | s h1=>cases h1 with
        | d _ _ h1=>cases h1 with
         | i k n=>
          intro o a K Q hK hQ
          rw [Go.run_callFunc_extern hf hname hb hn he]
          have e:(#[Value.string x,.int .u8 (Int.ofNat c)]:Array Value)=[Value.string x,.int .u8 (Int.ofNat c)].toArray:=rfl
          rw [<- e,Go.Lib.run_indexByteString]
          simp only [Result.andThen]
          rw [Oper.upon_value]
          refine hK _ _ ⟨rfl,g,hH,Evo.refl g w,.s (.d _ _ ?_)⟩
          rw [<- hx,qFk]
          exact .i _ _
 ·cases h
end W
