/-
  FrontNests, part 29.
-/
import Derived.KernelRfl
import Derived.Lib.Bytealg
import Derived.Laws.Externs
import Derived.Test.YtanpgonfloohoaaGreatDoorW11
import Derived.Test.YtanpgonfloohoaaGreatDoorW12
import Derived.Test.YtanpgonfloohoaaGreatDoorW13
import Derived.Test.YtanpgonfloohoaaGreatDoorW14
import Derived.Test.YtanpgonfloohoaaGreatDoorW15
import Derived.Test.YtanpgonfloohoaaGreatDoorW16
import Derived.Test.YtanpgonfloohoaaGreatDoorW17
import Derived.Test.YtanpgonfloohoaaGreatDoorW18
import Derived.Test.YtanpgonfloohoaaGreatDoorW19
import Derived.Test.YtanpgonfloohoaaGreatDoorW20
import Derived.Test.YtanpgonfloohoaaGreatDoorW21
import Derived.Test.YtanpgonfloohoaaGreatDoorW22
import Derived.Test.YtanpgonfloohoaaGreatDoorW23
import Derived.Test.YtanpgonfloohoaaGreatDoorW24
import Derived.Test.YtanpgonfloohoaaGreatDoorW25
import Derived.Test.YtanpgonfloohoaaGreatDoorW26
import Derived.Test.YtanpgonfloohoaaGreatDoorW27
import Derived.Test.YtanpgonfloohoaaGreatDoorW28
/- What the tables say, the code says. -/
open Bool renaming cond_eq_ite→qIU,and_eq_true→qIV,false_eq_true→qI1,not_true→qI6
open Option renaming bind_eq_some_iff→qIW,bind_eq_bind→qIZ,pure_def→qI2,map_some→qI5
open Nat renaming eq_of_beq_eq_true→qIX,le_refl→qIY,beq→qI0
open List renaming length_nil→qI3,length_cons→qI4
namespace W
def qxw (e:Ent):Prop:=∃g T,(∀x ∈ T,x.Ok pg1)∧e.Ok (pgT g (T++qlD))
def qIn (e:Ent):Prop:=e.Ok pg1∨∃w k p,qxw (eCF w k p)∧qxw (eCR w k p)∧e.Ok (pgC w k p)
theorem za {e a b:Ent} {g:Nat→Bool} (ha:a.Ok pg1) (hb:b.Ok pg1) (h:e.Ok (pgT g (a::b::qlD))):qxw e:=⟨g,[a,b],by simp only [List.forall_mem_cons];exact ⟨ha,hb,fun _ h=>by cases h⟩,h⟩
theorem qBK {e a b c d:Ent} {g:Nat→Bool} (ha:a.Ok pg1) (hb:b.Ok pg1) (hc:c.Ok pg1) (hd:d.Ok pg1) (h:e.Ok (pgT g (a::b::c::d::qlD))):qxw e:=⟨g,[a,b,c,d],by simp only [List.forall_mem_cons];exact ⟨ha,hb,hc,hd,fun _ h=>by cases h⟩,h⟩
theorem qEa:∀e ∈ fnL,qIn e:=by
 simp only [fnL,List.forall_mem_cons]
 exact ⟨.inl qAy,.inr ⟨_,_,_,za qzd qzU qC1,za qzd qzU qB5,qFv⟩,.inr ⟨_,_,_,za qzw qx7 qFe,za qzw qx7 qDY,qFx⟩,.inr ⟨_,_,_,za qyy qyA qFj,za qyy qyA qFA,qCg⟩,.inr ⟨_,_,_,za qy3 qy0 qFz,za qy3 qy0 qDp,qCe⟩,.inr ⟨_,_,_,za qyS qzl qEQ,za qyS qzl qFo,qDZ⟩,.inr ⟨_,_,_,za qxn qx8 qEA,za qxn qx8 qDg,qF9⟩,.inr ⟨_,_,_,za qzH qy8 qD1,za qzH qy8 qE9,qGn⟩,.inr ⟨_,_,_,za qxB qxj qEL,za qxB qxj qDf,qFy⟩,.inr ⟨_,_,_,za qyp qxz qGe,za qyp qxz qDW,qGC⟩,.inr ⟨_,_,_,za qxg qyj qEE,za qxg qyj qGj,qBP⟩,.inr ⟨_,_,_,qBK qzN qyZ qCb qDT qGb,za qzN qyZ qFL,qC2⟩,.inr ⟨_,_,_,qBK qxe qzO qEY qB3 qGp,za qxe qzO qDh,qB0⟩,.inr ⟨_,_,_,za qyn qxh qE4,za qyn qxh qFt,qDK⟩,.inr ⟨_,_,_,za qxZ qyR qFR,za qxZ qyR qFI,qCW⟩,.inr ⟨_,_,_,za qzm qzV qDi,za qzm qzV qF1,qEX⟩,.inr ⟨_,_,_,za qzp qzz qFw,za qzp qzz qB1,qEe⟩,.inr ⟨_,_,_,za qyi qym qEb,za qyi qym qDw,qCY⟩,.inr ⟨_,_,_,za qx5 qz6 qDk,za qx5 qz6 qE5,qDX⟩,.inr ⟨_,_,_,za qxE qyh qCn,za qxE qyh qEH,qCo⟩,.inr ⟨_,_,_,za qzE qys qF7,za qzE qys qFB,qDl⟩,fun _ h=>by cases h⟩
end W
/- FrontNests: just how deep expressions, ( ), statements, types may be in one another. -/
set_option linter.unusedSimpArgs false
set_option linter.unusedVariables false
namespace W
open Go (IntKind BinOp UnOp)
set_option maxRecDepth 20000
def pgL:Pg:=⟨fun n=>bif qI0 n 3 then some qg else none,qpf fnL⟩
theorem qAI:qz pgL.ext:=quS
theorem jU {pg:Pg} {e:Env} {H:List Obj} {lo:Nat}:exL pg qV ⟨e,H,lo⟩=kL pg (kl (get 5 e)) (kl (get 6 e)) (kl (get 7 e)) (kl (get 8 e)) H lo:=qlF
theorem jM {pg:Pg} {v5 v6 v7 v8:V} {H:List Obj} {lo:Nat}:kL pg v5 v6 v7 v8 H lo=qeT pg (exL pg kG ⟨[(5,kl v5),(6,kl v6),(7,kl v7),(8,kl v8)],H,lo⟩) qV:=by
 unfold kL qV;rw [qfk];simp only [qs,qC,yd,j7,Nat.reduceEqDiff]
theorem jV {pg:Pg} {e:Env} {H:List Obj} {lo:Nat}:exL pg qU ⟨e,H,lo⟩=kJ pg (kl (get 5 e)) (kl (get 6 e)) (kl (get 9 e)) H lo:=qlF
theorem jN {pg:Pg} {v5 v6 v9:V} {H:List Obj} {lo:Nat}:kJ pg v5 v6 v9 H lo=qeT pg (exL pg kH ⟨[(5,kl v5),(6,kl v6),(9,kl v9)],H,lo⟩) qU:=by
 unfold kJ qU;rw [qfk];simp only [qs,qC,yd,j7,Nat.reduceEqDiff]
theorem jO {pg:Pg} {e:Env} {H:List Obj} {lo:Nat}:exL pg qW ⟨e,H,lo⟩=kP pg (kl (get 5 e)) (kl (get 6 e)) (kl (get 7 e)) (kl (get 10 e)) H lo:=qlF
theorem jL {pg:Pg} {v5 v6 v7 v10:V} {H:List Obj} {lo:Nat}:kP pg v5 v6 v7 v10 H lo=qeT pg (exL pg kV ⟨[(5,kl v5),(6,kl v6),(7,kl v7),(10,kl v10)],H,lo⟩) qW:=by
 unfold kP qW;rw [qfk];simp only [qs,qC,yd,j7,Nat.reduceEqDiff]
theorem jR {pg:Pg} {e:Env} {H:List Obj} {lo:Nat}:exL pg qX ⟨e,H,lo⟩=kM pg (kl (get 1 e)) (kl (get 6 e)) (kl (get 11 e)) H lo:=qlF
theorem jP {pg:Pg} {v1 v6 v11:V} {H:List Obj} {lo:Nat}:kM pg v1 v6 v11 H lo=qeT pg (exL pg kT ⟨[(1,kl v1),(6,kl v6),(11,kl v11)],H,lo⟩) qX:=by
 unfold kM qX;rw [qfk];simp only [qs,qC,yd,j7,Nat.reduceEqDiff]
theorem ko {f:Nat} {l:List D} {o:Out} {H:List Obj} (h0:qI0 f 3=false) (h:pick f (l.map .d) fnL=some ⟨f,l,o⟩):ql pgL f (l.map .d) H=some ⟨false,true,o.v,H,H.length⟩:=by
 rw [ql4]
 have:pgL.fn f=none:=by simp only [pgL,h0,cond_false]
 simp only [qp,this]
 show qpf fnL f _ H=_
 simp only [qpf,h]
theorem qjZ {H:List Obj}:ql pgL 7 [] H=some ⟨false,true,.d (.b true),H,H.length⟩:=ko (l:=[]) (o:=.one (.b true)) rfl (by kernel_rfl)
theorem qac {p:List Nat}:∀n,(rep p n).length=n * p.length
 | 0=>by simp [rep]
 | n+1=>by simp [rep,qac n,Nat.add_mul]
theorem qBf {n:Nat} (h:n<1000):wr .i64 ((n:Int)+1)=((n+1:Nat):Int):=by rw [qbe (by omega) (by omega)];omega
def qqv (w k:Nat):Prop:=∀H:List Obj,ql pgL 8 [.d (.s (src w k)),.d .nil] H=some ⟨false,true,.d (.b true),H,H.length⟩
theorem qGV {k:Nat} (hk:k<1000) (hc:qqv 0 k) {n:Nat} {H:List Obj}:∀j i:Nat,k - i=j→i≤k→
  ∃e,qeT pgL (qgx 1 [6,7] (kL pgL (.d (.i .i64 (k:Nat))) (.d (.s (rep [40] i))) (.d (.s (rep [41] i))) (.d (.i .i64 (i:Nat))) H H.length)) zX=some (.ret,⟨e,H,H.length⟩)∧get 4 e=.d (.b true):=by
 intro j
 induction j with
 | zero=>
  intro i hj hi
  obtain rfl:i=k:=by omega
  have h1:((i:Int)<(i:Int))=False:=by simp
  have hc:=hc H
  simp only [src] at hc
  have la:(rep [40] i).length≤20000:=by rw [qac];simp only [qI4,qI3];omega
  have lb:(rep [41] i).length≤20000:=by rw [qac];simp only [qI4,qI3];omega
  have e0:∀c,qad .add .num c (.d (.s ([77,79,68,85,76,69,32,77,59,32,86,65,82,32,105,58,32,73,78,84,69,71,69,82,59,32,66,69,71,73,78,32,105,32,58,61,32]))) (.d (.s (rep [40] i)))=some (.d (.s (([77,79,68,85,76,69,32,77,59,32,86,65,82,32,105,58,32,73,78,84,69,71,69,82,59,32,66,69,71,73,78,32,105,32,58,61,32])++rep [40] i))):=fun c=>zz (by simp only [List.length_append,qI4,qI3];omega)
  have e1:∀c,qad .add .num c (.d (.s ([77,79,68,85,76,69,32,77,59,32,86,65,82,32,105,58,32,73,78,84,69,71,69,82,59,32,66,69,71,73,78,32,105,32,58,61,32]++rep [40] i))) (.d (.s ([105])))=some (.d (.s (([77,79,68,85,76,69,32,77,59,32,86,65,82,32,105,58,32,73,78,84,69,71,69,82,59,32,66,69,71,73,78,32,105,32,58,61,32]++rep [40] i)++[105]))):=fun c=>zz (by simp only [List.length_append,qI4,qI3];omega)
  have e2:∀c,qad .add .num c (.d (.s (([77,79,68,85,76,69,32,77,59,32,86,65,82,32,105,58,32,73,78,84,69,71,69,82,59,32,66,69,71,73,78,32,105,32,58,61,32]++rep [40] i)++[105]))) (.d (.s (rep [41] i)))=some (.d (.s ((([77,79,68,85,76,69,32,77,59,32,86,65,82,32,105,58,32,73,78,84,69,71,69,82,59,32,66,69,71,73,78,32,105,32,58,61,32]++rep [40] i)++[105])++rep [41] i))):=fun c=>zz (by simp only [List.length_append,qI4,qI3];omega)
  have e3:∀c,qad .add .num c (.d (.s ((([77,79,68,85,76,69,32,77,59,32,86,65,82,32,105,58,32,73,78,84,69,71,69,82,59,32,66,69,71,73,78,32,105,32,58,61,32]++rep [40] i)++[105])++rep [41] i))) (.d (.s ([32,69,78,68,32,77,46])))=some (.d (.s (((([77,79,68,85,76,69,32,77,59,32,86,65,82,32,105,58,32,73,78,84,69,71,69,82,59,32,66,69,71,73,78,32,105,32,58,61,32]++rep [40] i)++[105])++rep [41] i)++[32,69,78,68,32,77,46]))):=fun c=>zz (by simp only [List.length_append,qI4,qI3];omega)
  simp only [sA,sB,sC,sD,sE,sF,sR,sU,sP,sY] at hc
  rw [jM]
  simp only [kG,y4,yL,yN,je,zE,qlu,Nat.reduceEqDiff,j7,yd,yG,yH,qbA,qfI,zG,qfQ,Bool.or_self,qbB,h1,decide_false,jf,kU,zI,zZ,jX,qI1,↓reduceIte,qiY,qer,qcK,qs,qC,zX,qc0,Bool.or_false,qlv,e0,Bool.or_true,e1,e2,e3,kQ,List.map_cons,List.map_nil,kE,qgN,qQ,Bool.and_self,yF,hc,kN,kD,qcr,qP,Nat.min_self,qkv,qcm,qaH,qjX]
  exact ⟨_,rfl,rfl⟩
 | succ j ih=>
  intro i hj hi
  have h1:((i:Int)<(k:Int))=True:=by rw [eq_iff_iff];simp;omega
  have hw:=qBf (n:=i) (by omega)
  have ih:=ih (i+1) (by omega) (by omega)
  have la:(rep [40] i).length≤20000:=by rw [qac];simp only [qI4,qI3];omega
  have sa:∀c,qad .add .num c (.d (.s (rep [40] i))) (.d (.s [40]))=some (.d (.s (rep [40] (i+1)))):=fun c=>zz (by simp only [qI4,qI3];omega)
  have lb:(rep [41] i).length≤20000:=by rw [qac];simp only [qI4,qI3];omega
  have sb:∀c,qad .add .num c (.d (.s (rep [41] i))) (.d (.s [41]))=some (.d (.s (rep [41] (i+1)))):=fun c=>zz (by simp only [qI4,qI3];omega)
  rw [jM]
  simp only [kG,y4,yL,yN,je,zE,qlu,Nat.reduceEqDiff,j7,yd,yG,yH,qbA,qfI,zG,qfQ,Bool.or_self,qbB,h1,decide_true,jf,kU,zI,zZ,jX,↓reduceIte,qaB,jB,qc0,Bool.or_true,qlv,sa,sb,qb7,qs,qC,qcn,hw,jU]
  exact ih
theorem qGR {k:Nat} (hk:k<1000) (hc:qqv 1 k) {n:Nat} {H:List Obj}:∀j i:Nat,k - i=j→i≤k→
  ∃e,qeT pgL (qgx 3 [6] (kJ pgL (.d (.i .i64 (k:Nat))) (.d (.s (rep [32,43,32,105] i))) (.d (.i .i64 (i:Nat))) H H.length)) z8=some (.ret,⟨e,H,H.length⟩)∧get 4 e=.d (.b true):=by
 intro j
 induction j with
 | zero=>
  intro i hj hi
  obtain rfl:i=k:=by omega
  have h1:((i:Int)<(i:Int))=False:=by simp
  have hc:=hc H
  simp only [src] at hc
  have la:(rep [32,43,32,105] i).length≤20000:=by rw [qac];simp only [qI4,qI3];omega
  have e0:∀c,qad .add .num c (.d (.s ([77,79,68,85,76,69,32,77,59,32,86,65,82,32,105,58,32,73,78,84,69,71,69,82,59,32,66,69,71,73,78,32,105,32,58,61,32,105]))) (.d (.s (rep [32,43,32,105] i)))=some (.d (.s (([77,79,68,85,76,69,32,77,59,32,86,65,82,32,105,58,32,73,78,84,69,71,69,82,59,32,66,69,71,73,78,32,105,32,58,61,32,105])++rep [32,43,32,105] i))):=fun c=>zz (by simp only [List.length_append,qI4,qI3];omega)
  have e1:∀c,qad .add .num c (.d (.s ([77,79,68,85,76,69,32,77,59,32,86,65,82,32,105,58,32,73,78,84,69,71,69,82,59,32,66,69,71,73,78,32,105,32,58,61,32,105]++rep [32,43,32,105] i))) (.d (.s ([32,69,78,68,32,77,46])))=some (.d (.s (([77,79,68,85,76,69,32,77,59,32,86,65,82,32,105,58,32,73,78,84,69,71,69,82,59,32,66,69,71,73,78,32,105,32,58,61,32,105]++rep [32,43,32,105] i)++[32,69,78,68,32,77,46]))):=fun c=>zz (by simp only [List.length_append,qI4,qI3];omega)
  simp only [sA,sB,sC,sD,sE,sF,sR,sU,sP,sY] at hc
  rw [jN]
  simp only [kH,y4,yL,yN,je,zE,qlu,Nat.reduceEqDiff,j7,yd,yG,yH,qbA,qfI,zG,qfQ,Bool.or_self,qbB,h1,decide_false,jf,kU,zI,zZ,jX,qI1,↓reduceIte,qiY,qer,qcK,qs,qC,z8,qc0,Bool.or_false,qlv,e0,Bool.or_true,e1,kQ,List.map_cons,List.map_nil,kE,qgN,qQ,Bool.and_self,yF,hc,kN,kD,qcr,qP,Nat.min_self,qkv,qcm,qaH,qjX]
  exact ⟨_,rfl,rfl⟩
 | succ j ih=>
  intro i hj hi
  have h1:((i:Int)<(k:Int))=True:=by rw [eq_iff_iff];simp;omega
  have hw:=qBf (n:=i) (by omega)
  have ih:=ih (i+1) (by omega) (by omega)
  have la:(rep [32,43,32,105] i).length≤20000:=by rw [qac];simp only [qI4,qI3];omega
  have sa:∀c,qad .add .num c (.d (.s (rep [32,43,32,105] i))) (.d (.s [32,43,32,105]))=some (.d (.s (rep [32,43,32,105] (i+1)))):=fun c=>zz (by simp only [qI4,qI3];omega)
  rw [jN]
  simp only [kH,y4,yL,yN,je,zE,qlu,Nat.reduceEqDiff,j7,yd,yG,yH,qbA,qfI,zG,qfQ,Bool.or_self,qbB,h1,decide_true,jf,kU,zI,zZ,jX,↓reduceIte,qaB,jB,qc0,Bool.or_true,qlv,sa,qb7,qs,qC,qcn,hw,jV]
  exact ih
theorem qHN {k:Nat} (hk:k<1000) (hc:qqv 2 k) {n:Nat} {H:List Obj}:∀j i:Nat,k - i=j→i≤k→
  ∃e,qeT pgL (qgx 5 [6,7] (kP pgL (.d (.i .i64 (k:Nat))) (.d (.s (rep [82,69,80,69,65,84,32,105,32,58,61,32,49,59] i))) (.d (.s (rep [32,85,78,84,73,76,32,84,82,85,69] i))) (.d (.i .i64 (i:Nat))) H H.length)) z5=some (.ret,⟨e,H,H.length⟩)∧get 4 e=.d (.b true):=by
 intro j
 induction j with
 | zero=>
  intro i hj hi
  obtain rfl:i=k:=by omega
  have h1:((i:Int)<(i:Int))=False:=by simp
  have hc:=hc H
  simp only [src] at hc
  have la:(rep [82,69,80,69,65,84,32,105,32,58,61,32,49,59] i).length≤20000:=by rw [qac];simp only [qI4,qI3];omega
  have lb:(rep [32,85,78,84,73,76,32,84,82,85,69] i).length≤20000:=by rw [qac];simp only [qI4,qI3];omega
  have e0:∀c,qad .add .num c (.d (.s ([77,79,68,85,76,69,32,77,59,32,86,65,82,32,105,58,32,73,78,84,69,71,69,82,59,32,66,69,71,73,78,32]))) (.d (.s (rep [82,69,80,69,65,84,32,105,32,58,61,32,49,59] i)))=some (.d (.s (([77,79,68,85,76,69,32,77,59,32,86,65,82,32,105,58,32,73,78,84,69,71,69,82,59,32,66,69,71,73,78,32])++rep [82,69,80,69,65,84,32,105,32,58,61,32,49,59] i))):=fun c=>zz (by simp only [List.length_append,qI4,qI3];omega)
  have e1:∀c,qad .add .num c (.d (.s ([77,79,68,85,76,69,32,77,59,32,86,65,82,32,105,58,32,73,78,84,69,71,69,82,59,32,66,69,71,73,78,32]++rep [82,69,80,69,65,84,32,105,32,58,61,32,49,59] i))) (.d (.s (rep [32,85,78,84,73,76,32,84,82,85,69] i)))=some (.d (.s (([77,79,68,85,76,69,32,77,59,32,86,65,82,32,105,58,32,73,78,84,69,71,69,82,59,32,66,69,71,73,78,32]++rep [82,69,80,69,65,84,32,105,32,58,61,32,49,59] i)++rep [32,85,78,84,73,76,32,84,82,85,69] i))):=fun c=>zz (by simp only [List.length_append,qI4,qI3];omega)
  have e2:∀c,qad .add .num c (.d (.s (([77,79,68,85,76,69,32,77,59,32,86,65,82,32,105,58,32,73,78,84,69,71,69,82,59,32,66,69,71,73,78,32]++rep [82,69,80,69,65,84,32,105,32,58,61,32,49,59] i)++rep [32,85,78,84,73,76,32,84,82,85,69] i))) (.d (.s ([32,69,78,68,32,77,46])))=some (.d (.s ((([77,79,68,85,76,69,32,77,59,32,86,65,82,32,105,58,32,73,78,84,69,71,69,82,59,32,66,69,71,73,78,32]++rep [82,69,80,69,65,84,32,105,32,58,61,32,49,59] i)++rep [32,85,78,84,73,76,32,84,82,85,69] i)++[32,69,78,68,32,77,46]))):=fun c=>zz (by simp only [List.length_append,qI4,qI3];omega)
  simp only [sA,sB,sC,sD,sE,sF,sR,sU,sP,sY] at hc
  rw [jL]
  simp only [kV,y4,yL,yN,je,zE,qlu,Nat.reduceEqDiff,j7,yd,yG,yH,qbA,qfI,zG,qfQ,Bool.or_self,qbB,h1,decide_false,jf,kU,zI,zZ,jX,qI1,↓reduceIte,qiY,qer,qcK,qs,qC,z5,qc0,Bool.or_false,qlv,e0,e1,Bool.or_true,e2,kQ,List.map_cons,List.map_nil,kE,qgN,qQ,Bool.and_self,yF,hc,kN,kD,qcr,qP,Nat.min_self,qkv,qcm,qaH,qjX]
  exact ⟨_,rfl,rfl⟩
 | succ j ih=>
  intro i hj hi
  have h1:((i:Int)<(k:Int))=True:=by rw [eq_iff_iff];simp;omega
  have hw:=qBf (n:=i) (by omega)
  have ih:=ih (i+1) (by omega) (by omega)
  have la:(rep [82,69,80,69,65,84,32,105,32,58,61,32,49,59] i).length≤20000:=by rw [qac];simp only [qI4,qI3];omega
  have sa:∀c,qad .add .num c (.d (.s (rep [82,69,80,69,65,84,32,105,32,58,61,32,49,59] i))) (.d (.s [82,69,80,69,65,84,32,105,32,58,61,32,49,59]))=some (.d (.s (rep [82,69,80,69,65,84,32,105,32,58,61,32,49,59] (i+1)))):=fun c=>zz (by simp only [qI4,qI3];omega)
  have lb:(rep [32,85,78,84,73,76,32,84,82,85,69] i).length≤20000:=by rw [qac];simp only [qI4,qI3];omega
  have sb:∀c,qad .add .num c (.d (.s (rep [32,85,78,84,73,76,32,84,82,85,69] i))) (.d (.s [32,85,78,84,73,76,32,84,82,85,69]))=some (.d (.s (rep [32,85,78,84,73,76,32,84,82,85,69] (i+1)))):=fun c=>zz (by simp only [qI4,qI3];omega)
  rw [jL]
  simp only [kV,y4,yL,yN,je,zE,qlu,Nat.reduceEqDiff,j7,yd,yG,yH,qbA,qfI,zG,qfQ,Bool.or_self,qbB,h1,decide_true,jf,kU,zI,zZ,jX,↓reduceIte,qaB,jB,qc0,Bool.or_true,qlv,sa,sb,qb7,qs,qC,qcn,hw,jO]
  exact ih
theorem qHA {k:Nat} (hk:k<10) (hc:qqv 3 k) {n:Nat} (hn:Int.tmod (n:Nat) 5=((k - 5:Nat):Int)) (h5:5≤k) {H:List Obj}:∀j i:Nat,k - i=j→i≤k→
  ∃e,qeT pgL (qgx 7 [6] (kM pgL (.d (.i .u8 (n:Nat))) (.d (.s (rep [65,82,82,65,89,32,49,32,79,70,32] i))) (.d (.i .i64 (i:Nat))) H H.length)) z7=some (.ret,⟨e,H,H.length⟩)∧get 4 e=.d (.b true):=by
 intro j
 induction j with
 | zero=>
  intro i hj hi
  obtain rfl:i=k:=by omega
  have h1:((i:Int)<(i:Int))=False:=by simp
  have hk5:wr .i64 (5+((i - 5:Nat):Int))=(i:Int):=by rw [qbe (by omega) (by omega)];omega
  have hk6:wr .i64 ((i - 5:Nat):Int)=((i - 5:Nat):Int):=qbe (by omega) (by omega)
  have hk7:wr .u8 ((i - 5:Nat):Int)=((i - 5:Nat):Int):=qkN (by omega) (by omega)
  have hc:=hc H
  simp only [src] at hc
  have la:(rep [65,82,82,65,89,32,49,32,79,70,32] i).length≤20000:=by rw [qac];simp only [qI4,qI3];omega
  have e0:∀c,qad .add .num c (.d (.s ([77,79,68,85,76,69,32,77,59,32,86,65,82,32,105,58,32]))) (.d (.s (rep [65,82,82,65,89,32,49,32,79,70,32] i)))=some (.d (.s (([77,79,68,85,76,69,32,77,59,32,86,65,82,32,105,58,32])++rep [65,82,82,65,89,32,49,32,79,70,32] i))):=fun c=>zz (by simp only [List.length_append,qI4,qI3];omega)
  have e1:∀c,qad .add .num c (.d (.s ([77,79,68,85,76,69,32,77,59,32,86,65,82,32,105,58,32]++rep [65,82,82,65,89,32,49,32,79,70,32] i))) (.d (.s ([73,78,84,69,71,69,82,59,32,69,78,68,32,77,46])))=some (.d (.s (([77,79,68,85,76,69,32,77,59,32,86,65,82,32,105,58,32]++rep [65,82,82,65,89,32,49,32,79,70,32] i)++[73,78,84,69,71,69,82,59,32,69,78,68,32,77,46]))):=fun c=>zz (by simp only [List.length_append,qI4,qI3];omega)
  simp only [sA,sB,sC,sD,sE,sF,sR,sU,sP,sY] at hc
  rw [jP]
  simp only [kT,y4,yL,yN,je,zE,qlu,Nat.reduceEqDiff,j7,yd,yG,yH,qbA,qfI,zG,qfQ,qc0,Bool.or_true,qlv,Int.reduceEq,qj4,hn,jf,qcg,hk6,Bool.or_false,qcn,hk5,Bool.or_self,qbB,h1,decide_false,kU,zI,zZ,jX,qI1,↓reduceIte,qiY,qer,qcK,qs,qC,z7,e0,e1,kQ,List.map_cons,List.map_nil,kE,qgN,qQ,Bool.and_self,yF,hc,kN,kD,qcr,qP,Nat.min_self,qkv,qcm,qaH,qjX]
  exact ⟨_,rfl,rfl⟩
 | succ j ih=>
  intro i hj hi
  have h1:((i:Int)<(k:Int))=True:=by rw [eq_iff_iff];simp;omega
  have hw:=qBf (n:=i) (by omega)
  have hk5:wr .i64 (5+((k - 5:Nat):Int))=(k:Int):=by rw [qbe (by omega) (by omega)];omega
  have hk6:wr .i64 ((k - 5:Nat):Int)=((k - 5:Nat):Int):=qbe (by omega) (by omega)
  have hk7:wr .u8 ((k - 5:Nat):Int)=((k - 5:Nat):Int):=qkN (by omega) (by omega)
  have ih:=ih (i+1) (by omega) (by omega)
  have la:(rep [65,82,82,65,89,32,49,32,79,70,32] i).length≤20000:=by rw [qac];simp only [qI4,qI3];omega
  have sa:∀c,qad .add .num c (.d (.s (rep [65,82,82,65,89,32,49,32,79,70,32] i))) (.d (.s [65,82,82,65,89,32,49,32,79,70,32]))=some (.d (.s (rep [65,82,82,65,89,32,49,32,79,70,32] (i+1)))):=fun c=>zz (by simp only [qI4,qI3];omega)
  rw [jP]
  simp only [kT,y4,yL,yN,je,zE,qlu,Nat.reduceEqDiff,j7,yd,yG,yH,qbA,qfI,zG,qfQ,qc0,Bool.or_true,qlv,Int.reduceEq,qj4,hn,jf,qcg,hk6,Bool.or_false,qcn,hk5,Bool.or_self,qbB,h1,decide_true,kU,zI,zZ,jX,↓reduceIte,qaB,jB,sa,qb7,qs,qC,hw,jR]
  exact ih
theorem qIK {w n j:Nat} (hw:Int.tmod (w:Nat) 4=0) (hn:Int.tmod (n:Nat) 5=(j:Nat)) (hj:j<5) (hc:qqv 0 (62+j)):∃lo,ql pgL 3 [.d (.i .u8 (w:Nat)),.d (.i .u8 (n:Nat))] []=some ⟨false,true,.d (.b true),[],lo⟩:=by
 obtain ⟨e,he,hb⟩:=qGV (by omega) hc (n:=0) (H:=[]) _ 0 rfl (by omega)
 have k1:wr .u8 ((j:Nat):Int)=((j:Nat):Int):=qkN (by omega) (by omega)
 have k2:wr .i64 ((j:Nat):Int)=((j:Nat):Int):=qbe (by omega) (by omega)
 have k3:wr .i64 (62+((j:Nat):Int))=((62+j:Nat):Int):=by rw [qbe (by omega) (by omega)];omega
 have k4:wr .u8 (0:Int)=0:=qkN (by omega) (by omega)
 simp only [rep,Int.natCast_zero,qI3] at he
 rw [zf (fn:=qg) rfl rfl]
 simp only [qg,qY,qaU,Nat.zero_add,Nat.reduceAdd,qb8,qI3,yL,yN,je,zE,qlv,qcr,qbA,qfI,kU,zI,kQ,List.map_nil,qQ,yF,qjZ,kN,qP,Nat.min_self,qly,qlu,yd,yG,qq8,qI6,qI5,jf,zZ,jX,qI1,↓reduceIte,qaB,Nat.reduceEqDiff,j7,reduceCtorEq,yH,zG,qfQ,qc0,Bool.or_true,Int.reduceEq,qj4,hn,qcg,k2,Bool.or_false,qcn,k3,hw,jB,qhX,decide_true,jU,y4]
 simp only [he,qia,qjY,qgT,yu,qd0,hb,qmT,y5,qcd,qhr]
 all_goals exact ⟨_,rfl⟩
theorem qIO {w n j:Nat} (hw:Int.tmod (w:Nat) 4=1) (hn:Int.tmod (n:Nat) 5=(j:Nat)) (hj:j<5) (hc:qqv 1 (62+j)):∃lo,ql pgL 3 [.d (.i .u8 (w:Nat)),.d (.i .u8 (n:Nat))] []=some ⟨false,true,.d (.b true),[],lo⟩:=by
 obtain ⟨e,he,hb⟩:=qGR (by omega) hc (n:=0) (H:=[]) _ 0 rfl (by omega)
 have k1:wr .u8 ((j:Nat):Int)=((j:Nat):Int):=qkN (by omega) (by omega)
 have k2:wr .i64 ((j:Nat):Int)=((j:Nat):Int):=qbe (by omega) (by omega)
 have k3:wr .i64 (62+((j:Nat):Int))=((62+j:Nat):Int):=by rw [qbe (by omega) (by omega)];omega
 have k4:wr .u8 (1:Int)=1:=qkN (by omega) (by omega)
 simp only [rep,Int.natCast_zero,qI3] at he
 rw [zf (fn:=qg) rfl rfl]
 simp only [qg,qY,qaU,Nat.zero_add,Nat.reduceAdd,qb8,qI3,yL,yN,je,zE,qlv,qcr,qbA,qfI,kU,zI,kQ,List.map_nil,qQ,yF,qjZ,kN,qP,Nat.min_self,qly,qlu,yd,yG,qq8,qI6,qI5,jf,zZ,jX,qI1,↓reduceIte,qaB,Nat.reduceEqDiff,j7,reduceCtorEq,yH,zG,qfQ,qc0,Bool.or_true,Int.reduceEq,qj4,hn,qcg,k2,Bool.or_false,qcn,k3,hw,jB,qhX,decide_false,decide_true,jV,y4]
 simp only [he,qia,qjY,qgT,yu,qd0,hb,qmT,y5,qcd,qhr]
 all_goals exact ⟨_,rfl⟩
theorem qIS {w n j:Nat} (hw:Int.tmod (w:Nat) 4=2) (hn:Int.tmod (n:Nat) 5=(j:Nat)) (hj:j<5) (hc:qqv 2 (62+j)):∃lo,ql pgL 3 [.d (.i .u8 (w:Nat)),.d (.i .u8 (n:Nat))] []=some ⟨false,true,.d (.b true),[],lo⟩:=by
 obtain ⟨e,he,hb⟩:=qHN (by omega) hc (n:=0) (H:=[]) _ 0 rfl (by omega)
 have k1:wr .u8 ((j:Nat):Int)=((j:Nat):Int):=qkN (by omega) (by omega)
 have k2:wr .i64 ((j:Nat):Int)=((j:Nat):Int):=qbe (by omega) (by omega)
 have k3:wr .i64 (62+((j:Nat):Int))=((62+j:Nat):Int):=by rw [qbe (by omega) (by omega)];omega
 have k4:wr .u8 (2:Int)=2:=qkN (by omega) (by omega)
 simp only [rep,Int.natCast_zero,qI3] at he
 rw [zf (fn:=qg) rfl rfl]
 simp only [qg,qY,qaU,Nat.zero_add,Nat.reduceAdd,qb8,qI3,yL,yN,je,zE,qlv,qcr,qbA,qfI,kU,zI,kQ,List.map_nil,qQ,yF,qjZ,kN,qP,Nat.min_self,qly,qlu,yd,yG,qq8,qI6,qI5,jf,zZ,jX,qI1,↓reduceIte,qaB,Nat.reduceEqDiff,j7,reduceCtorEq,yH,zG,qfQ,qc0,Bool.or_true,Int.reduceEq,qj4,hn,qcg,k2,Bool.or_false,qcn,k3,hw,jB,qhX,decide_false,decide_true,jO,y4]
 simp only [he,qia,qjY,qgT,yu,qd0,hb,qmT,y5,qcd,qhr]
 all_goals exact ⟨_,rfl⟩
theorem qIQ {w n j:Nat} (hw:Int.tmod (w:Nat) 4=3) (hn:Int.tmod (n:Nat) 5=(j:Nat)) (hj:j<5) (hc:qqv 3 (5+j)):∃lo,ql pgL 3 [.d (.i .u8 (w:Nat)),.d (.i .u8 (n:Nat))] []=some ⟨false,true,.d (.b true),[],lo⟩:=by
 obtain ⟨e,he,hb⟩:=qHA (by omega) hc (n:=n) (by rw [hn];omega) (by omega) (H:=[]) _ 0 rfl (by omega)
 have k1:wr .u8 ((j:Nat):Int)=((j:Nat):Int):=qkN (by omega) (by omega)
 have k2:wr .i64 ((j:Nat):Int)=((j:Nat):Int):=qbe (by omega) (by omega)
 have k3:wr .i64 (62+((j:Nat):Int))=((62+j:Nat):Int):=by rw [qbe (by omega) (by omega)];omega
 have k4:wr .u8 (3:Int)=3:=qkN (by omega) (by omega)
 simp only [rep,Int.natCast_zero,qI3] at he
 rw [zf (fn:=qg) rfl rfl]
 simp only [qg,qY,qaU,Nat.zero_add,Nat.reduceAdd,qb8,qI3,yL,yN,je,zE,qlv,qcr,qbA,qfI,kU,zI,kQ,List.map_nil,qQ,yF,qjZ,kN,qP,Nat.min_self,qly,qlu,yd,yG,qq8,qI6,qI5,jf,zZ,jX,qI1,↓reduceIte,qaB,Nat.reduceEqDiff,j7,reduceCtorEq,yH,zG,qfQ,qc0,Bool.or_true,Int.reduceEq,qj4,hn,qcg,k2,Bool.or_false,qcn,k3,hw,jB,qhX,decide_false,qb7,qs,y4,qC,jR]
 simp only [he,qgT,yu,qd0,hb,qmT,y5,qcd,qhr]
 all_goals exact ⟨_,rfl⟩
theorem qlA (w j:Nat) (hw:w<4) (hj:j<5):qqv w ((bif qI0 w 3 then 5 else 62)+j):=by
 intro H
 have hj5:j=0∨j=1∨j=2∨j=3∨j=4:=by omega
 have hw4:w=0∨w=1∨w=2∨w=3:=by omega
 rcases hw4 with rfl|rfl|rfl|rfl<;>rcases hj5 with rfl|rfl|rfl|rfl|rfl
 ·exact ko (f:=8) (l:=[.s (src 0 62),.nil]) (o:=.one (.b true)) rfl (by kernel_rfl)
 ·exact ko (f:=8) (l:=[.s (src 0 63),.nil]) (o:=.one (.b true)) rfl (by kernel_rfl)
 ·exact ko (f:=8) (l:=[.s (src 0 64),.nil]) (o:=.one (.b true)) rfl (by kernel_rfl)
 ·exact ko (f:=8) (l:=[.s (src 0 65),.nil]) (o:=.one (.b true)) rfl (by kernel_rfl)
 ·exact ko (f:=8) (l:=[.s (src 0 66),.nil]) (o:=.one (.b true)) rfl (by kernel_rfl)
 ·exact ko (f:=8) (l:=[.s (src 1 62),.nil]) (o:=.one (.b true)) rfl (by kernel_rfl)
 ·exact ko (f:=8) (l:=[.s (src 1 63),.nil]) (o:=.one (.b true)) rfl (by kernel_rfl)
 ·exact ko (f:=8) (l:=[.s (src 1 64),.nil]) (o:=.one (.b true)) rfl (by kernel_rfl)
 ·exact ko (f:=8) (l:=[.s (src 1 65),.nil]) (o:=.one (.b true)) rfl (by kernel_rfl)
 ·exact ko (f:=8) (l:=[.s (src 1 66),.nil]) (o:=.one (.b true)) rfl (by kernel_rfl)
 ·exact ko (f:=8) (l:=[.s (src 2 62),.nil]) (o:=.one (.b true)) rfl (by kernel_rfl)
 ·exact ko (f:=8) (l:=[.s (src 2 63),.nil]) (o:=.one (.b true)) rfl (by kernel_rfl)
 ·exact ko (f:=8) (l:=[.s (src 2 64),.nil]) (o:=.one (.b true)) rfl (by kernel_rfl)
 ·exact ko (f:=8) (l:=[.s (src 2 65),.nil]) (o:=.one (.b true)) rfl (by kernel_rfl)
 ·exact ko (f:=8) (l:=[.s (src 2 66),.nil]) (o:=.one (.b true)) rfl (by kernel_rfl)
 ·exact ko (f:=8) (l:=[.s (src 3 5),.nil]) (o:=.one (.b true)) rfl (by kernel_rfl)
 ·exact ko (f:=8) (l:=[.s (src 3 6),.nil]) (o:=.one (.b true)) rfl (by kernel_rfl)
 ·exact ko (f:=8) (l:=[.s (src 3 7),.nil]) (o:=.one (.b true)) rfl (by kernel_rfl)
 ·exact ko (f:=8) (l:=[.s (src 3 8),.nil]) (o:=.one (.b true)) rfl (by kernel_rfl)
 ·exact ko (f:=8) (l:=[.s (src 3 9),.nil]) (o:=.one (.b true)) rfl (by kernel_rfl)
theorem qvE {w n:Nat}:∃lo,ql pgL 3 [.d (.i .u8 (w:Nat)),.d (.i .u8 (n:Nat))] []=some ⟨false,true,.d (.b true),[],lo⟩:=by
 have hn:Int.tmod (n:Nat) 5=((n % 5:Nat):Int):=rfl
 have hw:Int.tmod (w:Nat) 4=((w % 4:Nat):Int):=rfl
 have h4:w % 4=0∨w % 4=1∨w % 4=2∨w % 4=3:=by omega
 have h5:n % 5<5:=by omega
 rcases h4 with h|h|h|h<;>rw [h] at hw
 ·exact qIK hw hn h5 (qlA 0 _ (by omega) h5)
 ·exact qIO hw hn h5 (qlA 1 _ (by omega) h5)
 ·exact qIS hw hn h5 (qlA 2 _ (by omega) h5)
 ·exact qIQ hw hn h5 (qlA 3 _ (by omega) h5)
end W
/- What stands in for bytealg.IndexByteString does what it does. -/
set_option linter.unusedSimpArgs false
set_option linter.unusedVariables false
namespace W
open Go (World Value Addr IntKind Program TypeId FuncId Func Calls Code Result Oper)
theorem qzB (c:Nat):∀l:List UInt8,ixN (c % 256) (l.map (·.toNat))=Go.Lib.indexByte l c.toUInt8
 | []=>rfl
 | b::l=>by
  have ih:=qzB c l
  have hge:=Go.Lib.indexByte_ge l c.toUInt8
  have hb:qI0 b.toNat (c % 256)=(b == c.toUInt8):=by
   have hc:c.toUInt8.toNat=c % 256:=by simp [Nat.toUInt8]
   rw [←hc]
   by_cases h:b=c.toUInt8
   ·subst h;simp
   ·have h2:¬b.toNat=c.toUInt8.toNat:=fun e=>h (UInt8.toNat_inj.1 e)
    have h3:qI0 b.toNat c.toUInt8.toNat=false:=by rw [Bool.eq_false_iff];intro e;exact h2 (qIX e)
    rw [h3];symm;simpa using h
  simp only [List.map_cons,ixN,Go.Lib.indexByte,hb]
  cases b == c.toUInt8 with
  | true=>rfl
  | false=>
   simp only [cond_false,qI1,if_false]
   rw [ih]
   generalize Go.Lib.indexByte l c.toUInt8=v at hge ⊢
   cases v with
   | ofNat n=>simp
   | negSucc m=>
    have:m=0:=by omega
    subst this
    rfl
theorem qz9 {P:Program} {M:Maps} {K:FuncId} {fn:Func} (hf:P.funcs[K]?=some fn) (hname:(fn.name == "runtime.NumGoroutine")=false) (hb:fn.body.isNone=true) (hn:Go.Extern.findNext fn=none)
  (he:Go.Extern.find fn=some Go.Extern.BytealgIndexByte.indexByte) {g:Gh} {w:World} {vs:List V} {H:List Obj} {r:Cr} (h:ixX vs H=some r) {argv:List Value} (ha:ArgsRep M g w 0 vs argv) (hH:RelH M g w H) :
  qqi P K argv.toArray w (qJ M g w r):=by
 unfold ixX at h
 split at h
 ·rename_i t c
  cases h
  cases ha with
  | cons h0 ha=>cases ha with
   | cons h1 ha=>cases ha;cases h0 with
    | s h0=>cases h0 with
     | d _ _ h0=>cases h0 with
      | s _ x hx=>cases h1 with
       | s h1=>cases h1 with
        | d _ _ h1=>cases h1 with
         | i k n=>
          intro o a K Q hK hQ
          rw [Go.run_callFunc_extern hf hname hb hn he]
          have e:(#[Value.string x,.int .u8 (Int.ofNat c)]:Array Value)=[Value.string x,.int .u8 (Int.ofNat c)].toArray:=rfl
          rw [←e,Go.Lib.run_indexByteString]
          simp only [Result.andThen]
          rw [Oper.upon_value]
          refine hK _ _ ⟨rfl,g,hH,Evo.refl g w,.s (.d _ _ ?_)⟩
          rw [←hx,qzB]
          exact .i _ _
 ·cases h
end W
