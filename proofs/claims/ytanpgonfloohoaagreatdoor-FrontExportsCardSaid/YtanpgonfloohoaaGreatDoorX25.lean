/-
  FrontExports, part 25.
-/
import Derived.KernelRfl
import Derived.Lib.Bytealg
import Derived.Laws.Externs
import Derived.Test.YtanpgonfloohoaaGreatDoorX11
import Derived.Test.YtanpgonfloohoaaGreatDoorX12
import Derived.Test.YtanpgonfloohoaaGreatDoorX13
import Derived.Test.YtanpgonfloohoaaGreatDoorX14
import Derived.Test.YtanpgonfloohoaaGreatDoorX15
import Derived.Test.YtanpgonfloohoaaGreatDoorX16
import Derived.Test.YtanpgonfloohoaaGreatDoorX17
import Derived.Test.YtanpgonfloohoaaGreatDoorX18
import Derived.Test.YtanpgonfloohoaaGreatDoorX19
import Derived.Test.YtanpgonfloohoaaGreatDoorX20
import Derived.Test.YtanpgonfloohoaaGreatDoorX21
import Derived.Test.YtanpgonfloohoaaGreatDoorX22
import Derived.Test.YtanpgonfloohoaaGreatDoorX23
import Derived.Test.YtanpgonfloohoaaGreatDoorX24
/- What the tables say, the code says. -/
open Bool renaming cond_eq_ite→qM3,and_eq_true→qM4,false_eq_true→qNa,not_true→qNd,and_self→qNf
open Nat renaming eq_of_beq_eq_true→qM5,le_refl→qM7,beq→qM8,zero_add→qNe
open Option renaming bind_eq_some_iff→qM6,bind_eq_bind→qM9,pure_def→qNb,map_some→qNc
namespace W
theorem qe {P:Bool→Bool} (h1:P false=true) (h2:P true=true):qd P=true:=by simp only [qd,h1,h2,qNf]
theorem qLm:(qd fun b0=>qd fun b1=>qd fun b2=>qd fun b3=>qd fun b4=>qd fun b5=>yq b0 b1 b2 b3 b4 b5)=true:=(qe (qe (qe (qe (qe qC7 qCs) (qe qCV qFm)) (qe (qe qCO qDS) (qe qEB qC5))) (qe (qe (qe qDM qEE) (qe qEW qE8)) (qe (qe qDu qEy) (qe qET qEc)))) (qe (qe (qe (qe qFc qEi) (qe qCA qEr)) (qe (qe qD4 qDJ) (qe qEd qEf))) (qe (qe (qe qCY qFi) (qe qEl qDw)) (qe (qe qCS qEh) (qe qCQ qCU)))))
theorem qMy (b0 b1 b2 b3 b4 b5:Bool):qc7 (eL b0 b1 b2 b3 b4 b5):=qFn (qao (qao (qao (qao (qao (qao qLm b0) b1) b2) b3) b4) b5)
theorem qpp {u:Nat} (hs:qqt u=true) (h:(qd fun b0=>qd fun b1=>qd fun b2=>qd fun b3=>qd fun b4=>qd fun b5=>qZ u b0 b1 b2 b3 b4 b5)=true) (b0 b1 b2 b3 b4 b5:Bool):qc7 (eF b0 b1 b2 b3 b4 b5 u)∧qc7 (eR b0 b1 b2 b3 b4 b5 u):=qFo (qyd hs).1 (qyd hs).2 (qao (qao (qao (qao (qao (qao h b0) b1) b2) b3) b4) b5)
theorem m_0 (b0 b1 b2 b3 b4 b5:Bool):qc7 (eF b0 b1 b2 b3 b4 b5 0)∧qc7 (eR b0 b1 b2 b3 b4 b5 0):=qpp qMZ (qe (qe (qe qEs qFa) (qe qES qDj)) (qe (qe qDo qEa) (qe qEK qC8))) b0 b1 b2 b3 b4 b5
theorem m_1 (b0 b1 b2 b3 b4 b5:Bool):qc7 (eF b0 b1 b2 b3 b4 b5 1)∧qc7 (eR b0 b1 b2 b3 b4 b5 1):=qpp qMQ (qe (qe (qe qEe qEJ) (qe qDp qED)) (qe (qe qCu qE3) (qe qE6 qDT))) b0 b1 b2 b3 b4 b5
theorem m_2 (b0 b1 b2 b3 b4 b5:Bool):qc7 (eF b0 b1 b2 b3 b4 b5 2)∧qc7 (eR b0 b1 b2 b3 b4 b5 2):=qpp qM2 (qe (qe (qe qEY qCt) (qe qD1 qCz)) (qe (qe qDi qEt) (qe qDa qCX))) b0 b1 b2 b3 b4 b5
theorem m_3 (b0 b1 b2 b3 b4 b5:Bool):qc7 (eF b0 b1 b2 b3 b4 b5 3)∧qc7 (eR b0 b1 b2 b3 b4 b5 3):=qpp qMY (qe (qe (qe qEC qEn) (qe qEk qDU)) (qe (qe qDm qE7) (qe qCN qEb))) b0 b1 b2 b3 b4 b5
theorem m_4 (b0 b1 b2 b3 b4 b5:Bool):qc7 (eF b0 b1 b2 b3 b4 b5 4)∧qc7 (eR b0 b1 b2 b3 b4 b5 4):=qpp qMG (qe (qe (qe qER qCI) (qe qEv qCM)) (qe (qe qC1 qDL) (qe qDQ qD0))) b0 b1 b2 b3 b4 b5
theorem m_5 (b0 b1 b2 b3 b4 b5:Bool):qc7 (eF b0 b1 b2 b3 b4 b5 5)∧qc7 (eR b0 b1 b2 b3 b4 b5 5):=qpp qMJ (qe (qe (qe qDc qCB) (qe qDF qC3)) (qe (qe qFh qEA) (qe qDs qCG))) b0 b1 b2 b3 b4 b5
theorem m_6 (b0 b1 b2 b3 b4 b5:Bool):qc7 (eF b0 b1 b2 b3 b4 b5 6)∧qc7 (eR b0 b1 b2 b3 b4 b5 6):=qpp qML (qe (qe (qe qDO qDA) (qe qCH qCC)) (qe (qe qFp qEp) (qe qCF qDz))) b0 b1 b2 b3 b4 b5
theorem m_7 (b0 b1 b2 b3 b4 b5:Bool):qc7 (eF b0 b1 b2 b3 b4 b5 7)∧qc7 (eR b0 b1 b2 b3 b4 b5 7):=qpp qMt (qe (qe (qe qEj qDd) (qe qD5 qEg)) (qe (qe qC2 qCK) (qe qC9 qFe))) b0 b1 b2 b3 b4 b5
theorem qLv {b0 b1 b2 b3 b4 b5:Bool}:∀u,u<8→qc7 (eF b0 b1 b2 b3 b4 b5 u)∧qc7 (eR b0 b1 b2 b3 b4 b5 u)
 | 0,_=>m_0 b0 b1 b2 b3 b4 b5
 | 1,_=>m_1 b0 b1 b2 b3 b4 b5
 | 2,_=>m_2 b0 b1 b2 b3 b4 b5
 | 3,_=>m_3 b0 b1 b2 b3 b4 b5
 | 4,_=>m_4 b0 b1 b2 b3 b4 b5
 | 5,_=>m_5 b0 b1 b2 b3 b4 b5
 | 6,_=>m_6 b0 b1 b2 b3 b4 b5
 | 7,_=>m_7 b0 b1 b2 b3 b4 b5
 | n+8,h=>absurd h (by omega)
theorem qKS:∀u,(eSa u).Ok pg1
 | 0=>qMO
 | 1=>qMU
 | 2=>qMB
 | 3=>qMM
 | 4=>qMW
 | _+5=>qMl
theorem qF6 {b0 b1 b2 b3 b4 b5:Bool} {u:Nat} (hu:u<8):∀e ∈ feL b0 b1 b2 b3 b4 b5 u,e.Ok pg1∨qc7 e:=by
 simp only [feL,List.forall_mem_cons]
 exact ⟨.inl qC0,.inr (qMy ..),.inr (qLv u hu).1,.inr (qLv u hu).2,.inl (qKS u),fun _ h=>by cases h⟩
end W
/- FrontExports: of another module just what it exports may be named, and how it stands in the tree. -/
set_option linter.unusedSimpArgs false
set_option linter.unusedVariables false
namespace W
open Go (IntKind BinOp UnOp)
set_option maxRecDepth 20000
set_option linter.defProp false in
def qmf:=(And.intro (And.intro (And.intro (And.intro (And.intro (And.intro (And.intro @qA9 @qmK) (And.intro @qhB @qnO)) (And.intro (And.intro @qqx @qkN) (And.intro @qql @qw0))) (And.intro (And.intro (And.intro @quL @qq1) (And.intro @qpQ @qoM)) (And.intro (And.intro @qtw @qto) (And.intro @qsN @qo3)))) (And.intro (And.intro (And.intro (And.intro @qIh @qs4) (And.intro @qsY @qxt)) (And.intro (And.intro @qiN @qqV) (And.intro @qoy @qIy))) (And.intro (And.intro (And.intro @qsP @qtV) (And.intro @qmI @qre)) (And.intro (And.intro @qCT @qom) (And.intro @qmE @qpW))))) (And.intro (And.intro (And.intro (And.intro (And.intro @qrw @qAG) (And.intro @qsS @qyH)) (And.intro (And.intro @qq6 @qyk) (And.intro @qBZ @qAH))) (And.intro (And.intro (And.intro @qDD @qzc) (And.intro @qKU @qsC)) (And.intro (And.intro @qJZ @qxq) (And.intro @qnG @qjF)))) (And.intro (And.intro (And.intro (And.intro @qgo @qmN) (And.intro @qjz @qaC)) (And.intro (And.intro @qmy @qr3) (And.intro @qoR @qqg))) (And.intro (And.intro (And.intro @qs9 @qAM) (And.intro @qGs @qiY)) (And.intro (And.intro @qDv @qtC) (And.intro @qwl (And.intro @qt3 @qwi))))))) (And.intro (And.intro (And.intro (And.intro (And.intro (And.intro @qst @zS) (And.intro @jt @qFN)) (And.intro (And.intro @qpr @qzO) (And.intro @qBd @qqS))) (And.intro (And.intro (And.intro @qwd @qxS) (And.intro @qB3 @qqF)) (And.intro (And.intro @qpw @qq9) (And.intro @qqr @qAI)))) (And.intro (And.intro (And.intro (And.intro @qvr @qEP) (And.intro @zT @qnJ)) (And.intro (And.intro @qEQ @qBL) (And.intro @qvE @qlQ))) (And.intro (And.intro (And.intro @qrI @qsn) (And.intro @qxw @qJf)) (And.intro (And.intro @qpb @qur) (And.intro @qH1 (And.intro @qoo @qwq)))))) (And.intro (And.intro (And.intro (And.intro (And.intro @qAu @qwe) (And.intro @qsW @qth)) (And.intro (And.intro @qIL @qE4) (And.intro @qyN @qzo))) (And.intro (And.intro (And.intro @qrb @qAm) (And.intro @qoc @qBX)) (And.intro (And.intro @qFA @qqa) (And.intro @qjf @qat)))) (And.intro (And.intro (And.intro (And.intro @qGl @qpN) (And.intro @qm9 @qkA)) (And.intro (And.intro @qmJ @qzr) (And.intro @qDl @jF))) (And.intro (And.intro (And.intro @qp7 @qI7) (And.intro @qwo @qyC)) (And.intro (And.intro @qpM @qBI) (And.intro @qBC (And.intro @qEw @qpS))))))))
def pgL (b0 b1 b2 b3 b4 b5:Bool) (u:Nat):Pg:=⟨fun n=>bif qM8 n 4 then some qb else bif qM8 n 9 then some q9 else none,qrM (feL b0 b1 b2 b3 b4 b5 u)⟩
theorem qC4 {b0 b1 b2 b3 b4 b5:Bool} {u:Nat}:qy (pgL b0 b1 b2 b3 b4 b5 u).ext:=qxQ
mutual
theorem qk8:∀x:D,eqD x x=true
 | .b x=>by cases x<;>rfl
 | .i k x=>by simp only [eqD,qxP,qM4,decide_true,and_true];cases k<;>rfl
 | .s x=>by simp only [eqD,qx5,decide_true]
 | .nil=>rfl
 | .sl l=>by simp only [eqD];exact qoE l
 | .agg l=>by simp only [eqD];exact qoE l
 | .np=>rfl
 | .nf=>rfl
 | .ni=>rfl
 | .nm=>rfl
theorem qoE:∀l:List D,qrH l l=true
 | []=>by simp only [qrH]
 | x::l=>by simp only [qrH,qk8 x,qoE l,qNf]
end
section
variable {b0 b1 b2 b3 b4 b5:Bool} {u:Nat} {H:List Obj}
theorem qlz {f:Nat} {vs:List V} {e:Ent} (h0:(qM8 f 4 || qM8 f 9)=false) (h:pick f vs (feL b0 b1 b2 b3 b4 b5 u)=some e):qf (pgL b0 b1 b2 b3 b4 b5 u) f vs H=some ⟨false,true,e.r.v,H,H.length⟩:=by
 rw [Bool.or_eq_false_iff] at h0
 rw [qod]
 have:(pgL b0 b1 b2 b3 b4 b5 u).fn f=none:=by simp only [pgL,h0.1,h0.2,cond_false]
 simp only [qq,this]
 show qrM (feL b0 b1 b2 b3 b4 b5 u) f vs H=_
 simp only [qrM,h]
theorem qaZ:qf (pgL b0 b1 b2 b3 b4 b5 u) 7 [] H=some ⟨false,true,.d (.b true),H,H.length⟩:=qlz (e:=fe_k) rfl rfl
theorem qKF:qf (pgL b0 b1 b2 b3 b4 b5 u) 10 [.d (.s (sL b0 b1 b2 b3 b4 b5)),.d .nil] H=some ⟨false,true,.tup [.d (lM b0 b1 b2 b3 b4 b5),.d (.i .i64 0)],H,H.length⟩:=qlz (e:=eL b0 b1 b2 b3 b4 b5) rfl (by
 simp only [pick,feL,fe_k,eL,qkv,qk8,qNf,show qM8 7 10=false from rfl,show qM8 10 10=true from rfl,Bool.false_and,cond_false,cond_true])
theorem qpA:qf (pgL b0 b1 b2 b3 b4 b5 u) 11 [.d (.s (sM u)),.d (.sl [lM b0 b1 b2 b3 b4 b5])] H=some ⟨false,true,(oF u (wrong b0 b1 b2 b3 b4 b5 u)).v,H,H.length⟩:=qlz (e:=eF b0 b1 b2 b3 b4 b5 u) rfl (by
 simp only [pick,feL,fe_k,eL,eF,qkv,qk8,qNf,show qM8 7 11=false from rfl,show qM8 10 11=false from rfl,show qM8 11 11=true from rfl,Bool.false_and,cond_false,cond_true])
theorem qpe:qf (pgL b0 b1 b2 b3 b4 b5 u) 10 [.d (.s (sM u)),.d (.sl [lM b0 b1 b2 b3 b4 b5])] H=some ⟨false,true,(oR u (wrong b0 b1 b2 b3 b4 b5 u)).v,H,H.length⟩:=qlz (e:=eR b0 b1 b2 b3 b4 b5 u) rfl (by
 have e:∀l,eqD (.sl l) .nil=false:=fun l=>by simp only [eqD]
 simp only [pick,feL,fe_k,eL,eF,eR,qkv,qk8,e,qNf,Bool.and_false,show qM8 7 10=false from rfl,show qM8 11 10=false from rfl,show qM8 10 10=true from rfl,Bool.false_and,cond_false,cond_true])
theorem qsm:qf (pgL b0 b1 b2 b3 b4 b5 u) 12 [.d (tre u),.d (tre u)] H=some ⟨false,true,.d (.b true),H,H.length⟩:=qlz (e:=eSa u) rfl (by
 simp only [pick,feL,fe_k,eL,eF,eR,eSa,qkv,qk8,qNf,show qM8 7 12=false from rfl,show qM8 11 12=false from rfl,show qM8 10 12=false from rfl,show qM8 12 12=true from rfl,Bool.false_and,cond_false,cond_true])
theorem qGv:∀m:Fin 256,∀i:Fin 6,decide (qlW .u8 (Int.fdiv (m.val:Int) (2 ^ (min i.val 8))) 1=1)=m.val.testBit i.val:=by decide +kernel
theorem qHH:∀m:Fin 256,decide (0<qlW .u8 (m.val:Int) 1)=m.val.testBit 0∧decide (0<qlW .u8 (m.val:Int) 2)=m.val.testBit 1∧decide (0<qlW .u8 (m.val:Int) 4)=m.val.testBit 2∧decide (0<qlW .u8 (m.val:Int) 8)=m.val.testBit 3∧decide (0<qlW .u8 (m.val:Int) 16)=m.val.testBit 4∧decide (0<qlW .u8 (m.val:Int) 32)=m.val.testBit 5:=by decide +kernel
theorem qeZ {m i:Nat} (hm:m<256) (hi:i<6):qf (pgL b0 b1 b2 b3 b4 b5 u) 9 [.d (.i .u8 (m:Nat)),.d (.i .i64 (i:Nat))] H=some ⟨false,true,.d (.s (mk (m.testBit i))),H,H.length⟩:=by
 have h:=qGv ⟨m,hm⟩ ⟨i,hi⟩
 simp only at h
 have h0:((0:Int)≤(i:Nat))=True:=by simp
 have hb:IntKind.bits .u8=8:=rfl
 rw [qR (fn:=q9) rfl rfl]
 cases hc:m.testBit i<;>rw [hc] at h
 ·have h1:(qlW .u8 (Int.fdiv (m:Int) (2 ^ (min i 8))) 1=1)=False:=by simpa using h
  simp only [qmf,q9,qNe,Nat.reduceAdd,reduceCtorEq,Nat.reduceEqDiff,Bool.or_self,h0,qxJ,Int.toNat_natCast,hb,Bool.or_true,h1,decide_false,qNa,↓reduceIte,qx1,qn7,qQ,mk,cond_false]
  all_goals rfl
 ·have h1:(qlW .u8 (Int.fdiv (m:Int) (2 ^ (min i 8))) 1=1)=True:=by simpa using h
  simp only [qmf,q9,qNe,Nat.reduceAdd,reduceCtorEq,Nat.reduceEqDiff,Bool.or_self,h0,qxJ,Int.toNat_natCast,hb,Bool.or_true,h1,decide_true,↓reduceIte,qsA,qx1,qn7,qQ,mk,cond_true]
  all_goals rfl
theorem qoZ {b:Bool}:(mk b).length≤1:=by cases b<;>decide
theorem cats {k0 k1 k2 k3 k4 k5:List Nat} (l0:k0.length≤1) (l1:k1.length≤1) (l2:k2.length≤1) (l3:k3.length≤1) (l4:k4.length≤1) (l5:k5.length≤1) :
  (∀c,yu .add .num c (.d (.s (pL0))) (.d (.s k0))=some (.d (.s (pL0++k0))))∧
  (∀c,yu .add .num c (.d (.s (pL0++k0))) (.d (.s pL1))=some (.d (.s ((pL0++k0)++pL1))))∧
  (∀c,yu .add .num c (.d (.s ((pL0++k0)++pL1))) (.d (.s k1))=some (.d (.s (((pL0++k0)++pL1)++k1))))∧
  (∀c,yu .add .num c (.d (.s (((pL0++k0)++pL1)++k1))) (.d (.s pL2))=some (.d (.s ((((pL0++k0)++pL1)++k1)++pL2))))∧
  (∀c,yu .add .num c (.d (.s ((((pL0++k0)++pL1)++k1)++pL2))) (.d (.s k2))=some (.d (.s (((((pL0++k0)++pL1)++k1)++pL2)++k2))))∧
  (∀c,yu .add .num c (.d (.s (((((pL0++k0)++pL1)++k1)++pL2)++k2))) (.d (.s pL3))=some (.d (.s ((((((pL0++k0)++pL1)++k1)++pL2)++k2)++pL3))))∧
  (∀c,yu .add .num c (.d (.s ((((((pL0++k0)++pL1)++k1)++pL2)++k2)++pL3))) (.d (.s k3))=some (.d (.s (((((((pL0++k0)++pL1)++k1)++pL2)++k2)++pL3)++k3))))∧
  (∀c,yu .add .num c (.d (.s (((((((pL0++k0)++pL1)++k1)++pL2)++k2)++pL3)++k3))) (.d (.s pL4))=some (.d (.s ((((((((pL0++k0)++pL1)++k1)++pL2)++k2)++pL3)++k3)++pL4))))∧
  (∀c,yu .add .num c (.d (.s ((((((((pL0++k0)++pL1)++k1)++pL2)++k2)++pL3)++k3)++pL4))) (.d (.s k4))=some (.d (.s (((((((((pL0++k0)++pL1)++k1)++pL2)++k2)++pL3)++k3)++pL4)++k4))))∧
  (∀c,yu .add .num c (.d (.s (((((((((pL0++k0)++pL1)++k1)++pL2)++k2)++pL3)++k3)++pL4)++k4))) (.d (.s pL5))=some (.d (.s ((((((((((pL0++k0)++pL1)++k1)++pL2)++k2)++pL3)++k3)++pL4)++k4)++pL5))))∧
  (∀c,yu .add .num c (.d (.s ((((((((((pL0++k0)++pL1)++k1)++pL2)++k2)++pL3)++k3)++pL4)++k4)++pL5))) (.d (.s k5))=some (.d (.s (((((((((((pL0++k0)++pL1)++k1)++pL2)++k2)++pL3)++k3)++pL4)++k4)++pL5)++k5))))∧
  (∀c,yu .add .num c (.d (.s (((((((((((pL0++k0)++pL1)++k1)++pL2)++k2)++pL3)++k3)++pL4)++k4)++pL5)++k5))) (.d (.s pL6))=some (.d (.s ((((((((((((pL0++k0)++pL1)++k1)++pL2)++k2)++pL3)++k3)++pL4)++k4)++pL5)++k5)++pL6)))):=by
 have p:pL0.length≤1000∧pL1.length≤1000∧pL2.length≤1000∧pL3.length≤1000∧pL4.length≤1000∧pL5.length≤1000∧pL6.length≤1000:=by decide
 refine ⟨?_,?_,?_,?_,?_,?_,?_,?_,?_,?_,?_,?_⟩<;>exact fun c=>qvE (by (try simp only [List.length_append]);omega)
def uS:D:=.sl [.s [66,69,71,73,78,32,105,32,58,61,32,76,46,99],.s [86,65,82,32,114,58,32,76,46,82,59,32,66,69,71,73,78,32,114,46,120,32,58,61,32,49],.s [86,65,82,32,97,58,32,76,46,65,59,32,66,69,71,73,78,32,97,91,49,93,32,58,61,32,105],.s [66,69,71,73,78,32,105,32,58,61,32,76,46,118],.s [66,69,71,73,78,32,105,32,58,61,32,76,46,102,40,50,41],.s [66,69,71,73,78,32,76,46,112,40,105,41],.s [66,69,71,73,78,32,76,46,118,32,58,61,32,49],.s [66,69,71,73,78,32,76,46,112,40,76,46,118,41]]
def xA:List Nat:=[77,79,68,85,76,69,32,77,59,32,73,77,80,79,82,84,32,76,59,32,86,65,82,32]
def xE:List Nat:=[32,69,78,68,32,77,46]
def xI:List Nat:=[105,58,32,73,78,84,69,71,69,82,59,32]
theorem marks {m u:Nat} (hm:m<256) {b0 b1 b2 b3 b4 b5:Bool} (q:m.testBit 0=b0∧m.testBit 1=b1∧m.testBit 2=b2∧m.testBit 3=b3∧m.testBit 4=b4∧m.testBit 5=b5):∃k0 k1 k2 k3 k4 k5:List Nat,(k0.length≤1∧k1.length≤1∧k2.length≤1∧k3.length≤1∧k4.length≤1∧k5.length≤1)∧((∀H,qf (pgL b0 b1 b2 b3 b4 b5 u) 9 [.d (.i .u8 (m:Nat)),.d (.i .i64 0)] H=some ⟨false,true,.d (.s k0),H,H.length⟩)∧(∀H,qf (pgL b0 b1 b2 b3 b4 b5 u) 9 [.d (.i .u8 (m:Nat)),.d (.i .i64 1)] H=some ⟨false,true,.d (.s k1),H,H.length⟩)∧(∀H,qf (pgL b0 b1 b2 b3 b4 b5 u) 9 [.d (.i .u8 (m:Nat)),.d (.i .i64 2)] H=some ⟨false,true,.d (.s k2),H,H.length⟩)∧(∀H,qf (pgL b0 b1 b2 b3 b4 b5 u) 9 [.d (.i .u8 (m:Nat)),.d (.i .i64 3)] H=some ⟨false,true,.d (.s k3),H,H.length⟩)∧(∀H,qf (pgL b0 b1 b2 b3 b4 b5 u) 9 [.d (.i .u8 (m:Nat)),.d (.i .i64 4)] H=some ⟨false,true,.d (.s k4),H,H.length⟩)∧(∀H,qf (pgL b0 b1 b2 b3 b4 b5 u) 9 [.d (.i .u8 (m:Nat)),.d (.i .i64 5)] H=some ⟨false,true,.d (.s k5),H,H.length⟩))∧(decide (0<qlW .u8 (m:Int) 1)=b0∧decide (0<qlW .u8 (m:Int) 2)=b1∧decide (0<qlW .u8 (m:Int) 4)=b2∧decide (0<qlW .u8 (m:Int) 8)=b3∧decide (0<qlW .u8 (m:Int) 16)=b4∧decide (0<qlW .u8 (m:Int) 32)=b5)∧(∀H,qf (pgL b0 b1 b2 b3 b4 b5 u) 10 [.d (.s ((((((((((((pL0++k0)++pL1)++k1)++pL2)++k2)++pL3)++k3)++pL4)++k4)++pL5)++k5)++pL6)),.d .nil] H=some ⟨false,true,.tup [.d (lM b0 b1 b2 b3 b4 b5),.d (.i .i64 0)],H,H.length⟩):=by
 obtain ⟨rfl,rfl,rfl,rfl,rfl,rfl⟩:=q
 exact ⟨_,_,_,_,_,_,⟨qoZ,qoZ,qoZ,qoZ,qoZ,qoZ⟩,⟨fun H=>qeZ (i:=0) (H:=H) hm (by omega),fun H=>qeZ (i:=1) (H:=H) hm (by omega),fun H=>qeZ (i:=2) (H:=H) hm (by omega),fun H=>qeZ (i:=3) (H:=H) hm (by omega),fun H=>qeZ (i:=4) (H:=H) hm (by omega),fun H=>qeZ (i:=5) (H:=H) hm (by omega)⟩,qHH ⟨m,hm⟩,fun H=>qKF⟩
theorem qMp {m c:Nat} (hm:m<256) (hu:Int.tmod (c:Nat) 8=0) {b0 b1 b2 b3 b4 b5:Bool} (q:m.testBit 0=b0∧m.testBit 1=b1∧m.testBit 2=b2∧m.testBit 3=b3∧m.testBit 4=b4∧m.testBit 5=b5):∃lo,qf (pgL b0 b1 b2 b3 b4 b5 0) 4 [.d (.i .u8 (m:Nat)),.d (.i .u8 (c:Nat))] []=some ⟨false,true,.d (.b true),[],lo⟩:=by
 obtain ⟨k0,k1,k2,k3,k4,k5,⟨l0,l1,l2,l3,l4,l5⟩,⟨w0,w1,w2,w3,w4,w5⟩,⟨a0,a1,a2,a3,a4,a5⟩,h_L⟩:=marks (u:=0) hm q
 have h_F:∀H,qf (pgL b0 b1 b2 b3 b4 b5 0) 11 [.d (.s ((xA++(xI++[66,69,71,73,78,32,105,32,58,61,32,76,46,99]))++xE)),.d (.sl [lM b0 b1 b2 b3 b4 b5])] H=_:=fun H=>qpA (u:=0) (H:=H)
 have h_R:∀H,qf (pgL b0 b1 b2 b3 b4 b5 0) 10 [.d (.s ((xA++(xI++[66,69,71,73,78,32,105,32,58,61,32,76,46,99]))++xE)),.d (.sl [lM b0 b1 b2 b3 b4 b5])] H=_:=fun H=>qpe (u:=0) (H:=H)
 have h_S:∀H,qf (pgL b0 b1 b2 b3 b4 b5 0) 12 [.d (tre 0),.d (tre 0)] H=_:=fun H=>qsm (u:=0) (H:=H)
 obtain ⟨c0,c1,c2,c3,c4,c5,c6,c7,c8,c9,c10,c11⟩:=cats l0 l1 l2 l3 l4 l5
 simp only [pL0,pL1,pL2,pL3,pL4,pL5,pL6] at h_L c0 c1 c2 c3 c4 c5 c6 c7 c8 c9 c10 c11
 simp only [xA,xE,xI] at h_F h_R
 have i1:iaV (.d uS) (.d (.i .u8 0)) 1 none=some (.cp (.s [66,69,71,73,78,32,105,32,58,61,32,76,46,99])):=jR (by decide) rfl (by simp [D.cells])
 simp only [uS] at i1
 have i2:iaV (.d (.sl [.b b0,.b b1,.b b2,.b b3,.b b4,.b b5,.b false,.b false])) (.d (.i .u8 0)) 1 none=some (.cp (.b b0)):=jR (by decide) rfl (by simp [D.cells])
 have k4:wr .u8 (0:Int)=0:=qpu (by omega) (by omega)
 rw [qR (fn:=qb) rfl rfl]
 simp only [lM,tre,oF,oR,wrong,bad,Out.v,cond_true,cond_false] at h_L h_F h_R h_S
 cases b0<;>simp only [cond_true,cond_false] at h_L h_F h_R h_S
 all_goals simp only [qmf,qb,qNe,Nat.reduceAdd,List.length_nil,List.map_nil,qaZ,Nat.min_self,qNd,qNc,qNa,↓reduceIte,reduceCtorEq,List.map_cons,qNf,w0,Bool.or_false,c0,Bool.or_true,c1,w1,Bool.or_self,Nat.reduceEqDiff,c2,c3,w2,c4,c5,w3,c6,c7,w4,c8,c9,w5,c10,c11,h_L,List.length_cons,decide_true,List.reduceReplicate,Nat.reduceLT,List.set_cons_zero,List.set_cons_succ,Int.reduceEq,hu,i1,decide_false,Bool.not_false,Nat.reduceLeDiff,List.length_append,List.drop_zero,List.take_succ_cons,List.take_zero,h_F,h_R,a0,a1,a2,a3,a4,a5,i2,Int.cast_ofNat_Int,beq_self_eq_true,beq_false,Bool.not_eq_true',decide_eq_false_iff_not,h_S]
 all_goals exact ⟨_,rfl⟩
theorem qMn {m c:Nat} (hm:m<256) (hu:Int.tmod (c:Nat) 8=1) {b0 b1 b2 b3 b4 b5:Bool} (q:m.testBit 0=b0∧m.testBit 1=b1∧m.testBit 2=b2∧m.testBit 3=b3∧m.testBit 4=b4∧m.testBit 5=b5):∃lo,qf (pgL b0 b1 b2 b3 b4 b5 1) 4 [.d (.i .u8 (m:Nat)),.d (.i .u8 (c:Nat))] []=some ⟨false,true,.d (.b true),[],lo⟩:=by
 obtain ⟨k0,k1,k2,k3,k4,k5,⟨l0,l1,l2,l3,l4,l5⟩,⟨w0,w1,w2,w3,w4,w5⟩,⟨a0,a1,a2,a3,a4,a5⟩,h_L⟩:=marks (u:=1) hm q
 have h_F:∀H,qf (pgL b0 b1 b2 b3 b4 b5 1) 11 [.d (.s ((xA++[114,58,32,76,46,82,59,32,66,69,71,73,78,32,114,46,120,32,58,61,32,49])++xE)),.d (.sl [lM b0 b1 b2 b3 b4 b5])] H=_:=fun H=>qpA (u:=1) (H:=H)
 have h_R:∀H,qf (pgL b0 b1 b2 b3 b4 b5 1) 10 [.d (.s ((xA++[114,58,32,76,46,82,59,32,66,69,71,73,78,32,114,46,120,32,58,61,32,49])++xE)),.d (.sl [lM b0 b1 b2 b3 b4 b5])] H=_:=fun H=>qpe (u:=1) (H:=H)
 have h_S:∀H,qf (pgL b0 b1 b2 b3 b4 b5 1) 12 [.d (tre 1),.d (tre 1)] H=_:=fun H=>qsm (u:=1) (H:=H)
 obtain ⟨c0,c1,c2,c3,c4,c5,c6,c7,c8,c9,c10,c11⟩:=cats l0 l1 l2 l3 l4 l5
 simp only [pL0,pL1,pL2,pL3,pL4,pL5,pL6] at h_L c0 c1 c2 c3 c4 c5 c6 c7 c8 c9 c10 c11
 simp only [xA,xE,xI] at h_F h_R
 have i1:iaV (.d uS) (.d (.i .u8 1)) 1 none=some (.cp (.s [86,65,82,32,114,58,32,76,46,82,59,32,66,69,71,73,78,32,114,46,120,32,58,61,32,49])):=jR (by decide) rfl (by simp [D.cells])
 simp only [uS] at i1
 have i2:iaV (.d (.sl [.b b0,.b b1,.b b2,.b b3,.b b4,.b b5,.b false,.b false])) (.d (.i .u8 1)) 1 none=some (.cp (.b b1)):=jR (by decide) rfl (by simp [D.cells])
 have k4:wr .u8 (1:Int)=1:=qpu (by omega) (by omega)
 have s1:qdE (.d (.s [86,65,82,32,114,58,32,76,46,82,59,32,66,69,71,73,78,32,114,46,120,32,58,61,32,49])) (some 4) none=some (.d (.s [114,58,32,76,46,82,59,32,66,69,71,73,78,32,114,46,120,32,58,61,32,49])):=rfl
 rw [qR (fn:=qb) rfl rfl]
 simp only [lM,tre,oF,oR,wrong,bad,Out.v,cond_true,cond_false] at h_L h_F h_R h_S
 cases b1<;>simp only [cond_true,cond_false] at h_L h_F h_R h_S
 all_goals simp only [qmf,qb,qNe,Nat.reduceAdd,List.length_nil,List.map_nil,qaZ,Nat.min_self,qNd,qNc,qNa,↓reduceIte,reduceCtorEq,List.map_cons,qNf,w0,Bool.or_false,c0,Bool.or_true,c1,w1,Bool.or_self,Nat.reduceEqDiff,c2,c3,w2,c4,c5,w3,c6,c7,w4,c8,c9,w5,c10,c11,h_L,List.length_cons,decide_true,List.reduceReplicate,Nat.reduceLT,List.set_cons_zero,List.set_cons_succ,Int.reduceEq,hu,i1,qeo,qg5,qtW,qha,qlF,s1,Nat.reduceLeDiff,List.length_append,decide_false,List.drop_zero,List.take_succ_cons,List.take_zero,h_F,h_R,a0,a1,a2,a3,a4,a5,i2,Int.cast_ofNat_Int,beq_self_eq_true,beq_false,Bool.not_eq_true',decide_eq_false_iff_not,Bool.not_false,h_S]
 all_goals exact ⟨_,rfl⟩
theorem qMT {m c:Nat} (hm:m<256) (hu:Int.tmod (c:Nat) 8=2) {b0 b1 b2 b3 b4 b5:Bool} (q:m.testBit 0=b0∧m.testBit 1=b1∧m.testBit 2=b2∧m.testBit 3=b3∧m.testBit 4=b4∧m.testBit 5=b5):∃lo,qf (pgL b0 b1 b2 b3 b4 b5 2) 4 [.d (.i .u8 (m:Nat)),.d (.i .u8 (c:Nat))] []=some ⟨false,true,.d (.b true),[],lo⟩:=by
 obtain ⟨k0,k1,k2,k3,k4,k5,⟨l0,l1,l2,l3,l4,l5⟩,⟨w0,w1,w2,w3,w4,w5⟩,⟨a0,a1,a2,a3,a4,a5⟩,h_L⟩:=marks (u:=2) hm q
 have h_F:∀H,qf (pgL b0 b1 b2 b3 b4 b5 2) 11 [.d (.s (([77,79,68,85,76,69,32,77,59,32,73,77,80,79,82,84,32,76,59,32,86,65,82,32,105,58,32,73,78,84,69,71,69,82,59,32]++[97,58,32,76,46,65,59,32,66,69,71,73,78,32,97,91,49,93,32,58,61,32,105])++xE)),.d (.sl [lM b0 b1 b2 b3 b4 b5])] H=_:=fun H=>qpA (u:=2) (H:=H)
 have h_R:∀H,qf (pgL b0 b1 b2 b3 b4 b5 2) 10 [.d (.s (([77,79,68,85,76,69,32,77,59,32,73,77,80,79,82,84,32,76,59,32,86,65,82,32,105,58,32,73,78,84,69,71,69,82,59,32]++[97,58,32,76,46,65,59,32,66,69,71,73,78,32,97,91,49,93,32,58,61,32,105])++xE)),.d (.sl [lM b0 b1 b2 b3 b4 b5])] H=_:=fun H=>qpe (u:=2) (H:=H)
 have h_S:∀H,qf (pgL b0 b1 b2 b3 b4 b5 2) 12 [.d (tre 2),.d (tre 2)] H=_:=fun H=>qsm (u:=2) (H:=H)
 obtain ⟨c0,c1,c2,c3,c4,c5,c6,c7,c8,c9,c10,c11⟩:=cats l0 l1 l2 l3 l4 l5
 simp only [pL0,pL1,pL2,pL3,pL4,pL5,pL6] at h_L c0 c1 c2 c3 c4 c5 c6 c7 c8 c9 c10 c11
 simp only [xA,xE,xI] at h_F h_R
 have i1:iaV (.d uS) (.d (.i .u8 2)) 1 none=some (.cp (.s [86,65,82,32,97,58,32,76,46,65,59,32,66,69,71,73,78,32,97,91,49,93,32,58,61,32,105])):=jR (by decide) rfl (by simp [D.cells])
 simp only [uS] at i1
 have i2:iaV (.d (.sl [.b b0,.b b1,.b b2,.b b3,.b b4,.b b5,.b false,.b false])) (.d (.i .u8 2)) 1 none=some (.cp (.b b2)):=jR (by decide) rfl (by simp [D.cells])
 have k4:wr .u8 (2:Int)=2:=qpu (by omega) (by omega)
 have s1:qdE (.d (.s [86,65,82,32,97,58,32,76,46,65,59,32,66,69,71,73,78,32,97,91,49,93,32,58,61,32,105])) (some 4) none=some (.d (.s [97,58,32,76,46,65,59,32,66,69,71,73,78,32,97,91,49,93,32,58,61,32,105])):=rfl
 rw [qR (fn:=qb) rfl rfl]
 simp only [lM,tre,oF,oR,wrong,bad,Out.v,cond_true,cond_false] at h_L h_F h_R h_S
 cases b2<;>simp only [cond_true,cond_false] at h_L h_F h_R h_S
 all_goals simp only [qmf,qb,qNe,Nat.reduceAdd,List.length_nil,List.map_nil,qaZ,Nat.min_self,qNd,qNc,qNa,↓reduceIte,reduceCtorEq,List.map_cons,qNf,w0,Bool.or_false,c0,Bool.or_true,c1,w1,Bool.or_self,Nat.reduceEqDiff,c2,c3,w2,c4,c5,w3,c6,c7,w4,c8,c9,w5,c10,c11,h_L,List.length_cons,decide_true,List.reduceReplicate,Nat.reduceLT,List.set_cons_zero,List.set_cons_succ,Int.reduceEq,hu,i1,decide_false,Bool.not_false,qeo,qg5,qtW,qha,qlF,s1,Nat.reduceLeDiff,List.length_append,List.drop_zero,List.take_succ_cons,List.take_zero,h_F,h_R,a0,a1,a2,a3,a4,a5,i2,Int.cast_ofNat_Int,beq_self_eq_true,beq_false,Bool.not_eq_true',decide_eq_false_iff_not,h_S]
 all_goals exact ⟨_,rfl⟩
theorem qMR {m c:Nat} (hm:m<256) (hu:Int.tmod (c:Nat) 8=3) {b0 b1 b2 b3 b4 b5:Bool} (q:m.testBit 0=b0∧m.testBit 1=b1∧m.testBit 2=b2∧m.testBit 3=b3∧m.testBit 4=b4∧m.testBit 5=b5):∃lo,qf (pgL b0 b1 b2 b3 b4 b5 3) 4 [.d (.i .u8 (m:Nat)),.d (.i .u8 (c:Nat))] []=some ⟨false,true,.d (.b true),[],lo⟩:=by
 obtain ⟨k0,k1,k2,k3,k4,k5,⟨l0,l1,l2,l3,l4,l5⟩,⟨w0,w1,w2,w3,w4,w5⟩,⟨a0,a1,a2,a3,a4,a5⟩,h_L⟩:=marks (u:=3) hm q
 have h_F:∀H,qf (pgL b0 b1 b2 b3 b4 b5 3) 11 [.d (.s ((xA++(xI++[66,69,71,73,78,32,105,32,58,61,32,76,46,118]))++xE)),.d (.sl [lM b0 b1 b2 b3 b4 b5])] H=_:=fun H=>qpA (u:=3) (H:=H)
 have h_R:∀H,qf (pgL b0 b1 b2 b3 b4 b5 3) 10 [.d (.s ((xA++(xI++[66,69,71,73,78,32,105,32,58,61,32,76,46,118]))++xE)),.d (.sl [lM b0 b1 b2 b3 b4 b5])] H=_:=fun H=>qpe (u:=3) (H:=H)
 have h_S:∀H,qf (pgL b0 b1 b2 b3 b4 b5 3) 12 [.d (tre 3),.d (tre 3)] H=_:=fun H=>qsm (u:=3) (H:=H)
 obtain ⟨c0,c1,c2,c3,c4,c5,c6,c7,c8,c9,c10,c11⟩:=cats l0 l1 l2 l3 l4 l5
 simp only [pL0,pL1,pL2,pL3,pL4,pL5,pL6] at h_L c0 c1 c2 c3 c4 c5 c6 c7 c8 c9 c10 c11
 simp only [xA,xE,xI] at h_F h_R
 have i1:iaV (.d uS) (.d (.i .u8 3)) 1 none=some (.cp (.s [66,69,71,73,78,32,105,32,58,61,32,76,46,118])):=jR (by decide) rfl (by simp [D.cells])
 simp only [uS] at i1
 have i2:iaV (.d (.sl [.b b0,.b b1,.b b2,.b b3,.b b4,.b b5,.b false,.b false])) (.d (.i .u8 3)) 1 none=some (.cp (.b b3)):=jR (by decide) rfl (by simp [D.cells])
 have k4:wr .u8 (3:Int)=3:=qpu (by omega) (by omega)
 rw [qR (fn:=qb) rfl rfl]
 simp only [lM,tre,oF,oR,wrong,bad,Out.v,cond_true,cond_false] at h_L h_F h_R h_S
 cases b3<;>simp only [cond_true,cond_false] at h_L h_F h_R h_S
 all_goals simp only [qmf,qb,qNe,Nat.reduceAdd,List.length_nil,List.map_nil,qaZ,Nat.min_self,qNd,qNc,qNa,↓reduceIte,reduceCtorEq,List.map_cons,qNf,w0,Bool.or_false,c0,Bool.or_true,c1,w1,Bool.or_self,Nat.reduceEqDiff,c2,c3,w2,c4,c5,w3,c6,c7,w4,c8,c9,w5,c10,c11,h_L,List.length_cons,decide_true,List.reduceReplicate,Nat.reduceLT,List.set_cons_zero,List.set_cons_succ,Int.reduceEq,hu,i1,decide_false,Bool.not_false,Nat.reduceLeDiff,List.length_append,List.drop_zero,List.take_succ_cons,List.take_zero,h_F,h_R,a0,a1,a2,a3,a4,a5,i2,Int.cast_ofNat_Int,beq_self_eq_true,beq_false,Bool.not_eq_true',decide_eq_false_iff_not,h_S]
 all_goals exact ⟨_,rfl⟩
theorem qMH {m c:Nat} (hm:m<256) (hu:Int.tmod (c:Nat) 8=4) {b0 b1 b2 b3 b4 b5:Bool} (q:m.testBit 0=b0∧m.testBit 1=b1∧m.testBit 2=b2∧m.testBit 3=b3∧m.testBit 4=b4∧m.testBit 5=b5):∃lo,qf (pgL b0 b1 b2 b3 b4 b5 4) 4 [.d (.i .u8 (m:Nat)),.d (.i .u8 (c:Nat))] []=some ⟨false,true,.d (.b true),[],lo⟩:=by
 obtain ⟨k0,k1,k2,k3,k4,k5,⟨l0,l1,l2,l3,l4,l5⟩,⟨w0,w1,w2,w3,w4,w5⟩,⟨a0,a1,a2,a3,a4,a5⟩,h_L⟩:=marks (u:=4) hm q
 have h_F:∀H,qf (pgL b0 b1 b2 b3 b4 b5 4) 11 [.d (.s ((xA++(xI++[66,69,71,73,78,32,105,32,58,61,32,76,46,102,40,50,41]))++xE)),.d (.sl [lM b0 b1 b2 b3 b4 b5])] H=_:=fun H=>qpA (u:=4) (H:=H)
 have h_R:∀H,qf (pgL b0 b1 b2 b3 b4 b5 4) 10 [.d (.s ((xA++(xI++[66,69,71,73,78,32,105,32,58,61,32,76,46,102,40,50,41]))++xE)),.d (.sl [lM b0 b1 b2 b3 b4 b5])] H=_:=fun H=>qpe (u:=4) (H:=H)
 have h_S:∀H,qf (pgL b0 b1 b2 b3 b4 b5 4) 12 [.d (tre 4),.d (tre 4)] H=_:=fun H=>qsm (u:=4) (H:=H)
 obtain ⟨c0,c1,c2,c3,c4,c5,c6,c7,c8,c9,c10,c11⟩:=cats l0 l1 l2 l3 l4 l5
 simp only [pL0,pL1,pL2,pL3,pL4,pL5,pL6] at h_L c0 c1 c2 c3 c4 c5 c6 c7 c8 c9 c10 c11
 simp only [xA,xE,xI] at h_F h_R
 have i1:iaV (.d uS) (.d (.i .u8 4)) 1 none=some (.cp (.s [66,69,71,73,78,32,105,32,58,61,32,76,46,102,40,50,41])):=jR (by decide) rfl (by simp [D.cells])
 simp only [uS] at i1
 have i2:iaV (.d (.sl [.b b0,.b b1,.b b2,.b b3,.b b4,.b b5,.b false,.b false])) (.d (.i .u8 4)) 1 none=some (.cp (.b b4)):=jR (by decide) rfl (by simp [D.cells])
 have k4:wr .u8 (4:Int)=4:=qpu (by omega) (by omega)
 rw [qR (fn:=qb) rfl rfl]
 simp only [lM,tre,oF,oR,wrong,bad,Out.v,cond_true,cond_false] at h_L h_F h_R h_S
 cases b4<;>simp only [cond_true,cond_false] at h_L h_F h_R h_S
 all_goals simp only [qmf,qb,qNe,Nat.reduceAdd,List.length_nil,List.map_nil,qaZ,Nat.min_self,qNd,qNc,qNa,↓reduceIte,reduceCtorEq,List.map_cons,qNf,w0,Bool.or_false,c0,Bool.or_true,c1,w1,Bool.or_self,Nat.reduceEqDiff,c2,c3,w2,c4,c5,w3,c6,c7,w4,c8,c9,w5,c10,c11,h_L,List.length_cons,decide_true,List.reduceReplicate,Nat.reduceLT,List.set_cons_zero,List.set_cons_succ,Int.reduceEq,hu,i1,decide_false,Bool.not_false,Nat.reduceLeDiff,List.length_append,List.drop_zero,List.take_succ_cons,List.take_zero,h_F,h_R,a0,a1,a2,a3,a4,a5,i2,Int.cast_ofNat_Int,beq_self_eq_true,beq_false,Bool.not_eq_true',decide_eq_false_iff_not,h_S]
 all_goals exact ⟨_,rfl⟩
theorem qMC {m c:Nat} (hm:m<256) (hu:Int.tmod (c:Nat) 8=5) {b0 b1 b2 b3 b4 b5:Bool} (q:m.testBit 0=b0∧m.testBit 1=b1∧m.testBit 2=b2∧m.testBit 3=b3∧m.testBit 4=b4∧m.testBit 5=b5):∃lo,qf (pgL b0 b1 b2 b3 b4 b5 5) 4 [.d (.i .u8 (m:Nat)),.d (.i .u8 (c:Nat))] []=some ⟨false,true,.d (.b true),[],lo⟩:=by
 obtain ⟨k0,k1,k2,k3,k4,k5,⟨l0,l1,l2,l3,l4,l5⟩,⟨w0,w1,w2,w3,w4,w5⟩,⟨a0,a1,a2,a3,a4,a5⟩,h_L⟩:=marks (u:=5) hm q
 have h_F:∀H,qf (pgL b0 b1 b2 b3 b4 b5 5) 11 [.d (.s ((xA++(xI++[66,69,71,73,78,32,76,46,112,40,105,41]))++xE)),.d (.sl [lM b0 b1 b2 b3 b4 b5])] H=_:=fun H=>qpA (u:=5) (H:=H)
 have h_R:∀H,qf (pgL b0 b1 b2 b3 b4 b5 5) 10 [.d (.s ((xA++(xI++[66,69,71,73,78,32,76,46,112,40,105,41]))++xE)),.d (.sl [lM b0 b1 b2 b3 b4 b5])] H=_:=fun H=>qpe (u:=5) (H:=H)
 have h_S:∀H,qf (pgL b0 b1 b2 b3 b4 b5 5) 12 [.d (tre 5),.d (tre 5)] H=_:=fun H=>qsm (u:=5) (H:=H)
 obtain ⟨c0,c1,c2,c3,c4,c5,c6,c7,c8,c9,c10,c11⟩:=cats l0 l1 l2 l3 l4 l5
 simp only [pL0,pL1,pL2,pL3,pL4,pL5,pL6] at h_L c0 c1 c2 c3 c4 c5 c6 c7 c8 c9 c10 c11
 simp only [xA,xE,xI] at h_F h_R
 have i1:iaV (.d uS) (.d (.i .u8 5)) 1 none=some (.cp (.s [66,69,71,73,78,32,76,46,112,40,105,41])):=jR (by decide) rfl (by simp [D.cells])
 simp only [uS] at i1
 have i2:iaV (.d (.sl [.b b0,.b b1,.b b2,.b b3,.b b4,.b b5,.b false,.b false])) (.d (.i .u8 5)) 1 none=some (.cp (.b b5)):=jR (by decide) rfl (by simp [D.cells])
 have k4:wr .u8 (5:Int)=5:=qpu (by omega) (by omega)
 rw [qR (fn:=qb) rfl rfl]
 simp only [lM,tre,oF,oR,wrong,bad,Out.v,cond_true,cond_false] at h_L h_F h_R h_S
 cases b5<;>simp only [cond_true,cond_false] at h_L h_F h_R h_S
 all_goals simp only [qmf,qb,qNe,Nat.reduceAdd,List.length_nil,List.map_nil,qaZ,Nat.min_self,qNd,qNc,qNa,↓reduceIte,reduceCtorEq,List.map_cons,qNf,w0,Bool.or_false,c0,Bool.or_true,c1,w1,Bool.or_self,Nat.reduceEqDiff,c2,c3,w2,c4,c5,w3,c6,c7,w4,c8,c9,w5,c10,c11,h_L,List.length_cons,decide_true,List.reduceReplicate,Nat.reduceLT,List.set_cons_zero,List.set_cons_succ,Int.reduceEq,hu,i1,decide_false,Bool.not_false,Nat.reduceLeDiff,List.length_append,List.drop_zero,List.take_succ_cons,List.take_zero,h_F,h_R,a0,a1,a2,a3,a4,a5,i2,Int.cast_ofNat_Int,beq_self_eq_true,beq_false,Bool.not_eq_true',decide_eq_false_iff_not,h_S]
 all_goals exact ⟨_,rfl⟩
theorem qMS {m c:Nat} (hm:m<256) (hu:Int.tmod (c:Nat) 8=6) {b0 b1 b2 b3 b4 b5:Bool} (q:m.testBit 0=b0∧m.testBit 1=b1∧m.testBit 2=b2∧m.testBit 3=b3∧m.testBit 4=b4∧m.testBit 5=b5):∃lo,qf (pgL b0 b1 b2 b3 b4 b5 6) 4 [.d (.i .u8 (m:Nat)),.d (.i .u8 (c:Nat))] []=some ⟨false,true,.d (.b true),[],lo⟩:=by
 obtain ⟨k0,k1,k2,k3,k4,k5,⟨l0,l1,l2,l3,l4,l5⟩,⟨w0,w1,w2,w3,w4,w5⟩,⟨a0,a1,a2,a3,a4,a5⟩,h_L⟩:=marks (u:=6) hm q
 have h_F:∀H,qf (pgL b0 b1 b2 b3 b4 b5 6) 11 [.d (.s ((xA++(xI++[66,69,71,73,78,32,76,46,118,32,58,61,32,49]))++xE)),.d (.sl [lM b0 b1 b2 b3 b4 b5])] H=_:=fun H=>qpA (u:=6) (H:=H)
 have h_R:∀H,qf (pgL b0 b1 b2 b3 b4 b5 6) 10 [.d (.s ((xA++(xI++[66,69,71,73,78,32,76,46,118,32,58,61,32,49]))++xE)),.d (.sl [lM b0 b1 b2 b3 b4 b5])] H=_:=fun H=>qpe (u:=6) (H:=H)
 obtain ⟨c0,c1,c2,c3,c4,c5,c6,c7,c8,c9,c10,c11⟩:=cats l0 l1 l2 l3 l4 l5
 simp only [pL0,pL1,pL2,pL3,pL4,pL5,pL6] at h_L c0 c1 c2 c3 c4 c5 c6 c7 c8 c9 c10 c11
 simp only [xA,xE,xI] at h_F h_R
 have i1:iaV (.d uS) (.d (.i .u8 6)) 1 none=some (.cp (.s [66,69,71,73,78,32,76,46,118,32,58,61,32,49])):=jR (by decide) rfl (by simp [D.cells])
 simp only [uS] at i1
 have i2:iaV (.d (.sl [.b b0,.b b1,.b b2,.b b3,.b b4,.b b5,.b false,.b false])) (.d (.i .u8 6)) 1 none=some (.cp (.b false)):=jR (by decide) rfl (by simp [D.cells])
 have k4:wr .u8 (6:Int)=6:=qpu (by omega) (by omega)
 rw [qR (fn:=qb) rfl rfl]
 simp only [lM,tre,oF,oR,wrong,bad,Out.v,cond_true,cond_false] at h_L h_F h_R
 cases b3<;>simp only [cond_true,cond_false] at h_L h_F h_R
 all_goals simp only [qmf,qb,qNe,Nat.reduceAdd,List.length_nil,List.map_nil,qaZ,Nat.min_self,qNd,qNc,qNa,↓reduceIte,reduceCtorEq,List.map_cons,qNf,w0,Bool.or_false,c0,Bool.or_true,c1,w1,Bool.or_self,Nat.reduceEqDiff,c2,c3,w2,c4,c5,w3,c6,c7,w4,c8,c9,w5,c10,c11,h_L,List.length_cons,decide_true,List.reduceReplicate,Nat.reduceLT,List.set_cons_zero,List.set_cons_succ,Int.reduceEq,hu,i1,decide_false,Bool.not_false,Nat.reduceLeDiff,List.length_append,List.drop_zero,List.take_succ_cons,List.take_zero,h_F,h_R,a0,a1,a2,a3,a4,a5,i2,Int.cast_ofNat_Int,beq_self_eq_true,beq_false,Bool.not_eq_true',decide_eq_false_iff_not]
 all_goals exact ⟨_,rfl⟩
theorem qMx {m c:Nat} (hm:m<256) (hu:Int.tmod (c:Nat) 8=7) {b0 b1 b2 b3 b4 b5:Bool} (q:m.testBit 0=b0∧m.testBit 1=b1∧m.testBit 2=b2∧m.testBit 3=b3∧m.testBit 4=b4∧m.testBit 5=b5):∃lo,qf (pgL b0 b1 b2 b3 b4 b5 7) 4 [.d (.i .u8 (m:Nat)),.d (.i .u8 (c:Nat))] []=some ⟨false,true,.d (.b true),[],lo⟩:=by
 obtain ⟨k0,k1,k2,k3,k4,k5,⟨l0,l1,l2,l3,l4,l5⟩,⟨w0,w1,w2,w3,w4,w5⟩,⟨a0,a1,a2,a3,a4,a5⟩,h_L⟩:=marks (u:=7) hm q
 have h_F:∀H,qf (pgL b0 b1 b2 b3 b4 b5 7) 11 [.d (.s ((xA++(xI++[66,69,71,73,78,32,76,46,112,40,76,46,118,41]))++xE)),.d (.sl [lM b0 b1 b2 b3 b4 b5])] H=_:=fun H=>qpA (u:=7) (H:=H)
 have h_R:∀H,qf (pgL b0 b1 b2 b3 b4 b5 7) 10 [.d (.s ((xA++(xI++[66,69,71,73,78,32,76,46,112,40,76,46,118,41]))++xE)),.d (.sl [lM b0 b1 b2 b3 b4 b5])] H=_:=fun H=>qpe (u:=7) (H:=H)
 obtain ⟨c0,c1,c2,c3,c4,c5,c6,c7,c8,c9,c10,c11⟩:=cats l0 l1 l2 l3 l4 l5
 simp only [pL0,pL1,pL2,pL3,pL4,pL5,pL6] at h_L c0 c1 c2 c3 c4 c5 c6 c7 c8 c9 c10 c11
 simp only [xA,xE,xI] at h_F h_R
 have i1:iaV (.d uS) (.d (.i .u8 7)) 1 none=some (.cp (.s [66,69,71,73,78,32,76,46,112,40,76,46,118,41])):=jR (by decide) rfl (by simp [D.cells])
 simp only [uS] at i1
 have i2:iaV (.d (.sl [.b b0,.b b1,.b b2,.b b3,.b b4,.b b5,.b false,.b false])) (.d (.i .u8 7)) 1 none=some (.cp (.b false)):=jR (by decide) rfl (by simp [D.cells])
 have k4:wr .u8 (7:Int)=7:=qpu (by omega) (by omega)
 rw [qR (fn:=qb) rfl rfl]
 simp only [lM,tre,oF,oR,wrong,bad,Out.v,cond_true,cond_false] at h_L h_F h_R
 cases b5<;>cases b3<;>simp only [cond_true,cond_false] at h_L h_F h_R
 all_goals simp only [qmf,qb,qNe,Nat.reduceAdd,List.length_nil,List.map_nil,qaZ,Nat.min_self,qNd,qNc,qNa,↓reduceIte,reduceCtorEq,List.map_cons,qNf,w0,Bool.or_false,c0,Bool.or_true,c1,w1,Bool.or_self,Nat.reduceEqDiff,c2,c3,w2,c4,c5,w3,c6,c7,w4,c8,c9,w5,c10,c11,h_L,List.length_cons,decide_true,List.reduceReplicate,Nat.reduceLT,List.set_cons_zero,List.set_cons_succ,Int.reduceEq,hu,i1,decide_false,Bool.not_false,Nat.reduceLeDiff,List.length_append,List.drop_zero,List.take_succ_cons,List.take_zero,h_F,h_R,a0,a1,a2,a3,a4,a5,i2,Int.cast_ofNat_Int,beq_self_eq_true,beq_false,Bool.not_eq_true',decide_eq_false_iff_not]
 all_goals exact ⟨_,rfl⟩
end
theorem qvG {m c:Nat} (hm:m<256):∃u,u<8∧∃lo,qf (pgL (m.testBit 0) (m.testBit 1) (m.testBit 2) (m.testBit 3) (m.testBit 4) (m.testBit 5) u) 4 [.d (.i .u8 (m:Nat)),.d (.i .u8 (c:Nat))] []=some ⟨false,true,.d (.b true),[],lo⟩:=by
 have hu:Int.tmod (c:Nat) 8=((c % 8:Nat):Int):=rfl
 have h8:c % 8=0∨c % 8=1∨c % 8=2∨c % 8=3∨c % 8=4∨c % 8=5∨c % 8=6∨c % 8=7:=by omega
 rcases h8 with h|h|h|h|h|h|h|h<;>rw [h] at hu
 ·exact ⟨0,by omega,qMp hm hu ⟨rfl,rfl,rfl,rfl,rfl,rfl⟩⟩
 ·exact ⟨1,by omega,qMn hm hu ⟨rfl,rfl,rfl,rfl,rfl,rfl⟩⟩
 ·exact ⟨2,by omega,qMT hm hu ⟨rfl,rfl,rfl,rfl,rfl,rfl⟩⟩
 ·exact ⟨3,by omega,qMR hm hu ⟨rfl,rfl,rfl,rfl,rfl,rfl⟩⟩
 ·exact ⟨4,by omega,qMH hm hu ⟨rfl,rfl,rfl,rfl,rfl,rfl⟩⟩
 ·exact ⟨5,by omega,qMC hm hu ⟨rfl,rfl,rfl,rfl,rfl,rfl⟩⟩
 ·exact ⟨6,by omega,qMS hm hu ⟨rfl,rfl,rfl,rfl,rfl,rfl⟩⟩
 ·exact ⟨7,by omega,qMx hm hu ⟨rfl,rfl,rfl,rfl,rfl,rfl⟩⟩
end W
/- What stands in for bytealg.IndexByteString does what it does. -/
set_option linter.unusedSimpArgs false
set_option linter.unusedVariables false
namespace W
open Go (World Value Addr IntKind Program TypeId FuncId Func Calls Code Result Oper)
theorem qAc (c:Nat):∀l:List UInt8,ixN (c % 256) (l.map (·.toNat))=Go.Lib.indexByte l c.toUInt8
 | []=>rfl
 | b::l=>by
  have ih:=qAc c l
  have hge:=Go.Lib.indexByte_ge l c.toUInt8
  have hb:qM8 b.toNat (c % 256)=(b == c.toUInt8):=by
   have hc:c.toUInt8.toNat=c % 256:=by simp [Nat.toUInt8]
   rw [←hc]
   by_cases h:b=c.toUInt8
   ·subst h;simp
   ·have h2:¬b.toNat=c.toUInt8.toNat:=fun e=>h (UInt8.toNat_inj.1 e)
    have h3:qM8 b.toNat c.toUInt8.toNat=false:=by rw [Bool.eq_false_iff];intro e;exact h2 (qM5 e)
    rw [h3];symm;simpa using h
  simp only [List.map_cons,ixN,Go.Lib.indexByte,hb]
  cases b == c.toUInt8 with
  | true=>rfl
  | false=>
   simp only [cond_false,qNa,if_false]
   rw [ih]
   generalize Go.Lib.indexByte l c.toUInt8=v at hge ⊢
   cases v with
   | ofNat n=>simp
   | negSucc m=>
    have:m=0:=by omega
    subst this
    rfl
theorem qEZ {P:Program} {M:Maps} {K:FuncId} {fn:Func} (hf:P.funcs[K]?=some fn) (hname:(fn.name == "runtime.NumGoroutine")=false) (hb:fn.body.isNone=true) (hn:Go.Extern.findNext fn=none)
  (he:Go.Extern.find fn=some Go.Extern.BytealgIndexByte.indexByte) {g:Gh} {w:World} {vs:List V} {H:List Obj} {r:Cr} (h:ixX vs H=some r) {argv:List Value} (ha:ArgsRep M g w 0 vs argv) (hH:RelH M g w H) :
  qte P K argv.toArray w (qH M g w r):=by
 unfold ixX at h
 split at h
 ·rename_i t c
  cases h
  cases ha with
  | cons h0 ha=>cases ha with
   | cons h1 ha=>cases ha;cases h0 with
    | s h0=>cases h0 with
     | d _ _ h0=>cases h0 with
      | s _ x hx=>cases h1 with
       | s h1=>cases h1 with
        | d _ _ h1=>cases h1 with
         | i k n=>
          intro o a K Q hK hQ
          rw [Go.run_callFunc_extern hf hname hb hn he]
          have e:(#[Value.string x,.int .u8 (Int.ofNat c)]:Array Value)=[Value.string x,.int .u8 (Int.ofNat c)].toArray:=rfl
          rw [←e,Go.Lib.run_indexByteString]
          simp only [Result.andThen]
          rw [Oper.upon_value]
          refine hK _ _ ⟨rfl,g,hH,Evo.refl g w,.s (.d _ _ ?_)⟩
          rw [←hx,qAc]
          exact .i _ _
 ·cases h
end W
