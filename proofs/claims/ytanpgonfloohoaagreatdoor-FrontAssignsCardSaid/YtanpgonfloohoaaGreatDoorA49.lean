/-
  FrontAssigns, part 49.
-/
import Derived.KernelRfl
import Derived.Lib.Bytealg
import Derived.Laws.Externs
import Derived.Test.YtanpgonfloohoaaGreatDoorA22
import Derived.Test.YtanpgonfloohoaaGreatDoorA28
import Derived.Test.YtanpgonfloohoaaGreatDoorA29
import Derived.Test.YtanpgonfloohoaaGreatDoorA30
import Derived.Test.YtanpgonfloohoaaGreatDoorA31
import Derived.Test.YtanpgonfloohoaaGreatDoorA32
import Derived.Test.YtanpgonfloohoaaGreatDoorA33
import Derived.Test.YtanpgonfloohoaaGreatDoorA34
import Derived.Test.YtanpgonfloohoaaGreatDoorA35
import Derived.Test.YtanpgonfloohoaaGreatDoorA36
import Derived.Test.YtanpgonfloohoaaGreatDoorA37
import Derived.Test.YtanpgonfloohoaaGreatDoorA38
import Derived.Test.YtanpgonfloohoaaGreatDoorA39
import Derived.Test.YtanpgonfloohoaaGreatDoorA40
import Derived.Test.YtanpgonfloohoaaGreatDoorA41
import Derived.Test.YtanpgonfloohoaaGreatDoorA42
import Derived.Test.YtanpgonfloohoaaGreatDoorA43
import Derived.Test.YtanpgonfloohoaaGreatDoorA44
import Derived.Test.YtanpgonfloohoaaGreatDoorA45
import Derived.Test.YtanpgonfloohoaaGreatDoorA46
import Derived.Test.YtanpgonfloohoaaGreatDoorA47
import Derived.Test.YtanpgonfloohoaaGreatDoorA48
set_option linter.unusedSimpArgs false
set_option linter.unusedVariables false
/- What the tables say, the code says. -/
open Bool renaming cond_eq_ite->qOx,and_eq_true->qOy,false_eq_true->qOF
open Nat renaming eq_of_beq_eq_true->qOz,le_refl->qOB,beq->qOC,le_of_ble_eq_true->qOH
open Option renaming bind_eq_some_iff->qOA,bind_eq_bind->qOD,pure_def->qOE,map_some->qOG
namespace W
theorem jP {x:List Nat} (h0:qJ ((esS.drop 0).take 5) x=true) (h1:qJ ((esS.drop 5).take 5) x=true) (h2:qJ ((esS.drop 10).take 5) x=true) (h3:qJ ((esS.drop 15).take 5) x=true):∀y ∈ esS,chk (tlS x y)=true:=fun y hy=>by
 have e:esS=(esS.drop 0).take 5++((esS.drop 5).take 5++((esS.drop 10).take 5++(esS.drop 15).take 5)):=rfl
 rw [e] at hy
 simp only [List.mem_append] at hy
 rcases hy with h|h|h|h
 ·exact qoc h0 y h
 ·exact qoc h1 y h
 ·exact qoc h2 y h
 ·exact qoc h3 y h
theorem qLB:∀x ∈ lsS,∀y ∈ esS,chk (tlS x y)=true:=by
 simp only [lsS,List.forall_mem_cons]
 exact ⟨jP qKJ qJi qHa qK7,jP qJD qGA qHn qJW,jP qHV qGx qGI qLb,jP qH7 qJV qH0 qKO,jP qG1 qKG qGK qIF,jP qGO qIG qJX qJP,jP qF4 qHF qHG qIk,jP qHA qKc qJc qHd,jP qGh qFZ qG0 qGb,jP qG6 qIK qGP qFE,jP qDK qDZ qDD qEj,jP qEB qC7 qDL qEO,jP qEL qES qEg qDC,jP qEh qEk qC4 qDS,jP qDY qDB qEm qEE,jP qDQ qDW qDV qDl,jP qD6 qC8 qDb qDc,jP qEQ qDg qDA qDG,fun _ h=>by cases h⟩
theorem qGR {x y:List Nat} (hx:x ∈ lsS) (hy:y ∈ esS):(eSP (tlS x y)).Ok pgP/\(eRP (tlS x y)).Ok pgP/\(eTP (tlS x y)).Ok (pgS (tlS x y)):=by
 obtain ⟨h1,h2⟩:=qD5 x hx y hy
 exact qFv (qJv h1 h2) (qF6 h1 h2) (qLB x hx y hy)
end W
/- FrontAssigns: what may be assigned to what. -/
namespace W
open Go (IntKind BinOp UnOp)
set_option maxRecDepth 20000
def qyk (s:List Nat):Bool:=lsS.any fun x=>esS.any fun y=>decide (s=srS x y)
def qu5 (vs:List V) (H:List Obj):Option Cr:=match vs with
 | [.d (.s s),.d .nil]=>bif qyk s then some ⟨false,true,.d (.b true),H,H.length⟩ else none
 | _=>none
def faL:List Ent:=[fn_k]
def pgL:Pg:=⟨fun n=>bif qOC n 6 then some qt else none,fun i vs H=>bif qOC i 8 then qu5 vs H else qtx faL i vs H⟩
theorem qp5 {vs:List V} {H:List Obj} {r:Cr} (h:qu5 vs H=some r):∃x ∈ lsS,∃y ∈ esS,vs=[.d (.s (srS x y)),.d .nil]/\r=⟨false,true,.d (.b true),H,H.length⟩:=by
 unfold qu5 at h
 split at h
 ·rename_i s
  rw [qOx] at h
  split at h
  ·rename_i hs
   cases h
   simp only [qyk,List.any_eq_true,decide_eq_true_eq] at hs
   obtain ⟨x,hx,y,hy,rfl⟩:=hs
   exact ⟨x,hx,y,hy,rfl,rfl⟩
  ·cases h
 ·cases h
theorem qEG:qu pgL.ext:=fun i vs H r h=>by
 simp only [pgL,qOx] at h
 split at h
 ·obtain ⟨_,_,_,_,_,rfl⟩:=qp5 h
  exact ⟨qOB _,fun _ _ _=>rfl,fun _=>rfl⟩
 ·exact qtB i vs H r h
theorem qyR {H:List Obj}:qh pgL 7 [] H=some ⟨false,true,.d (.b true),H,H.length⟩:=by
 rw [qib]
 rfl
theorem qCH {x y:List Nat} (hx:x ∈ lsS) (hy:y ∈ esS) {H:List Obj}:qh pgL 8 [.d (.s (srS x y)),.d .nil] H=some ⟨false,true,.d (.b true),H,H.length⟩:=by
 rw [qib]
 show qu5 [.d (.s (srS x y)),.d .nil] H=_
 have hs:qyk (srS x y)=true:=by
  simp only [qyk,List.any_eq_true,decide_eq_true_eq]
  exact ⟨x,hx,y,hy,rfl⟩
 simp only [qu5,hs,cond_true]
theorem qvG {a b:Nat} (ha:a<256) (hb:b<256):∃lo,qh pgL 6 [.d (.i .u8 (a:Nat)),.d (.i .u8 (b:Nat))] []=some ⟨false,true,.d (.b true),[],lo⟩:=by
 have la:a % 18<lsS.length:=Nat.mod_lt a (by decide)
 have lb:b % 20<esS.length:=Nat.mod_lt b (by decide)
 obtain ⟨x,ex⟩:∃x,lsS[a % 18]?=some x:=⟨_,List.getElem?_eq_getElem la⟩
 obtain ⟨y,ey⟩:∃y,esS[b % 20]?=some y:=⟨_,List.getElem?_eq_getElem lb⟩
 have hx:iaV (.d (.sl [.s [105],.s [99],.s [98],.s [115],.s [112],.s [113],.s [114],.s [119],.s [116],.s [118],.s [112,46,120],.s [116,91,49,93],.s [97,91,49,93],.s [97],.s [112,94],.s [113,40,83,41],.s [107],.s [102]])) (.d (.i .i64 ((a % 18:Nat):Int))) 1 none=some (.cp (.s x)):=qtg (xs:=lsS.map D.s) (by omega) (by rw [Int.toNat_natCast,List.getElem?_map,ex];rfl) (by simp [D.cells])
 have hy:iaV (.d (.sl [.s [49],.s [99],.s [34,120,34],.s [34,120,121,34],.s [34,120,121,122,34],.s [98],.s [115],.s [112],.s [113],.s [78,73,76],.s [114],.s [119],.s [116],.s [118],.s [97],.s [112,94],.s [113,94],.s [105],.s [102,40,49,41],.s [52,49,88]])) (.d (.i .i64 ((b % 20:Nat):Int))) 1 none=some (.cp (.s y)):=qtg (xs:=esS.map D.s) (by omega) (by rw [Int.toNat_natCast,List.getElem?_map,ey];rfl) (by simp [D.cells])
 have ht:=fun H=>qCH (List.mem_of_getElem? ex) (List.mem_of_getElem? ey) (H:=H)
 have wa:wr .i64 (a:Int)=(a:Int):=qwX (by omega) (by omega)
 have wb:wr .i64 (b:Int)=(b:Int):=qwX (by omega) (by omega)
 have ma:(a:Int).tmod 18=((a % 18:Nat):Int):=rfl
 have mb:(b:Int).tmod 20=((b % 20:Nat):Int):=rfl
 have lx:x.length<=10:=(show ∀x ∈ lsS,x.length<=10 by decide) x (List.mem_of_getElem? ex)
 have ly:y.length<=10:=(show ∀y ∈ esS,y.length<=10 by decide) y (List.mem_of_getElem? ey)
 have lh:hdS.length=286:=rfl
 have a1:∀c,qhz .add .num c (.d (.s hdS)) (.d (.s x))=some (.d (.s (hdS++x))):=fun _=>qnB (by omega)
 have a2:∀c,qhz .add .num c (.d (.s (hdS++x))) (.d (.s [32,58,61,32]))=some (.d (.s ((hdS++x)++[32,58,61,32]))):=fun _=>qnB (by simp;omega)
 have a3:∀c,qhz .add .num c (.d (.s ((hdS++x)++[32,58,61,32]))) (.d (.s y))=some (.d (.s (((hdS++x)++[32,58,61,32])++y))):=fun _=>qnB (by simp;omega)
 have a4:∀c,qhz .add .num c (.d (.s (((hdS++x)++[32,58,61,32])++y))) (.d (.s [32,69,78,68,32,77,46]))=some (.d (.s ((((hdS++x)++[32,58,61,32])++y)++[32,69,78,68,32,77,46]))):=fun _=>qnB (by simp;omega)
 have eh:[77,79,68,85,76,69,32,77,59,32,67,79,78,83,84,32,107,32,61,32,49,59,32,84,89,80,69,32,82,32,61,32,82,69,67,79,82,68,32,120,58,32,73,78,84,69,71,69,82,32,69,78,68,59,32,83,32,61,32,82,69,67,79,82,68,32,40,82,41,32,69,78,68,59,32,86,65,82,32,105,58,32,73,78,84,69,71,69,82,59,32,99,58,32,67,72,65,82,59,32,98,58,32,66,79,79,76,69,65,78,59,32,115,58,32,83,69,84,59,32,112,58,32,80,79,73,78,84,69,82,32,84,79,32,82,59,32,113,58,32,80,79,73,78,84,69,82,32,84,79,32,83,59,32,114,58,32,82,59,32,119,58,32,83,59,32,116,58,32,65,82,82,65,89,32,51,32,79,70,32,67,72,65,82,59,32,118,58,32,65,82,82,65,89,32,52,32,79,70,32,67,72,65,82,59,32,97,58,32,65,82,82,65,89,32,51,32,79,70,32,73,78,84,69,71,69,82,59,32,80,82,79,67,69,68,85,82,69,32,102,32,40,110,58,32,73,78,84,69,71,69,82,41,58,32,73,78,84,69,71,69,82,59,32,82,69,84,85,82,78,32,110,32,69,78,68,32,102,59,32,66,69,71,73,78,32]=hdS:=rfl
 have ht':∀H,qh pgL 8 [.d (.s ((((hdS++x)++[32,58,61,32])++y)++[32,69,78,68,32,77,46])),.d .nil] H=some ⟨false,true,.d (.b true),H,H.length⟩:=ht
 rw [kZ (fn:=qt) rfl rfl]
 simp only [qt,eh,qlJ,Nat.zero_add,Nat.reduceAdd,qmQ,List.length_nil,qec,qt3,qqV,qpj,qHu,qsK,qwu,qCn,qnl,qoM,qmS,List.map_nil,qjK,qt6,qyR,qnp,qjv,Nat.min_self,qCB,qI6,qsU,quc,qHe,Bool.not_true,qOG,qqF,quQ,qyK,qOF,↓reduceIte,qrj,qpd,qCo,List.length_cons,List.reduceReplicate,List.map_cons,Nat.reduceLT,qxm,List.set_cons_zero,List.set_cons_succ,qzd,qBW,qE7,qIe,qDI,Bool.and_self,qAB,qEv,qCZ,qAm,qre,qof,ql6,Nat.reduceEqDiff,qtN,qz7,qtF,qlV,qsX,ql5,reduceCtorEq,qwn,wa,qrA,qEN,Int.cast_ofNat_Int,qpk,qB2,Bool.or_self,Int.reduceEq,qDd,ma,qj7,hx,qs6,qmV,qvD,qm1,qA7,Bool.or_false,a1,Bool.or_true,a2,wb,mb,hy,a3,qgE,a4,qgP,qtM,qhC,qru,ht',qhO,qtT,qqq,qhw,qph,qxe,qjr,qmZ,qqJ]
 exact ⟨_,rfl⟩
end W
/- What stands in for bytealg.IndexByteString does what it does. -/
namespace W
open Go (World Value Addr IntKind Program TypeId FuncId Func Calls Code Result Oper)
theorem qAS (c:Nat):∀l:List UInt8,ixN (c % 256) (l.map (·.toNat))=Go.Lib.indexByte l c.toUInt8
 | []=>rfl
 | b::l=>by
  have ih:=qAS c l
  have hge:=Go.Lib.indexByte_ge l c.toUInt8
  have hb:qOC b.toNat (c % 256)=(b == c.toUInt8):=by
   have hc:c.toUInt8.toNat=c % 256:=by simp [Nat.toUInt8]
   rw [<- hc]
   by_cases h:b=c.toUInt8
   ·subst h;simp
   ·have h2:¬b.toNat=c.toUInt8.toNat:=fun e=>h (UInt8.toNat_inj.1 e)
    have h3:qOC b.toNat c.toUInt8.toNat=false:=by rw [Bool.eq_false_iff];intro e;exact h2 (qOz e)
    rw [h3];symm;simpa using h
  simp only [List.map_cons,ixN,Go.Lib.indexByte,hb]
  cases b == c.toUInt8 with
  | true=>rfl
  | false=>
   simp only [cond_false,qOF,if_false]
   rw [ih]
   generalize Go.Lib.indexByte l c.toUInt8=v at hge |-
   cases v with
   | ofNat n=>simp
   | negSucc m=>
    have:m=0:=by omega
    subst this
    rfl
theorem qDj {P:Program} {M:Maps} {K:FuncId} {fn:Func} (hf:P.funcs[K]?=some fn) (hname:(fn.name == "runtime.NumGoroutine")=false) (hb:fn.body.isNone=true) (hn:Go.Extern.findNext fn=none)
  (he:Go.Extern.find fn=some Go.Extern.BytealgIndexByte.indexByte) {g:Gh} {w:World} {vs:List V} {H:List Obj} {r:Cr} (h:ixX vs H=some r) {argv:List Value} (ha:ArgsRep M g w 0 vs argv) (hH:RelH M g w H) :
  qtZ P K argv.toArray w (qG M g w r):=by
 unfold ixX at h
 split at h
 ·rename_i t c
  cases h
  cases ha with
  | cons h0 ha=>cases ha with
   | cons h1 ha=>cases ha;cases h0 with
    | s h0=>cases h0 with
     | d _ _ h0=>cases h0 with
      | s _ x hx=>cases h1 with
       | s h1=>cases h1 with
        | d _ _ h1=>cases h1 with
         | i k n=>
          intro o a K Q hK hQ
          rw [Go.run_callFunc_extern hf hname hb hn he]
          have e:(#[Value.string x,.int .u8 (Int.ofNat c)]:Array Value)=[Value.string x,.int .u8 (Int.ofNat c)].toArray:=rfl
          rw [<- e,Go.Lib.run_indexByteString]
          simp only [Result.andThen]
          rw [Oper.upon_value]
          refine hK _ _ ⟨rfl,g,hH,Evo.refl g w,.s (.d _ _ ?_)⟩
          rw [<- hx,qAS]
          exact .i _ _
 ·cases h
end W
