/-
  LoaderMany, part 37.
-/
import Derived.KernelRfl
import Derived.Lib.Bytealg
import Derived.Laws.Externs
import Derived.Test.YtccijlniolfhlaaGreatDoorW27
import Derived.Test.YtccijlniolfhlaaGreatDoorW28
import Derived.Test.YtccijlniolfhlaaGreatDoorW29
import Derived.Test.YtccijlniolfhlaaGreatDoorW30
import Derived.Test.YtccijlniolfhlaaGreatDoorW31
import Derived.Test.YtccijlniolfhlaaGreatDoorW32
import Derived.Test.YtccijlniolfhlaaGreatDoorW33
import Derived.Test.YtccijlniolfhlaaGreatDoorW34
import Derived.Test.YtccijlniolfhlaaGreatDoorW35
import Derived.Test.YtccijlniolfhlaaGreatDoorW36
set_option linter.unusedSimpArgs false
set_option linter.unusedVariables false
/- What the tables say, the code says. -/
open Bool renaming cond_eq_ite->qJo,and_eq_true->qJp,false_eq_true->qJw
open Option renaming bind_eq_some_iff->qJq,bind_eq_bind->qJt,pure_def->qJu
open Nat renaming le_refl->qJr,eq_of_beq_eq_true->qJs,beq->qJv
namespace W
theorem qxB:lmP=((lmP.drop 0).take 2)++(((lmP.drop 2).take 2)++(((lmP.drop 4).take 2)++(((lmP.drop 6).take 2)++(((lmP.drop 8).take 2)++(((lmP.drop 10).take 2)++(((lmP.drop 12).take 2)++(((lmP.drop 14).take 2)++((lmP.drop 16).take 2)))))))):=by kernel_rfl
theorem qFF:∀e ∈ lmR,e.Ok pg1:=fun e he=>by
 obtain ⟨p,hp,rfl⟩:=List.mem_map.1 he
 rw [qxB] at hp
 simp only [List.mem_append] at hp
 rcases hp with hp|hp|hp|hp|hp|hp|hp|hp|hp
 ·exact qAs p hp
 ·exact qAh p hp
 ·exact qAF p hp
 ·exact qAa p hp
 ·exact qAE p hp
 ·exact qyG p hp
 ·exact qyk p hp
 ·exact qzC p hp
 ·exact qxH p hp
theorem qEr:∀e ∈ lm_k::(lmP++(lmR++qAz)),e.Ok pg\/e.Ok pg1:=by
 simp only [List.forall_mem_cons,List.forall_mem_append]
 exact ⟨.inr qAy,fun e h=>.inr (qFR e h),fun e h=>.inr (qFF e h),fun e h=>.inl (qvA e h)⟩
end W
/-
  More equations: nil slices, shifts, bits, bytes.
-/
namespace W
open Go (IntKind BinOp UnOp)
theorem qHI {n:Nat}:isC (.t n)=false:=(rfl)
theorem qGQ {x:D}:isC (.c x)=true:=(rfl)
def e8 (n:Nat):D:=.i .u8 (n:Int)
end W
/- Walking on: interfaces, panics, function values, deferred closures. -/
namespace W
open Go (IntKind BinOp UnOp)
variable {pg:Pg} {st:St} {call:Call}
end W
/-
  Walking of rows that may be written.
-/
namespace W
open Go (IntKind BinOp UnOp)
section
variable {call:Call} {st:St}
end
end W
/- LoaderMany: just how many modules there may be. -/
namespace W
open Go (IntKind BinOp UnOp)
set_option maxRecDepth 20000
theorem z9 {pg:Pg} {e:Env} {H:List Obj} {lo:Nat}:exL pg ko ⟨e,H,lo⟩=qdw pg (qkv (get 3 e)) (qkv (get 4 e)) (qkv (get 5 e)) H lo:=qAt
theorem qxi {H:List Obj}:qN pgM 4 [] H=some ⟨false,true,.d (.b true),H,H.length⟩:=by
 rw [qp5]
 rfl
theorem qw8 {x:D} {s:St}:∃r,leave [] false (.d x) s=some r/\r.pan=false/\r.v=.d x:=by
 unfold leave
 simp only [settle,V.leaves,cond_true]
 cases hb:(Nat.ble (V.ref (.d x)) [].length && Nat.ble [].length s.lo)<;>exact ⟨_,rfl,rfl,rfl⟩
theorem qzQ {k:Nat} (h:qsF k=true):∃st,exL pgM quX ⟨[(5,.d (.i .i64 0)),(4,.d .nil),(3,.d (.i .i64 (k:Nat)))],[],0⟩=some (.ret,st)/\get 2 st.env=.d (.b true):=by
 unfold qsF isT at h
 split at h
 ·rename_i st he
  refine ⟨st,qy8 (qmi pgM 1000) 1000 _ _ _ he,?_⟩
  rw [jF] at h
  split at h
  ·assumption
  ·cases h
 ·cases h
theorem many {n k:Nat} (hn:Int.tmod (n:Nat) 5=((k - 14:Nat):Int)) (h14:14<=k) (h18:k<=18) (h:qsF k=true):∃r,qN pgM 3 [.d (.i .u8 (n:Nat))] []=some r/\r.pan=false/\r.v=.d (.b true):=by
 obtain ⟨st,hr,hb⟩:=qzQ h
 have k1:wr .u8 ((k - 14:Nat):Int)=((k - 14:Nat):Int):=qHO (by omega) (by omega)
 have k2:wr .i64 ((k - 14:Nat):Int)=((k - 14:Nat):Int):=qyc (by omega) (by omega)
 have k3:wr .i64 (14+((k - 14:Nat):Int))=(k:Int):=by rw [qyc (by omega) (by omega)];omega
 simp only [quX,qvV,qqO,z9,Nat.reduceEqDiff,qvk,quy,qvB] at hr
 rw [qzr (fn:=qT) rfl rfl]
 simp only [qT,qtM,Nat.zero_add,quP,List.length_nil,qvV,qAL,qyl,qwu,qIQ,qAS,qC4,qGu,qvh,qxs,qut,List.map_nil,qrj,qAf,qxi,qvp,qr0,Nat.min_self,qy2,qI6,quy,qBd,qEg,Bool.not_true,Option.map_some,qze,qy5,qAv,qJw,↓reduceIte,qzw,reduceCtorEq,qvk,qAq,qv6,qHI,qGQ,Bool.or_true,Int.reduceEq,qA2,hn,que,k2,Bool.or_false,qA4,k3,qqO,z9,Nat.reduceEqDiff,qvB]
 rw [hr]
 simp only [qyS,qqc,qwz,hb,qDa,qrD,qu7,qx5]
 exact qw8
theorem qzI {n:Nat}:∃r,qN pgM 3 [.d (.i .u8 (n:Nat))] []=some r/\r.pan=false/\r.v=.d (.b true):=by
 have hn:Int.tmod (n:Nat) 5=((n % 5:Nat):Int):=rfl
 have h5:n % 5=0\/n % 5=1\/n % 5=2\/n % 5=3\/n % 5=4:=by omega
 rcases h5 with h|h|h|h|h<;>rw [h] at hn
 ·exact many (k:=14) hn (by omega) (by omega) qEP
 ·exact many (k:=15) hn (by omega) (by omega) qCP
 ·exact many (k:=16) hn (by omega) (by omega) qEW
 ·exact many (k:=17) hn (by omega) (by omega) qBX
 ·exact many (k:=18) hn (by omega) (by omega) qCc
end W
/- What stands in for bytealg.IndexByteString does what it does. -/
namespace W
open Go (World Value Addr IntKind Program TypeId FuncId Func Calls Code Result Oper)
theorem qzq (c:Nat):∀l:List UInt8,ixN (c % 256) (l.map (·.toNat))=Go.Lib.indexByte l c.toUInt8
 | []=>rfl
 | b::l=>by
  have ih:=qzq c l
  have hge:=Go.Lib.indexByte_ge l c.toUInt8
  have hb:qJv b.toNat (c % 256)=(b == c.toUInt8):=by
   have hc:c.toUInt8.toNat=c % 256:=by simp [Nat.toUInt8]
   rw [<- hc]
   by_cases h:b=c.toUInt8
   ·subst h;simp
   ·have h2:¬b.toNat=c.toUInt8.toNat:=fun e=>h (UInt8.toNat_inj.1 e)
    have h3:qJv b.toNat c.toUInt8.toNat=false:=by rw [Bool.eq_false_iff];intro e;exact h2 (qJs e)
    rw [h3];symm;simpa using h
  simp only [List.map_cons,ixN,Go.Lib.indexByte,hb]
  cases b == c.toUInt8 with
  | true=>rfl
  | false=>
   simp only [cond_false,qJw,if_false]
   rw [ih]
   generalize Go.Lib.indexByte l c.toUInt8=v at hge |-
   cases v with
   | ofNat n=>simp
   | negSucc m=>
    have:m=0:=by omega
    subst this
    rfl
theorem qBc {P:Program} {M:Maps} {K:FuncId} {fn:Func} (hf:P.funcs[K]?=some fn) (hname:(fn.name == "runtime.NumGoroutine")=false) (hb:fn.body.isNone=true) (hn:Go.Extern.findNext fn=none)
  (he:Go.Extern.find fn=some Go.Extern.BytealgIndexByte.indexByte) {g:Gh} {w:World} {vs:List V} {H:List Obj} {r:Cr} (h:ixX vs H=some r) {argv:List Value} (ha:ArgsRep M g w 0 vs argv) (hH:RelH M g w H) :
  qsQ P K argv.toArray w (qy M g w r):=by
 unfold ixX at h
 split at h
 ·rename_i t c
  cases h
  cases ha with
  | cons h0 ha=>cases ha with
   | cons h1 ha=>cases ha;cases h0 with
    | s h0=>cases h0 with
     | d _ _ h0=>cases h0 with
      | s _ x hx=>cases h1 with
       | s h1=>cases h1 with
        | d _ _ h1=>cases h1 with
         | i k n=>
          intro o a K Q hK hQ
          rw [Go.run_callFunc_extern hf hname hb hn he]
          have e:(#[Value.string x,.int .u8 (Int.ofNat c)]:Array Value)=[Value.string x,.int .u8 (Int.ofNat c)].toArray:=rfl
          rw [<- e,Go.Lib.run_indexByteString]
          simp only [Result.andThen]
          rw [Oper.upon_value]
          refine hK _ _ ⟨rfl,g,hH,Evo.refl g w,.s (.d _ _ ?_)⟩
          rw [<- hx,qzq]
          exact .i _ _
 ·cases h
end W
/-
  A law's contract from runs of the small semantics, one for every way that its arguments may read.
-/
namespace W
open Go (World Value Addr IntKind Program TypeId FuncId Operand Act Oper Next Result Sem Ending Exit Code Func DataW MemPlace Calls TypeDesc Lit)
open Go.ChangeShapes Go.RowKit
theorem qqo {P:Program} {Hh:Type} {enc:TypeId × Value->Hh} {W:World} {M:Maps} {f:Func} {fid:FuncId} {s:Go.ChangeSpec} {apart fresh handsOn again:Bool} {args:Array Value} {ds gs:List (DataW Hh)} {before:List MemPlace} {tb:TypeId} {ts:List TypeId} {i:Nat} {r:Go.Reach} {b:Nat}
  (hgl:GlOk M (g0 W) W) (hm:P.follows .mixedOrders=true) (hlook:look M.fm fid=some i)
  (hts:covers P ts=true) (hpar:∀t ∈ f.params.toList,t ∈ ts) {B:DataW Hh->Nat} {BA:List (DataW Hh)->Nat} (hB:Bulk B BA)
  (hval:∀(j:Nat) t v,f.params[j]?=some t->args[j]?=some v->Value.okWide P W r b t v)
  (hvars:s.vars=[]) (hW:DataW.Whole enc P f.params.toList s.vars apart W args.toList ds gs before) (hs:s.fn Hh ds={results:=[.lit (.bool true)],args:=ds}) (hres:f.resultTypes=#[tb]) (htb:P.underlying tb=some .bool)
  (hl:Go.laidOutB P=true) (hread:∀t ∈ f.params.toList,P.readableRec t=true/\t<P.types.size)
  (run:∀xs:List D,All2 (Arg P) f.params.toList xs->D.bulks xs<=BA ds->∃pg:Pg,∃n r,Tab P M pg/\qn P M pg.ext/\qo pg.ext/\pg.fn i≠none/\zh pg n i (xs.map .d) []=some r/\r.pan=false/\r.v=.d (.b true)) :
  Calls P fid args W fun e W'=>∃v,e=.returned v/\s.post enc P f apart fresh handsOn again W args v W':=by
 have hW':=hW
 obtain ⟨p,q,hA,hV,rfl,hfz,hnd⟩:=hW
 obtain ⟨xs,h1,h2,h3⟩:=qtK (M:=M) hts hB 0 hpar (fun j t v ht hv=>hval j t v (by simpa using ht) (by simpa using hv)) hA
 obtain ⟨pg,n,q2,hT,hx,hxlo,hext,hrun,hp,hv⟩:=run xs h1 h3
 have hc:=qsu hm hT hx hxlo hrun hlook hext h2 (qAV M W hgl)
 have ha:args.toList.toArray=args:=by simp
 rw [ha] at hc
 refine hc.mono (fun e W' he=>?_)
 cases e with
 | returned v=>
  obtain ⟨_,g',hH,hE,hr⟩:=he
  rw [hv] at hr
  have hvb:v=.bool true:=by
   cases hr with
   | s h=>cases h with
    | d _ _ h=>cases h;rfl
  subst hvb
  exact ⟨_,rfl,qxQ hvars hW' hs hres htb hl hread hE.io (qFQ hE)⟩
 | panicked ch=>
  obtain ⟨h,_⟩:=he
  rw [hp] at h;cases h
 | outgrown=>exact he.elim
end W
/- What a cut program gives, a whole one gives, as a law's contract asks it. -/
namespace W
open Go (World Value Addr IntKind Program TypeId FuncId)
theorem qCX {P:Program} {M:Maps} {pg:Pg} (hT:qmL P M pg) (hB:qoJ P M) (hid:∀f' i,look M.fm f'=some i->f'=i) (hx:qn P M pg.ext) (hxlo:qo pg.ext) {n i:Nat} {vs:List V} {H:List Obj} {r:Cr} (hi:pg.fn i≠none) (h:zh pg n i vs H=some r) :
  ∃pg':Pg,Tab P M pg'/\qn P M pg'.ext/\qo pg'.ext/\pg'.fn i≠none/\zh pg' n i vs H=some r:=by
 obtain ⟨pg',h1,h2⟩:=whole hT hid
 refine ⟨pg',⟨h1,hB⟩,by rw [h2.ext];exact hx,by rw [h2.ext];exact hxlo,?_,qqB h2 n i vs H r h⟩
 cases hf:pg.fn i with
 | none=>exact absurd hf hi
 | some fn=>
  obtain ⟨fn0,h3,_⟩:=h2.1 i fn hf
  rw [h3]
  simp
end W
