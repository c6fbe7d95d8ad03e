/-
  PlayEchoes, part 39.
-/
import Derived.Lib.Bytealg
import Derived.Laws.Externs
import Derived.Test.YtdimnhbfkogllaaGreatDoorX36
set_option linter.unusedSimpArgs false
set_option linter.unusedVariables false
/- What stands in for bytealg.IndexByteString does what it does. -/
open Bool renaming cond_eq_ite->qSH,and_eq_true->qSI,false_eq_true->qSO,and_self->qSP,not_true->qSW
open Nat renaming le_refl->qSJ,eq_of_beq_eq_true->qSL,beq->qSN,zero_add->qSV,le_of_ble_eq_true->qSY
open Option renaming bind_eq_some_iff->qSK,bind_eq_bind->qSM,pure_def->qSQ,map_some->qSU
open List renaming map_cons->qSR,length_cons->qSS,length_nil->qST,cons_append->qSX,getElem?_cons_zero->qSZ,length_append->qS0,map_nil->qS1,nil_append->qS2
namespace W
open Go (World Value Addr IntKind Program TypeId FuncId Func Calls Code Result Oper)
theorem qFD (c:Nat):∀l:List UInt8,ixN (c % 256) (l.map (·.toNat))=Go.Lib.indexByte l c.toUInt8
 | []=>rfl
 | b::l=>by
  have ih:=qFD c l
  have hge:=Go.Lib.indexByte_ge l c.toUInt8
  have hb:qSN b.toNat (c % 256)=(b == c.toUInt8):=by
   have hc:c.toUInt8.toNat=c % 256:=by simp [Nat.toUInt8]
   rw [<- hc]
   by_cases h:b=c.toUInt8
   ·subst h;simp
   ·have h2:¬b.toNat=c.toUInt8.toNat:=fun e=>h (UInt8.toNat_inj.1 e)
    have h3:qSN b.toNat c.toUInt8.toNat=false:=by rw [Bool.eq_false_iff];intro e;exact h2 (qSL e)
    rw [h3];symm;simpa using h
  simp only [qSR,ixN,Go.Lib.indexByte,hb]
  cases b == c.toUInt8 with
  | true=>rfl
  | false=>
   simp only [cond_false,qSO,if_false]
   rw [ih]
   generalize Go.Lib.indexByte l c.toUInt8=v at hge |-
   cases v with
   | ofNat n=>simp
   | negSucc m=>
    have:m=0:=by omega
    subst this
    rfl
theorem qHy {P:Program} {M:Maps} {K:FuncId} {fn:Func} (hf:P.funcs[K]?=some fn) (hname:(fn.name == "runtime.NumGoroutine")=false) (hb:fn.body.isNone=true) (hn:Go.Extern.findNext fn=none)
  (he:Go.Extern.find fn=some Go.Extern.BytealgIndexByte.indexByte) {g:Gh} {w:World} {vs:List V} {H:List Obj} {r:Cr} (h:ixX vs H=some r) {argv:List Value} (ha:ArgsRep M g w 0 vs argv) (hH:RelH M g w H) :
  qsp P K argv.toArray w (qu M g w r):=by
 unfold ixX at h
 split at h
 ·rename_i t c
  cases h
  cases ha with
  | cons h0 ha=>cases ha with
   | cons h1 ha=>cases ha;cases h0 with
    | s h0=>cases h0 with
     | d _ _ h0=>cases h0 with
      | s _ x hx=>cases h1 with
       | s h1=>cases h1 with
        | d _ _ h1=>cases h1 with
         | i k n=>
          intro o a K Q hK hQ
          rw [Go.run_callFunc_extern hf hname hb hn he]
          have e:(#[Value.string x,.int .u8 (Int.ofNat c)]:Array Value)=[Value.string x,.int .u8 (Int.ofNat c)].toArray:=rfl
          rw [<- e,Go.Lib.run_indexByteString]
          simp only [Result.andThen]
          rw [Oper.upon_value]
          refine hK _ _ ⟨rfl,g,hH,Evo.refl g w,.s (.d _ _ ?_)⟩
          rw [<- hx,qFD]
          exact .i _ _
 ·cases h
end W
