/-
  RiscLimits: what code refuses to be made: of expressions that need too many registers, of too many words, of too great a heap.: part 42 of what the proof rests on (a value semantics for a part of the language, sound against the model; the walks).
-/
import Derived.Lib.Bytealg
import Derived.Laws.Externs
import Derived.Test.YtfgmbblhhmeefaaGreatW41
open Nat renaming beq→qHm,le_refl→qHq,eq_of_beq_eq_true→qHr,zero_add→qHB,le_of_ble_eq_true→qHF
open Bool renaming cond_eq_ite→qHn,and_eq_true→qHo,false_eq_true→qHu,and_self→qHw,not_true→qHC
open Option renaming bind_eq_some_iff→qHp,bind_eq_bind→qHs,pure_def→qHy,map_some→qHz
open List renaming length_cons→qHt,length_nil→qHv,map_cons→qHx,cons_append→qHA,getElem?_cons_zero→qHD,nil_append→qHE,map_nil→qHG,length_append→qHH,set_cons_zero→qHI
namespace W
theorem qAI:∀e ∈ qD2,e.Ok pg:=by
 simp only [qD2,List.forall_mem_cons]
 exact ⟨qsT,qsJ,qoe,qnO,qns,quc,qot,qnA,qnx,qsI,qmZ,qne,qn6,qtB,qt1,fun _ h=>by cases h⟩
theorem qAW:∀e ∈ qDo,e.Ok pg∨e.Ok pgG:=by
 simp only [qDo,List.forall_mem_cons]
 exact ⟨.inl qzL,.inr qy9,.inr qyA,.inr qxp,.inr qxu,fun _ h=>by cases h⟩
theorem qCB:∀e ∈ rlT,e.Ok pg∨e.Ok pgG∨e.Ok pg3:=by
 simp only [rlT,List.forall_mem_cons]
 exact ⟨.inl qzK,.inl qzs,.inl qzA,.inl qyZ,.inl qxi,.inr (.inr qAk),.inr (.inl qt2),.inr (.inl qn9),.inr (.inr qy1),.inl qwh,.inr (.inl qn0),.inr (.inl qnI),.inr (.inl quu),.inr (.inl qnS),.inr (.inr qzo),.inl qwg,.inr (.inl qm3),.inr (.inl qnE),.inr (.inl qs8),.inr (.inl qnR),.inr (.inr qx0),.inl qwR,.inr (.inl qoo),.inr (.inl qoG),.inr (.inl qt0),.inr (.inl qtR),fun _ h=>by cases h⟩
end W
/- What stands in for bytealg.IndexByteString does what it does. -/
set_option linter.unusedSimpArgs false
set_option linter.unusedVariables false
namespace W
open Go (World Value Addr IntKind Program TypeId FuncId Func Calls Code Result Oper)
theorem qzp (c:Nat):∀l:List UInt8,ixN (c % 256) (l.map (·.toNat))=Go.Lib.indexByte l c.toUInt8
 | []=>rfl
 | b::l=>by
  have ih:=qzp c l
  have hge:=Go.Lib.indexByte_ge l c.toUInt8
  have hb:qHm b.toNat (c % 256)=(b == c.toUInt8):=by
   have hc:c.toUInt8.toNat=c % 256:=by simp [Nat.toUInt8]
   rw [←hc]
   by_cases h:b=c.toUInt8
   ·subst h;simp
   ·have h2:¬b.toNat=c.toUInt8.toNat:=fun e=>h (UInt8.toNat_inj.1 e)
    have h3:qHm b.toNat c.toUInt8.toNat=false:=by rw [Bool.eq_false_iff];intro e;exact h2 (qHr e)
    rw [h3];symm;simpa using h
  simp only [qHx,ixN,Go.Lib.indexByte,hb]
  cases b == c.toUInt8 with
  | true=>rfl
  | false=>
   simp only [cond_false,qHu,if_false]
   rw [ih]
   generalize Go.Lib.indexByte l c.toUInt8=v at hge ⊢
   cases v with
   | ofNat n=>simp
   | negSucc m=>
    have:m=0:=by omega
    subst this
    rfl
theorem qAy {P:Program} {M:Maps} {K:FuncId} {fn:Func} (hf:P.funcs[K]?=some fn) (hname:(fn.name == "runtime.NumGoroutine")=false) (hb:fn.body.isNone=true) (hn:Go.Extern.findNext fn=none)
  (he:Go.Extern.find fn=some Go.Extern.BytealgIndexByte.indexByte) {g:Gh} {w:World} {vs:List V} {H:List Obj} {r:Cr} (h:ixX vs H=some r) {argv:List Value} (ha:ArgsRep M g w 0 vs argv) (hH:RelH M g w H) :
  qqb P K argv.toArray w (qG M g w r):=by
 unfold ixX at h
 split at h
 ·rename_i t c
  cases h
  cases ha with
  | cons h0 ha=>cases ha with
   | cons h1 ha=>cases ha;cases h0 with
    | s h0=>cases h0 with
     | d _ _ h0=>cases h0 with
      | s _ x hx=>cases h1 with
       | s h1=>cases h1 with
        | d _ _ h1=>cases h1 with
         | i k n=>
          intro o a K Q hK hQ
          rw [Go.run_callFunc_extern hf hname hb hn he]
          have e:(#[Value.string x,.int .u8 (Int.ofNat c)]:Array Value)=[Value.string x,.int .u8 (Int.ofNat c)].toArray:=rfl
          rw [←e,Go.Lib.run_indexByteString]
          simp only [Result.andThen]
          rw [Oper.upon_value]
          refine hK _ _ ⟨rfl,g,hH,Evo.refl g w,.s (.d _ _ ?_)⟩
          rw [←hx,qzp]
          exact .i _ _
 ·cases h
end W
