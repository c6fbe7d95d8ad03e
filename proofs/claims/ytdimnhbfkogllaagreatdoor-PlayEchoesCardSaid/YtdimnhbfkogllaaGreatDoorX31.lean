/-
  PlayEchoes, part 31.
-/
import Derived.Test.YtdimnhbfkogllaaGreatDoorX30
open Bool renaming cond_eq_ite->qSH,and_eq_true->qSI,false_eq_true->qSO,and_self->qSP,not_true->qSW
open Nat renaming le_refl->qSJ,eq_of_beq_eq_true->qSL,beq->qSN,zero_add->qSV,le_of_ble_eq_true->qSY
open Option renaming bind_eq_some_iff->qSK,bind_eq_bind->qSM,pure_def->qSQ,map_some->qSU
open List renaming map_cons->qSR,length_cons->qSS,length_nil->qST,cons_append->qSX,getElem?_cons_zero->qSZ,length_append->qS0,map_nil->qS1,nil_append->qS2
namespace W
set_option maxRecDepth 100000
theorem qCh {pg:Pg} (hx:qt pg.ext) {N:Nat} {T:List Ent} (h:(T.all fun e=>Ent.is (qg5 pg N e.f (e.a.map .d) []) e.r)=true):∀e ∈ T,e.Ok pg:=fun e he=>qdM hx (List.all_eq_true.1 h e he)
theorem qFY:∀e ∈ plE,e.Ok pg:=qCh qsc (N:=1000) (by decide +kernel)
theorem qFM:∀e ∈ plD,e.Ok pg:=qCh qsc (N:=1000) (by decide +kernel)
theorem qG5:pl_f0.Ok pg:=qdM qsc (N:=1000) (by decide +kernel)
theorem qFI:pl_f1.Ok pg:=qdM qsc (N:=1000) (by decide +kernel)
end W
