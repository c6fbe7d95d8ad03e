/-
  PlayEchoes, part 32.
-/
import Derived.Test.YtdimnhbfkogllaaGreatDoorX30
open Bool renaming cond_eq_ite->qSH,and_eq_true->qSI,false_eq_true->qSO,and_self->qSP,not_true->qSW
open Nat renaming le_refl->qSJ,eq_of_beq_eq_true->qSL,beq->qSN,zero_add->qSV,le_of_ble_eq_true->qSY
open Option renaming bind_eq_some_iff->qSK,bind_eq_bind->qSM,pure_def->qSQ,map_some->qSU
open List renaming map_cons->qSR,length_cons->qSS,length_nil->qST,cons_append->qSX,getElem?_cons_zero->qSZ,length_append->qS0,map_nil->qS1,nil_append->qS2
namespace W
set_option maxRecDepth 100000
theorem qCk:pl_c.Ok pg1:=qdM qnx (N:=1000) (by decide +kernel)
theorem qIe:pl_d.Ok pg1:=qdM qnx (N:=1000) (by decide +kernel)
theorem qHF:pl_t.Ok pg1:=qdM qnx (N:=1000) (by decide +kernel)
theorem qE0:pl_l0.Ok pg1:=qdM qnx (N:=1000) (by decide +kernel)
theorem qHg:pl_l1.Ok pg1:=qdM qnx (N:=1000) (by decide +kernel)
end W
