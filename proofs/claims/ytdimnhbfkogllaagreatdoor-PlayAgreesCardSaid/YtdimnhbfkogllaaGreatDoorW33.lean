/-
  PlayAgrees, part 33.
-/
import Derived.Test.YtdimnhbfkogllaaGreatDoorW30
open Bool renaming cond_eq_ite->qS5,and_eq_true->qS6,false_eq_true->qTb,and_self->qTc,not_true->qTl
open Nat renaming le_refl->qS7,eq_of_beq_eq_true->qS9,beq->qTd,zero_add->qTf,le_of_ble_eq_true->qTq
open Option renaming bind_eq_some_iff->qS8,bind_eq_bind->qTa,map_some->qTh,pure_def->qTj
open List renaming map_cons->qTe,getElem?_cons_zero->qTg,length_nil->qTi,length_cons->qTk,map_nil->qTm,cons_append->qTn,getElem?_cons_succ->qTo,length_append->qTp,nil_append->qTr
namespace W
set_option maxRecDepth 100000
theorem qCh:pl_g.Ok pgG:=qdy qCs (N:=1000) (by decide +kernel)
end W
