/-
  PlayAgrees, part 31.
-/
import Derived.Test.YtdimnhbfkogllaaGreatDoorW30
open Bool renaming cond_eq_ite->qS5,and_eq_true->qS6,false_eq_true->qTb,and_self->qTc,not_true->qTl
open Nat renaming le_refl->qS7,eq_of_beq_eq_true->qS9,beq->qTd,zero_add->qTf,le_of_ble_eq_true->qTq
open Option renaming bind_eq_some_iff->qS8,bind_eq_bind->qTa,map_some->qTh,pure_def->qTj
open List renaming map_cons->qTe,getElem?_cons_zero->qTg,length_nil->qTi,length_cons->qTk,map_nil->qTm,cons_append->qTn,getElem?_cons_succ->qTo,length_append->qTp,nil_append->qTr
namespace W
set_option maxRecDepth 100000
theorem qCS {pg:Pg} (hx:qw pg.ext) {N:Nat} {T:List Ent} (h:(T.all fun e=>Ent.is (qg9 pg N e.f (e.a.map .d) []) e.r)=true):∀e ∈ T,e.Ok pg:=fun e he=>qdy hx (List.all_eq_true.1 h e he)
theorem qGM:∀e ∈ plE,e.Ok pg:=qCS qsi (N:=1000) (by decide +kernel)
theorem qE8:∀e ∈ plD,e.Ok pg:=qCS qsi (N:=1000) (by decide +kernel)
theorem qG7:pl_f0.Ok pg:=qdy qsi (N:=1000) (by decide +kernel)
theorem qFD:pl_f1.Ok pg:=qdy qsi (N:=1000) (by decide +kernel)
end W
