/-
  LoaderMany, part 29.
-/
import Derived.Test.YtccijlniolfhlaaGreatDoorW27
open Bool renaming cond_eq_ite->qJo,and_eq_true->qJp,false_eq_true->qJw
open Option renaming bind_eq_some_iff->qJq,bind_eq_bind->qJt,pure_def->qJu
open Nat renaming le_refl->qJr,eq_of_beq_eq_true->qJs,beq->qJv
namespace W
set_option maxRecDepth 100000
theorem qAs:∀e ∈ (lmP.drop 0).take 2,(rdE e).Ok pg1:=fun e he=>qam jV (T:=((lmP.drop 0).take 2).map rdE) (N:=1000) (by decide +kernel) _ (List.mem_map_of_mem he)
theorem qAh:∀e ∈ (lmP.drop 2).take 2,(rdE e).Ok pg1:=fun e he=>qam jV (T:=((lmP.drop 2).take 2).map rdE) (N:=1000) (by decide +kernel) _ (List.mem_map_of_mem he)
theorem qAF:∀e ∈ (lmP.drop 4).take 2,(rdE e).Ok pg1:=fun e he=>qam jV (T:=((lmP.drop 4).take 2).map rdE) (N:=1000) (by decide +kernel) _ (List.mem_map_of_mem he)
end W
