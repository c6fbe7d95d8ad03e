/-
  LoaderMany, part 31.
-/
import Derived.Test.YtccijlniolfhlaaGreatDoorW27
open Bool renaming cond_eq_ite->qJo,and_eq_true->qJp,false_eq_true->qJw
open Option renaming bind_eq_some_iff->qJq,bind_eq_bind->qJt,pure_def->qJu
open Nat renaming le_refl->qJr,eq_of_beq_eq_true->qJs,beq->qJv
namespace W
set_option maxRecDepth 100000
theorem qyk:∀e ∈ (lmP.drop 12).take 2,(rdE e).Ok pg1:=fun e he=>qam jV (T:=((lmP.drop 12).take 2).map rdE) (N:=1000) (by decide +kernel) _ (List.mem_map_of_mem he)
theorem qzC:∀e ∈ (lmP.drop 14).take 2,(rdE e).Ok pg1:=fun e he=>qam jV (T:=((lmP.drop 14).take 2).map rdE) (N:=1000) (by decide +kernel) _ (List.mem_map_of_mem he)
theorem qxH:∀e ∈ (lmP.drop 16).take 2,(rdE e).Ok pg1:=fun e he=>qam jV (T:=((lmP.drop 16).take 2).map rdE) (N:=1000) (by decide +kernel) _ (List.mem_map_of_mem he)
end W
