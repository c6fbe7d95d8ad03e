/-
  LoaderMany, part 28.
-/
import Derived.Test.YtccijlniolfhlaaGreatDoorW27
open Bool renaming cond_eq_ite->qJo,and_eq_true->qJp,false_eq_true->qJw
open Option renaming bind_eq_some_iff->qJq,bind_eq_bind->qJt,pure_def->qJu
open Nat renaming le_refl->qJr,eq_of_beq_eq_true->qJs,beq->qJv
namespace W
set_option maxRecDepth 100000
theorem qvA:∀e ∈ qAz,e.Ok pg:=qam qzP (N:=1000) (by decide +kernel)
theorem qAy:lm_k.Ok pg1:=qxL jV (N:=1000) (by decide +kernel)
theorem qFR:∀e ∈ lmP,e.Ok pg1:=qam jV (N:=1000) (by decide +kernel)
end W
