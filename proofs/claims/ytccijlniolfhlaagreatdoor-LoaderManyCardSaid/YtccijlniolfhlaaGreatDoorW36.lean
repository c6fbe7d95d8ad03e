/-
  LoaderMany, part 36.
-/
import Derived.Test.YtccijlniolfhlaaGreatDoorW27
open Bool renaming cond_eq_ite->qJo,and_eq_true->qJp,false_eq_true->qJw
open Option renaming bind_eq_some_iff->qJq,bind_eq_bind->qJt,pure_def->qJu
open Nat renaming le_refl->qJr,eq_of_beq_eq_true->qJs,beq->qJv
namespace W
set_option maxRecDepth 100000
theorem qCc:qsF 18=true:=by decide +kernel
end W
