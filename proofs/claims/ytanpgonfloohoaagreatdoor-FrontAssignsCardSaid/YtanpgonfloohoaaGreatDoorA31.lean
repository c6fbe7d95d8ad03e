/-
  FrontAssigns, part 31.
-/
import Derived.Test.YtanpgonfloohoaaGreatDoorA28
open Bool renaming cond_eq_ite->qOx,and_eq_true->qOy,false_eq_true->qOF
open Nat renaming eq_of_beq_eq_true->qOz,le_refl->qOB,beq->qOC,le_of_ble_eq_true->qOH
open Option renaming bind_eq_some_iff->qOA,bind_eq_bind->qOD,pure_def->qOE,map_some->qOG
namespace W
set_option maxRecDepth 100000
theorem qKJ:qJ ((esS.drop 0).take 5) [105]=true:=by decide +kernel
theorem qJi:qJ ((esS.drop 5).take 5) [105]=true:=by decide +kernel
theorem qHa:qJ ((esS.drop 10).take 5) [105]=true:=by decide +kernel
theorem qK7:qJ ((esS.drop 15).take 5) [105]=true:=by decide +kernel
end W
