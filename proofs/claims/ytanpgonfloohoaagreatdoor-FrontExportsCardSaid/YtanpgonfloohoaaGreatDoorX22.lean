/-
  FrontExports, part 22.
-/
import Derived.Test.YtanpgonfloohoaaGreatDoorX11
open Bool renaming cond_eq_ite→qM3,and_eq_true→qM4,false_eq_true→qNa,not_true→qNd,and_self→qNf
open Nat renaming eq_of_beq_eq_true→qM5,le_refl→qM7,beq→qM8,zero_add→qNe
open Option renaming bind_eq_some_iff→qM6,bind_eq_bind→qM9,pure_def→qNb,map_some→qNc
namespace W
set_option maxRecDepth 100000
theorem qDc:(qd fun b3=>qd fun b4=>qd fun b5=>qZ 5 false false false b3 b4 b5)=true:=by decide +kernel
theorem qCB:(qd fun b3=>qd fun b4=>qd fun b5=>qZ 5 false false true b3 b4 b5)=true:=by decide +kernel
theorem qDF:(qd fun b3=>qd fun b4=>qd fun b5=>qZ 5 false true false b3 b4 b5)=true:=by decide +kernel
theorem qC3:(qd fun b3=>qd fun b4=>qd fun b5=>qZ 5 false true true b3 b4 b5)=true:=by decide +kernel
theorem qFh:(qd fun b3=>qd fun b4=>qd fun b5=>qZ 5 true false false b3 b4 b5)=true:=by decide +kernel
theorem qEA:(qd fun b3=>qd fun b4=>qd fun b5=>qZ 5 true false true b3 b4 b5)=true:=by decide +kernel
theorem qDs:(qd fun b3=>qd fun b4=>qd fun b5=>qZ 5 true true false b3 b4 b5)=true:=by decide +kernel
theorem qCG:(qd fun b3=>qd fun b4=>qd fun b5=>qZ 5 true true true b3 b4 b5)=true:=by decide +kernel
end W
