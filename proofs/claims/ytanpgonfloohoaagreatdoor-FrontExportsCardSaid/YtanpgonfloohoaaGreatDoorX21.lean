/-
  FrontExports, part 21.
-/
import Derived.Test.YtanpgonfloohoaaGreatDoorX11
open Bool renaming cond_eq_ite→qM3,and_eq_true→qM4,false_eq_true→qNa,not_true→qNd,and_self→qNf
open Nat renaming eq_of_beq_eq_true→qM5,le_refl→qM7,beq→qM8,zero_add→qNe
open Option renaming bind_eq_some_iff→qM6,bind_eq_bind→qM9,pure_def→qNb,map_some→qNc
namespace W
set_option maxRecDepth 100000
theorem qER:(qd fun b3=>qd fun b4=>qd fun b5=>qZ 4 false false false b3 b4 b5)=true:=by decide +kernel
theorem qCI:(qd fun b3=>qd fun b4=>qd fun b5=>qZ 4 false false true b3 b4 b5)=true:=by decide +kernel
theorem qEv:(qd fun b3=>qd fun b4=>qd fun b5=>qZ 4 false true false b3 b4 b5)=true:=by decide +kernel
theorem qCM:(qd fun b3=>qd fun b4=>qd fun b5=>qZ 4 false true true b3 b4 b5)=true:=by decide +kernel
theorem qC1:(qd fun b3=>qd fun b4=>qd fun b5=>qZ 4 true false false b3 b4 b5)=true:=by decide +kernel
theorem qDL:(qd fun b3=>qd fun b4=>qd fun b5=>qZ 4 true false true b3 b4 b5)=true:=by decide +kernel
theorem qDQ:(qd fun b3=>qd fun b4=>qd fun b5=>qZ 4 true true false b3 b4 b5)=true:=by decide +kernel
theorem qD0:(qd fun b3=>qd fun b4=>qd fun b5=>qZ 4 true true true b3 b4 b5)=true:=by decide +kernel
end W
