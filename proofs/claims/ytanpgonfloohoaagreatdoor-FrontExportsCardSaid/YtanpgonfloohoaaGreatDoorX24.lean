/-
  FrontExports, part 24.
-/
import Derived.Test.YtanpgonfloohoaaGreatDoorX11
open Bool renaming cond_eq_ite→qM3,and_eq_true→qM4,false_eq_true→qNa,not_true→qNd,and_self→qNf
open Nat renaming eq_of_beq_eq_true→qM5,le_refl→qM7,beq→qM8,zero_add→qNe
open Option renaming bind_eq_some_iff→qM6,bind_eq_bind→qM9,pure_def→qNb,map_some→qNc
namespace W
set_option maxRecDepth 100000
theorem qEj:(qd fun b3=>qd fun b4=>qd fun b5=>qZ 7 false false false b3 b4 b5)=true:=by decide +kernel
theorem qDd:(qd fun b3=>qd fun b4=>qd fun b5=>qZ 7 false false true b3 b4 b5)=true:=by decide +kernel
theorem qD5:(qd fun b3=>qd fun b4=>qd fun b5=>qZ 7 false true false b3 b4 b5)=true:=by decide +kernel
theorem qEg:(qd fun b3=>qd fun b4=>qd fun b5=>qZ 7 false true true b3 b4 b5)=true:=by decide +kernel
theorem qC2:(qd fun b3=>qd fun b4=>qd fun b5=>qZ 7 true false false b3 b4 b5)=true:=by decide +kernel
theorem qCK:(qd fun b3=>qd fun b4=>qd fun b5=>qZ 7 true false true b3 b4 b5)=true:=by decide +kernel
theorem qC9:(qd fun b3=>qd fun b4=>qd fun b5=>qZ 7 true true false b3 b4 b5)=true:=by decide +kernel
theorem qFe:(qd fun b3=>qd fun b4=>qd fun b5=>qZ 7 true true true b3 b4 b5)=true:=by decide +kernel
end W
