/-
  FrontExports, part 19.
-/
import Derived.Test.YtanpgonfloohoaaGreatDoorX11
open Bool renaming cond_eq_ite→qM3,and_eq_true→qM4,false_eq_true→qNa,not_true→qNd,and_self→qNf
open Nat renaming eq_of_beq_eq_true→qM5,le_refl→qM7,beq→qM8,zero_add→qNe
open Option renaming bind_eq_some_iff→qM6,bind_eq_bind→qM9,pure_def→qNb,map_some→qNc
namespace W
set_option maxRecDepth 100000
theorem qEY:(qd fun b3=>qd fun b4=>qd fun b5=>qZ 2 false false false b3 b4 b5)=true:=by decide +kernel
theorem qCt:(qd fun b3=>qd fun b4=>qd fun b5=>qZ 2 false false true b3 b4 b5)=true:=by decide +kernel
theorem qD1:(qd fun b3=>qd fun b4=>qd fun b5=>qZ 2 false true false b3 b4 b5)=true:=by decide +kernel
theorem qCz:(qd fun b3=>qd fun b4=>qd fun b5=>qZ 2 false true true b3 b4 b5)=true:=by decide +kernel
theorem qDi:(qd fun b3=>qd fun b4=>qd fun b5=>qZ 2 true false false b3 b4 b5)=true:=by decide +kernel
theorem qEt:(qd fun b3=>qd fun b4=>qd fun b5=>qZ 2 true false true b3 b4 b5)=true:=by decide +kernel
theorem qDa:(qd fun b3=>qd fun b4=>qd fun b5=>qZ 2 true true false b3 b4 b5)=true:=by decide +kernel
theorem qCX:(qd fun b3=>qd fun b4=>qd fun b5=>qZ 2 true true true b3 b4 b5)=true:=by decide +kernel
end W
