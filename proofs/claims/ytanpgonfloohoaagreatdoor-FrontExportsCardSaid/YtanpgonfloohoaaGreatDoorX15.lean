/-
  FrontExports, part 15.
-/
import Derived.Test.YtanpgonfloohoaaGreatDoorX11
open Bool renaming cond_eq_ite→qM3,and_eq_true→qM4,false_eq_true→qNa,not_true→qNd,and_self→qNf
open Nat renaming eq_of_beq_eq_true→qM5,le_refl→qM7,beq→qM8,zero_add→qNe
open Option renaming bind_eq_some_iff→qM6,bind_eq_bind→qM9,pure_def→qNb,map_some→qNc
namespace W
set_option maxRecDepth 100000
theorem qFc:(qd fun b5=>yq true false false false false b5)=true:=by decide +kernel
theorem qEi:(qd fun b5=>yq true false false false true b5)=true:=by decide +kernel
theorem qCA:(qd fun b5=>yq true false false true false b5)=true:=by decide +kernel
theorem qEr:(qd fun b5=>yq true false false true true b5)=true:=by decide +kernel
theorem qD4:(qd fun b5=>yq true false true false false b5)=true:=by decide +kernel
theorem qDJ:(qd fun b5=>yq true false true false true b5)=true:=by decide +kernel
theorem qEd:(qd fun b5=>yq true false true true false b5)=true:=by decide +kernel
theorem qEf:(qd fun b5=>yq true false true true true b5)=true:=by decide +kernel
end W
