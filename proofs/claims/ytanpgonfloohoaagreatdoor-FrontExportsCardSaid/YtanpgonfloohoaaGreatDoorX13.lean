/-
  FrontExports, part 13.
-/
import Derived.Test.YtanpgonfloohoaaGreatDoorX11
open Bool renaming cond_eq_ite→qM3,and_eq_true→qM4,false_eq_true→qNa,not_true→qNd,and_self→qNf
open Nat renaming eq_of_beq_eq_true→qM5,le_refl→qM7,beq→qM8,zero_add→qNe
open Option renaming bind_eq_some_iff→qM6,bind_eq_bind→qM9,pure_def→qNb,map_some→qNc
namespace W
set_option maxRecDepth 100000
theorem qC7:(qd fun b5=>yq false false false false false b5)=true:=by decide +kernel
theorem qCs:(qd fun b5=>yq false false false false true b5)=true:=by decide +kernel
theorem qCV:(qd fun b5=>yq false false false true false b5)=true:=by decide +kernel
theorem qFm:(qd fun b5=>yq false false false true true b5)=true:=by decide +kernel
theorem qCO:(qd fun b5=>yq false false true false false b5)=true:=by decide +kernel
theorem qDS:(qd fun b5=>yq false false true false true b5)=true:=by decide +kernel
theorem qEB:(qd fun b5=>yq false false true true false b5)=true:=by decide +kernel
theorem qC5:(qd fun b5=>yq false false true true true b5)=true:=by decide +kernel
end W
