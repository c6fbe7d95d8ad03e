/-
  FrontExports, part 14.
-/
import Derived.Test.YtanpgonfloohoaaGreatDoorX11
open Bool renaming cond_eq_ite→qM3,and_eq_true→qM4,false_eq_true→qNa,not_true→qNd,and_self→qNf
open Nat renaming eq_of_beq_eq_true→qM5,le_refl→qM7,beq→qM8,zero_add→qNe
open Option renaming bind_eq_some_iff→qM6,bind_eq_bind→qM9,pure_def→qNb,map_some→qNc
namespace W
set_option maxRecDepth 100000
theorem qDM:(qd fun b5=>yq false true false false false b5)=true:=by decide +kernel
theorem qEE:(qd fun b5=>yq false true false false true b5)=true:=by decide +kernel
theorem qEW:(qd fun b5=>yq false true false true false b5)=true:=by decide +kernel
theorem qE8:(qd fun b5=>yq false true false true true b5)=true:=by decide +kernel
theorem qDu:(qd fun b5=>yq false true true false false b5)=true:=by decide +kernel
theorem qEy:(qd fun b5=>yq false true true false true b5)=true:=by decide +kernel
theorem qET:(qd fun b5=>yq false true true true false b5)=true:=by decide +kernel
theorem qEc:(qd fun b5=>yq false true true true true b5)=true:=by decide +kernel
end W
