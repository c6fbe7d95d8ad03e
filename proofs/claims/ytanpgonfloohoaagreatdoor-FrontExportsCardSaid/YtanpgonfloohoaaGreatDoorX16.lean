/-
  FrontExports, part 16.
-/
import Derived.Test.YtanpgonfloohoaaGreatDoorX11
open Bool renaming cond_eq_ite→qM3,and_eq_true→qM4,false_eq_true→qNa,not_true→qNd,and_self→qNf
open Nat renaming eq_of_beq_eq_true→qM5,le_refl→qM7,beq→qM8,zero_add→qNe
open Option renaming bind_eq_some_iff→qM6,bind_eq_bind→qM9,pure_def→qNb,map_some→qNc
namespace W
set_option maxRecDepth 100000
theorem qCY:(qd fun b5=>yq true true false false false b5)=true:=by decide +kernel
theorem qFi:(qd fun b5=>yq true true false false true b5)=true:=by decide +kernel
theorem qEl:(qd fun b5=>yq true true false true false b5)=true:=by decide +kernel
theorem qDw:(qd fun b5=>yq true true false true true b5)=true:=by decide +kernel
theorem qCS:(qd fun b5=>yq true true true false false b5)=true:=by decide +kernel
theorem qEh:(qd fun b5=>yq true true true false true b5)=true:=by decide +kernel
theorem qCQ:(qd fun b5=>yq true true true true false b5)=true:=by decide +kernel
theorem qCU:(qd fun b5=>yq true true true true true b5)=true:=by decide +kernel
end W
