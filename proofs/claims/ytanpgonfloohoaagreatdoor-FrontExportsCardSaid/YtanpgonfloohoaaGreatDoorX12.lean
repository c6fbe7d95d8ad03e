/-
  FrontExports, part 12.
-/
import Derived.Test.YtanpgonfloohoaaGreatDoorX11
open Bool renaming cond_eq_ite→qM3,and_eq_true→qM4,false_eq_true→qNa,not_true→qNd,and_self→qNf
open Nat renaming eq_of_beq_eq_true→qM5,le_refl→qM7,beq→qM8,zero_add→qNe
open Option renaming bind_eq_some_iff→qM6,bind_eq_bind→qM9,pure_def→qNb,map_some→qNc
namespace W
set_option maxRecDepth 100000
theorem qCv {pg:Pg} (hx:qy pg.ext) {N:Nat} {T:List Ent} (h:(T.all fun e=>Ent.is (qaO pg N e.f (e.a.map .d) []) e.r)=true):∀e ∈ T,e.Ok pg:=fun e he=>qa9 hx (List.all_eq_true.1 h e he)
theorem qCx:∀e ∈ quF,e.Ok pg:=qCv qwD (N:=1000) (by decide +kernel)
theorem qC0:fe_k.Ok pg1:=qa9 j0 (N:=1000) (by decide +kernel)
theorem qMO:(eSa 0).Ok pg1:=qa9 j0 (N:=1000) (by decide +kernel)
theorem qMU:(eSa 1).Ok pg1:=qa9 j0 (N:=1000) (by decide +kernel)
theorem qMB:(eSa 2).Ok pg1:=qa9 j0 (N:=1000) (by decide +kernel)
theorem qMM:(eSa 3).Ok pg1:=qa9 j0 (N:=1000) (by decide +kernel)
theorem qMW:(eSa 4).Ok pg1:=qa9 j0 (N:=1000) (by decide +kernel)
theorem qMl:(eSa 5).Ok pg1:=qa9 j0 (N:=1000) (by decide +kernel)
theorem qMZ:qqt 0=true:=by decide +kernel
theorem qMQ:qqt 1=true:=by decide +kernel
theorem qM2:qqt 2=true:=by decide +kernel
theorem qMY:qqt 3=true:=by decide +kernel
theorem qMG:qqt 4=true:=by decide +kernel
theorem qMJ:qqt 5=true:=by decide +kernel
theorem qML:qqt 6=true:=by decide +kernel
theorem qMt:qqt 7=true:=by decide +kernel
end W
