/-
  FrontNests, part 12.
-/
import Derived.Test.YtanpgonfloohoaaGreatDoorW11
open Bool renaming cond_eq_ite→qIU,and_eq_true→qIV,false_eq_true→qI1,not_true→qI6
open Option renaming bind_eq_some_iff→qIW,bind_eq_bind→qIZ,pure_def→qI2,map_some→qI5
open Nat renaming eq_of_beq_eq_true→qIX,le_refl→qIY,beq→qI0
open List renaming length_nil→qI3,length_cons→qI4
namespace W
set_option maxRecDepth 100000
theorem qAY {pg:Pg} (hx:qz pg.ext) {N:Nat} {T:List Ent} (h:(T.all fun e=>Ent.is (qai pg N e.f (e.a.map .d) []) e.r)=true):∀e ∈ T,e.Ok pg:=fun e he=>qf8 hx (List.all_eq_true.1 h e he)
theorem qAX:∀e ∈ qlD,e.Ok pg:=qAY qud (N:=1000) (by decide +kernel)
end W
