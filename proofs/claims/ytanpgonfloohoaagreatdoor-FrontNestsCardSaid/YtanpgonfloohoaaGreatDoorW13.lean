/-
  FrontNests, part 13.
-/
import Derived.Test.YtanpgonfloohoaaGreatDoorW11
open Bool renaming cond_eq_ite→qIU,and_eq_true→qIV,false_eq_true→qI1,not_true→qI6
open Option renaming bind_eq_some_iff→qIW,bind_eq_bind→qIZ,pure_def→qI2,map_some→qI5
open Nat renaming eq_of_beq_eq_true→qIX,le_refl→qIY,beq→qI0
open List renaming length_nil→qI3,length_cons→qI4
namespace W
set_option maxRecDepth 100000
theorem qzd:(eSF 0 62).Ok pg1:=kSF (by decide +kernel)
theorem qzU:(eSR 0 62).Ok pg1:=kSR (by decide +kernel)
theorem qC1:(eCF 0 62 0).Ok (pgS 0 62):=kCF (by decide +kernel)
theorem qB5:(eCR 0 62 0).Ok (pgS 0 62):=kCR (by decide +kernel)
theorem qFv:(eTd 0 62).Ok (pgC 0 62 0):=kTd (by decide +kernel)
end W
