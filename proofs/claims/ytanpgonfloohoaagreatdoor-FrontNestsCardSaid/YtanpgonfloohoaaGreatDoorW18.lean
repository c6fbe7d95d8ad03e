/-
  FrontNests, part 18.
-/
import Derived.Test.YtanpgonfloohoaaGreatDoorW11
open Bool renaming cond_eq_ite→qIU,and_eq_true→qIV,false_eq_true→qI1,not_true→qI6
open Option renaming bind_eq_some_iff→qIW,bind_eq_bind→qIZ,pure_def→qI2,map_some→qI5
open Nat renaming eq_of_beq_eq_true→qIX,le_refl→qIY,beq→qI0
open List renaming length_nil→qI3,length_cons→qI4
namespace W
set_option maxRecDepth 100000
theorem qxn:(eSF 1 62).Ok pg1:=kSF (by decide +kernel)
theorem qx8:(eSR 1 62).Ok pg1:=kSR (by decide +kernel)
theorem qEA:(eCF 1 62 0).Ok (pgS 1 62):=kCF (by decide +kernel)
theorem qDg:(eCR 1 62 0).Ok (pgS 1 62):=kCR (by decide +kernel)
theorem qF9:(eTd 1 62).Ok (pgC 1 62 0):=kTd (by decide +kernel)
end W
