/-
  FrontNests, part 24.
-/
import Derived.Test.YtanpgonfloohoaaGreatDoorW11
open Bool renaming cond_eq_ite→qIU,and_eq_true→qIV,false_eq_true→qI1,not_true→qI6
open Option renaming bind_eq_some_iff→qIW,bind_eq_bind→qIZ,pure_def→qI2,map_some→qI5
open Nat renaming eq_of_beq_eq_true→qIX,le_refl→qIY,beq→qI0
open List renaming length_nil→qI3,length_cons→qI4
namespace W
set_option maxRecDepth 100000
theorem qEY:(eSm 2 63).Ok pg1:=kSm (by decide +kernel)
theorem qB3:(eCl 2 63).Ok pg1:=kCl (by decide +kernel)
theorem qxe:(eSF 2 63).Ok pg1:=kSF (by decide +kernel)
theorem qzO:(eSR 2 63).Ok pg1:=kSR (by decide +kernel)
theorem qGp:(eCF 2 63 0).Ok (pgM 2 63):=kCM (by decide +kernel)
theorem qDh:(eCR 2 63 0).Ok (pgS 2 63):=kCR (by decide +kernel)
theorem qB0:(eTd 2 63).Ok (pgC 2 63 0):=kTd (by decide +kernel)
end W
