/-
  FrontNests, part 22.
-/
import Derived.Test.YtanpgonfloohoaaGreatDoorW11
open Bool renaming cond_eq_ite→qIU,and_eq_true→qIV,false_eq_true→qI1,not_true→qI6
open Option renaming bind_eq_some_iff→qIW,bind_eq_bind→qIZ,pure_def→qI2,map_some→qI5
open Nat renaming eq_of_beq_eq_true→qIX,le_refl→qIY,beq→qI0
open List renaming length_nil→qI3,length_cons→qI4
namespace W
set_option maxRecDepth 100000
theorem qxg:(eSF 1 66).Ok pg1:=kSF (by decide +kernel)
theorem qyj:(eSR 1 66).Ok pg1:=kSR (by decide +kernel)
theorem qEE:(eCF 1 66 309).Ok (pgS 1 66):=kCF (by decide +kernel)
theorem qGj:(eCR 1 66 309).Ok (pgS 1 66):=kCR (by decide +kernel)
theorem qBP:(eTd 1 66).Ok (pgC 1 66 309):=kTd (by decide +kernel)
end W
