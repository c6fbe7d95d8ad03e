/-
  FrontNests, part 28.
-/
import Derived.Test.YtanpgonfloohoaaGreatDoorW11
open Bool renaming cond_eq_ite→qIU,and_eq_true→qIV,false_eq_true→qI1,not_true→qI6
open Option renaming bind_eq_some_iff→qIW,bind_eq_bind→qIZ,pure_def→qI2,map_some→qI5
open Nat renaming eq_of_beq_eq_true→qIX,le_refl→qIY,beq→qI0
open List renaming length_nil→qI3,length_cons→qI4
namespace W
set_option maxRecDepth 100000
theorem qAy:fn_k.Ok pg1:=qf8 qco (N:=1000) (by decide +kernel)
theorem qzp:(eSF 3 5).Ok pg1:=kSF (by decide +kernel)
theorem qzz:(eSR 3 5).Ok pg1:=kSR (by decide +kernel)
theorem qFw:(eCF 3 5 0).Ok (pgS 3 5):=kCF (by decide +kernel)
theorem qB1:(eCR 3 5 0).Ok (pgS 3 5):=kCR (by decide +kernel)
theorem qEe:(eTd 3 5).Ok (pgC 3 5 0):=kTd (by decide +kernel)
theorem qyi:(eSF 3 6).Ok pg1:=kSF (by decide +kernel)
theorem qym:(eSR 3 6).Ok pg1:=kSR (by decide +kernel)
theorem qEb:(eCF 3 6 0).Ok (pgS 3 6):=kCF (by decide +kernel)
theorem qDw:(eCR 3 6 0).Ok (pgS 3 6):=kCR (by decide +kernel)
theorem qCY:(eTd 3 6).Ok (pgC 3 6 0):=kTd (by decide +kernel)
theorem qx5:(eSF 3 7).Ok pg1:=kSF (by decide +kernel)
theorem qz6:(eSR 3 7).Ok pg1:=kSR (by decide +kernel)
theorem qDk:(eCF 3 7 0).Ok (pgS 3 7):=kCF (by decide +kernel)
theorem qE5:(eCR 3 7 0).Ok (pgS 3 7):=kCR (by decide +kernel)
theorem qDX:(eTd 3 7).Ok (pgC 3 7 0):=kTd (by decide +kernel)
theorem qxE:(eSF 3 8).Ok pg1:=kSF (by decide +kernel)
theorem qyh:(eSR 3 8).Ok pg1:=kSR (by decide +kernel)
theorem qCn:(eCF 3 8 120).Ok (pgS 3 8):=kCF (by decide +kernel)
theorem qEH:(eCR 3 8 120).Ok (pgS 3 8):=kCR (by decide +kernel)
theorem qCo:(eTd 3 8).Ok (pgC 3 8 120):=kTd (by decide +kernel)
theorem qzE:(eSF 3 9).Ok pg1:=kSF (by decide +kernel)
theorem qys:(eSR 3 9).Ok pg1:=kSR (by decide +kernel)
theorem qF7:(eCF 3 9 131).Ok (pgS 3 9):=kCF (by decide +kernel)
theorem qFB:(eCR 3 9 131).Ok (pgS 3 9):=kCR (by decide +kernel)
theorem qDl:(eTd 3 9).Ok (pgC 3 9 131):=kTd (by decide +kernel)
end W
