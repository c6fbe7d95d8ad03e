/-
  A module is looked at beside others: what it imports is there, and exported; both checkers, of every mask, use and import.: part 9 of what the proof rests on (a value semantics for a part of the language, sound against the model; the walks).
-/
import Derived.KernelRfl
import Derived.Test.YtdgbjjpdepdmmaaGreatDoorW8
open Bool renaming false_eq_true → qFs, and_eq_true → qFt, cond_eq_ite → qFA, and_self → qFD, or_true → qFE, or_self → qFM, not_true → qFO
open List renaming getElem?_cons_zero → qFu, getElem?_cons_succ → qFy, map_cons → qFz, length_cons → qFF, length_nil → qFG, map_nil → qFI, set_cons_zero → qFJ, set_cons_succ → qFL, take_succ_cons → qFP, drop_zero → qFQ
open Option renaming map_some → qFv, bind_eq_some_iff → qFB, bind_eq_bind → qFH, pure_def → qFN
open Nat renaming le_refl → qFw, beq → qFx, zero_add → qFC, eq_of_beq_eq_true → qFK
namespace W
open Go (IntKind)
theorem r1f (x y z : Bool) : both (m1 false) (lD x y z) false = true := by kernel_rfl
theorem r1t (x y z : Bool) : both (m1 true) (lD x y z) y = true := by
  cases x <;> cases y <;> cases z <;> kernel_rfl
theorem r1l (i : Bool) : lone (m1 i) false = true := by
  cases i <;> kernel_rfl
end W

