/-
  StackLimits: part 21 of what the proof rests on (a value semantics for a part of the language, sound against the model; the walks).
-/
import Derived.Test.YtmaninacgfbecaaGreatW20
open Nat renaming beq → qCy, le_refl → qCC, eq_of_beq_eq_true → qCD
open Bool renaming and_eq_true → qCz, cond_eq_ite → qCA, false_eq_true → qCG
open Option renaming bind_eq_some_iff → qCB, bind_eq_bind → qCE, pure_def → qCF, map_some → qCH
namespace W
set_option maxRecDepth 100000
theorem qvS : sl_r2.Ok pg2 := qT qeL (N := 1000) (by decide +kernel)
end W

