/-
  TypesChain: of records that extend one another, each extends just those ahead of it, for every three bytes.: part 12 of what the proof rests on (a value semantics for a part of the language, sound against the model; the walks).
-/
import Derived.Test.YtbdngljblileeaaDoorW11
set_option linter.unusedVariables false
namespace W
set_option maxRecDepth 20000
theorem ext_run2 : ([9, 10].all fun k => (List.range k).all fun x => (List.range k).all fun y => isD (callJ pg 2000 13 [.d (.s (nm x)), .d (.s (nm y)), .map 0] [.map (es k)]) (.b (decide (y ≤ x)))) = true := by decide +kernel
end W

