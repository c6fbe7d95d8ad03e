/-
  TypesChain: of records that extend one another, each extends just those ahead of it, for every three bytes.: part 6 of what the proof rests on (a value semantics for a part of the language, sound against the model; the walks).
-/
import Derived.Test.YtbdngljblileeaaDoorW5
set_option linter.unusedVariables false
namespace W
set_option maxRecDepth 20000
theorem fields_run1 : ((List.range 11).all fun k => (List.range k).all fun x => isTup (callJ pg 2000 10 [.d (.s (nm x)), .map 0] [.map (es k)]) [.sl (fl (x + 1)), .b true]) = true := by decide +kernel
end W

