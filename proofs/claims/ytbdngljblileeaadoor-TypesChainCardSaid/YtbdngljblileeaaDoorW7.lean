/-
  TypesChain: of records that extend one another, each extends just those ahead of it, for every three bytes.: part 7 of what the proof rests on (a value semantics for a part of the language, sound against the model; the walks).
-/
import Derived.Test.YtbdngljblileeaaDoorW6
set_option linter.unusedVariables false
namespace W
set_option maxRecDepth 20000
theorem words_run1 : ((List.range 10).all fun k => (List.range k).all fun x => isTup (callJ pg 2000 17 [.d (.agg [.i .i64 8, .i .i64 0, .s (nm x), .nil]), .map 0] [.map (es k)]) [.i .i64 (((x + 1) * (x + 2) / 2 : Nat) : Int), .b true]) = true := by decide +kernel
end W

