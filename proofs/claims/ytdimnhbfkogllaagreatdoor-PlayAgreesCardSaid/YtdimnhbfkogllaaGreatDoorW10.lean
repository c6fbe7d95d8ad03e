/-
  PlayAgrees, part 10.
-/
import Derived.Test.YtdimnhbfkogllaaGreatDoorCards
import Derived.LaidByTextLater
import Derived.SevenTiedAt
import Derived.WalkKit
import Derived.ProofKit
import Derived.OpenShut
import Derived.Deep.DeepHandedRow
import Derived.Deep.DeepWitnessRowRef
import Derived.Lib.LaidTab
import Derived.Lay
import Derived.Test.YtdimnhbfkogllaaGreatDoorW5
set_option linter.unusedSimpArgs false
set_option linter.unusedVariables false
/- What the row lists is what the program says. -/
namespace Go.Proofs.YtdimnhbfkogllaaGreatDoor
open Go.ChangeShapes Go.WideShapes Go.ChangeAt Go.RowKit W
set_option maxRecDepth 100000
open Go
set_option maxHeartbeats 20000000 in
theorem varsNamed:Tryz.prog.funcNamed "gosem.cut.vars" =some 742:=by kernel_rfl
theorem qnB:varsId Tryz.prog=742:=by
 unfold varsId
 rw [varsNamed]
 rfl
theorem qGF:(Tryz.prog.funcNamed "gosem.cut.vars").isSome=true:=by rw [varsNamed];rfl
end Go.Proofs.YtdimnhbfkogllaaGreatDoor
