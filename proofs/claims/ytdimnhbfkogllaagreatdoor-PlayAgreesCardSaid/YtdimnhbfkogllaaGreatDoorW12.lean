/-
  PlayAgrees, part 12.
-/
import Derived.Test.YtdimnhbfkogllaaGreatDoorCards
import Derived.LaidByTextLater
import Derived.SevenTiedAt
import Derived.WalkKit
import Derived.ProofKit
import Derived.OpenShut
import Derived.Deep.DeepHandedRow
import Derived.Deep.DeepWitnessRowRef
import Derived.Lib.LaidTab
import Derived.Lay
import Derived.Test.YtdimnhbfkogllaaGreatDoorW5
import Derived.Test.YtdimnhbfkogllaaGreatDoorW10
set_option linter.unusedSimpArgs false
set_option linter.unusedVariables false
/- What the row lists is what the program says. -/
namespace Go.Proofs.YtdimnhbfkogllaaGreatDoor
open Go.ChangeShapes Go.WideShapes Go.ChangeAt Go.RowKit W
set_option maxRecDepth 100000
open Go
set_option maxHeartbeats 20000000
theorem qGR:∀os tape,varsDone Tryz.prog 400 742 os tape=true:=fun _ _=>by kernel_rfl
theorem qPS:∀os tape,varsDone Tryz.prog 400 (varsId Tryz.prog) os tape=true:=by
 rw [qnB]
 exact qGR
end Go.Proofs.YtdimnhbfkogllaaGreatDoor
