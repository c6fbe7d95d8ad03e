/-
  PlayAgrees, part 25.
-/
import Derived.Test.YtdimnhbfkogllaaGreatDoorCards
import Derived.KernelRfl
import Derived.Test.YtdimnhbfkogllaaGreatDoorW16
import Derived.Test.YtdimnhbfkogllaaGreatDoorW24
set_option linter.unusedSimpArgs false
set_option linter.unusedVariables false
namespace Go.Proofs.YtdimnhbfkogllaaGreatDoor
open Go
set_option maxRecDepth 100000
theorem jf3:(Rows.playAgreesRow.inPlace == Tryz.prog.inPlace 3)=true:=by
 unfold Program.inPlace
 rw [qB1]
 kernel_rfl
end Go.Proofs.YtdimnhbfkogllaaGreatDoor
