/-
  PlayAgrees, part 27.
-/
import Derived.Test.YtdimnhbfkogllaaGreatDoorCards
import Derived.KernelRfl
import Derived.Test.YtdimnhbfkogllaaGreatDoorW16
import Derived.Test.YtdimnhbfkogllaaGreatDoorW24
set_option linter.unusedSimpArgs false
set_option linter.unusedVariables false
namespace Go.Proofs.YtdimnhbfkogllaaGreatDoor
open Go
set_option maxRecDepth 100000
theorem jf6:(Rows.playAgreesRow.named == Tryz.prog.varsNamed 3)=true:=by
 unfold Program.varsNamed
 rw [qB1]
 kernel_rfl
end Go.Proofs.YtdimnhbfkogllaaGreatDoor
