/-
  LoaderMany, part 23.
-/
import Derived.Test.YtccijlniolfhlaaGreatDoorCards
import Derived.KernelRfl
import Derived.Test.YtccijlniolfhlaaGreatDoorW15
import Derived.Test.YtccijlniolfhlaaGreatDoorW22
set_option linter.unusedSimpArgs false
set_option linter.unusedVariables false
namespace Go.Proofs.YtccijlniolfhlaaGreatDoor
open Go
set_option maxRecDepth 100000
theorem jf3:(Rows.loaderManyRow.inPlace == Tryz.prog.inPlace 3)=true:=by
 unfold Program.inPlace
 rw [quK]
 kernel_rfl
end Go.Proofs.YtccijlniolfhlaaGreatDoor
