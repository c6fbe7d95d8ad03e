/-
  LoaderMany, part 25.
-/
import Derived.Test.YtccijlniolfhlaaGreatDoorCards
import Derived.KernelRfl
import Derived.Test.YtccijlniolfhlaaGreatDoorW15
import Derived.Test.YtccijlniolfhlaaGreatDoorW22
set_option linter.unusedSimpArgs false
set_option linter.unusedVariables false
namespace Go.Proofs.YtccijlniolfhlaaGreatDoor
open Go
set_option maxRecDepth 100000
theorem jf6:(Rows.loaderManyRow.named == Tryz.prog.varsNamed 3)=true:=by
 unfold Program.varsNamed
 rw [quK]
 kernel_rfl
end Go.Proofs.YtccijlniolfhlaaGreatDoor
