/-
  LoaderMany, part 24.
-/
import Derived.Test.YtccijlniolfhlaaGreatDoorCards
import Derived.KernelRfl
import Derived.Test.YtccijlniolfhlaaGreatDoorW15
import Derived.Test.YtccijlniolfhlaaGreatDoorW22
set_option linter.unusedSimpArgs false
set_option linter.unusedVariables false
namespace Go.Proofs.YtccijlniolfhlaaGreatDoor
open Go
set_option maxRecDepth 100000
theorem unf:Tryz.prog.unfollowed 3=true:=by
 unfold Program.unfollowed
 rw [quK]
 kernel_rfl
theorem jf4:(Rows.loaderManyRow.unfollowed == Tryz.prog.unfollowed 3)=true:=by rw [unf];rfl
theorem jf5:(Rows.loaderManyRow.recurses == Tryz.prog.recurses 3)=true:=by rw [qpE unf];rfl
end Go.Proofs.YtccijlniolfhlaaGreatDoor
