/-
  FrontAssigns, part 18.
-/
import Derived.Test.YtanpgonfloohoaaGreatDoorCards
import Derived.KernelRfl
import Derived.Test.YtanpgonfloohoaaGreatDoorA10
import Derived.Test.YtanpgonfloohoaaGreatDoorA16
set_option linter.unusedSimpArgs false
set_option linter.unusedVariables false
namespace Go.Proofs.YtanpgonfloohoaaGreatDoor
open Go
set_option maxRecDepth 100000
theorem unf:Tryz.prog.unfollowed 6=true:=by
 unfold Program.unfollowed
 rw [qwN]
 kernel_rfl
theorem jf4:(Rows.frontAssignsRow.unfollowed == Tryz.prog.unfollowed 6)=true:=by rw [unf];rfl
theorem jf5:(Rows.frontAssignsRow.recurses == Tryz.prog.recurses 6)=true:=by rw [qqp unf];rfl
end Go.Proofs.YtanpgonfloohoaaGreatDoor
