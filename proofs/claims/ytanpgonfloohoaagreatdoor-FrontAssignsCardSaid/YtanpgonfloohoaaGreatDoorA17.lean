/-
  FrontAssigns, part 17.
-/
import Derived.Test.YtanpgonfloohoaaGreatDoorCards
import Derived.KernelRfl
import Derived.Test.YtanpgonfloohoaaGreatDoorA10
import Derived.Test.YtanpgonfloohoaaGreatDoorA16
set_option linter.unusedSimpArgs false
set_option linter.unusedVariables false
namespace Go.Proofs.YtanpgonfloohoaaGreatDoor
open Go
set_option maxRecDepth 100000
theorem jf3:(Rows.frontAssignsRow.inPlace == Tryz.prog.inPlace 6)=true:=by
 unfold Program.inPlace
 rw [qwN]
 kernel_rfl
end Go.Proofs.YtanpgonfloohoaaGreatDoor
