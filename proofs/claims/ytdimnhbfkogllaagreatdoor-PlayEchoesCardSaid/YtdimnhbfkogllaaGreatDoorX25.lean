/-
  PlayEchoes, part 25.
-/
import Derived.Test.YtdimnhbfkogllaaGreatDoorCards
import Derived.KernelRfl
import Derived.Test.YtdimnhbfkogllaaGreatDoorX16
import Derived.Test.YtdimnhbfkogllaaGreatDoorX24
set_option linter.unusedSimpArgs false
set_option linter.unusedVariables false
namespace Go.Proofs.YtdimnhbfkogllaaGreatDoor
open Go
set_option maxRecDepth 100000
theorem jf3:(Rows.playEchoesRow.inPlace == Tryz.prog.inPlace 4)=true:=by
 unfold Program.inPlace
 rw [qBt]
 kernel_rfl
end Go.Proofs.YtdimnhbfkogllaaGreatDoor
