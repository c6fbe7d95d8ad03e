/-
  PlayEchoes, part 27.
-/
import Derived.Test.YtdimnhbfkogllaaGreatDoorCards
import Derived.KernelRfl
import Derived.Test.YtdimnhbfkogllaaGreatDoorX16
import Derived.Test.YtdimnhbfkogllaaGreatDoorX24
set_option linter.unusedSimpArgs false
set_option linter.unusedVariables false
namespace Go.Proofs.YtdimnhbfkogllaaGreatDoor
open Go
set_option maxRecDepth 100000
theorem jf6:(Rows.playEchoesRow.named == Tryz.prog.varsNamed 4)=true:=by
 unfold Program.varsNamed
 rw [qBt]
 kernel_rfl
end Go.Proofs.YtdimnhbfkogllaaGreatDoor
