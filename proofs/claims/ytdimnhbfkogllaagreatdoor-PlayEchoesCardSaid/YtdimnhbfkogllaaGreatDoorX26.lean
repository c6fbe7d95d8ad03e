/-
  PlayEchoes, part 26.
-/
import Derived.Test.YtdimnhbfkogllaaGreatDoorCards
import Derived.KernelRfl
import Derived.Test.YtdimnhbfkogllaaGreatDoorX16
import Derived.Test.YtdimnhbfkogllaaGreatDoorX24
set_option linter.unusedSimpArgs false
set_option linter.unusedVariables false
namespace Go.Proofs.YtdimnhbfkogllaaGreatDoor
open Go
set_option maxRecDepth 100000
theorem unf:Tryz.prog.unfollowed 4=true:=by
 unfold Program.unfollowed
 rw [qBt]
 kernel_rfl
theorem jf4:(Rows.playEchoesRow.unfollowed == Tryz.prog.unfollowed 4)=true:=by rw [unf];rfl
theorem jf5:(Rows.playEchoesRow.recurses == Tryz.prog.recurses 4)=true:=by rw [quT unf];rfl
end Go.Proofs.YtdimnhbfkogllaaGreatDoor
