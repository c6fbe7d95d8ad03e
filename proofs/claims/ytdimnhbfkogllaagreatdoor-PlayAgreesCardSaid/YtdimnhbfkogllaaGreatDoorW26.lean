/-
  PlayAgrees, part 26.
-/
import Derived.Test.YtdimnhbfkogllaaGreatDoorCards
import Derived.KernelRfl
import Derived.Test.YtdimnhbfkogllaaGreatDoorW16
import Derived.Test.YtdimnhbfkogllaaGreatDoorW24
set_option linter.unusedSimpArgs false
set_option linter.unusedVariables false
namespace Go.Proofs.YtdimnhbfkogllaaGreatDoor
open Go
set_option maxRecDepth 100000
theorem unf:Tryz.prog.unfollowed 3=true:=by
 unfold Program.unfollowed
 rw [qB1]
 kernel_rfl
theorem jf4:(Rows.playAgreesRow.unfollowed == Tryz.prog.unfollowed 3)=true:=by rw [unf];rfl
theorem jf5:(Rows.playAgreesRow.recurses == Tryz.prog.recurses 3)=true:=by rw [qtM unf];rfl
end Go.Proofs.YtdimnhbfkogllaaGreatDoor
