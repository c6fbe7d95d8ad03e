/-
  LoaderMany, part 26.
-/
import Derived.Test.YtccijlniolfhlaaGreatDoorCards
import Derived.LaidByTextLater
import Derived.SevenTiedAt
import Derived.WalkKit
import Derived.ProofKit
import Derived.OpenShut
import Derived.Deep.DeepHandedRow
import Derived.Deep.DeepWitnessRowRef
import Derived.Lib.LaidTab
import Derived.Lay
import Derived.Test.YtccijlniolfhlaaGreatDoorW5
import Derived.Test.YtccijlniolfhlaaGreatDoorW16
import Derived.Test.YtccijlniolfhlaaGreatDoorW23
import Derived.Test.YtccijlniolfhlaaGreatDoorW24
import Derived.Test.YtccijlniolfhlaaGreatDoorW25
set_option linter.unusedSimpArgs false
set_option linter.unusedVariables false
/- Closed facts of the program. -/
namespace Go.Proofs.YtccijlniolfhlaaGreatDoor
open Go.ChangeShapes Go.WideShapes Go.ChangeAt Go.RowKit W
set_option maxRecDepth 100000
theorem jf2:mapsRowed Tryz.prog=true:=by kernel_rfl
theorem jf7:(Rows.loaderManyRow.plainKeys == Tryz.prog.plainKeys)=true:=by kernel_rfl
theorem jf8:Tryz.prog.stopsHeard=true:=by kernel_rfl
theorem jf9:Tryz.prog.mayEnter=true:=by kernel_rfl
theorem qIU:(Rows.loaderManyRow.lifted == Tryz.prog.liftsFinal)=true:=by kernel_rfl
theorem qJd:(Tryz.prog.make == some Rows.loaderManyRow.make)=true:=by kernel_rfl
theorem closed:joinedFacts Tryz.prog 3 Tryz.f3 (OpenSpec.ofChange Rows.loaderManySpec).bare Rows.loaderManyRow=true:=by
 simp only [joinedFacts,Bool.and_eq_true]
 repeat' (apply And.intro)
 all_goals first|(with_reducible exact jf1)|(with_reducible exact jf2)|(with_reducible exact jf3)|(with_reducible exact jf4)|(with_reducible exact jf5)|(with_reducible exact jf6)|(with_reducible exact jf7)|(with_reducible exact jf8)|(with_reducible exact jf9)|(with_reducible exact qIU)|(with_reducible exact qJd)|kernel_rfl
theorem plain (f:FuncId) (fn:Func) (hf:Tryz.pinned.checked.prog.funcNamed "wafer/waferlaw27.LoaderMany" =some f) (hfn:Tryz.pinned.checked.prog.funcs[f]?=some fn) :
  true=Tryz.pinned.checked.prog.looks []/\∀(j:Nat) t,fn.params[j]?=some t->Tryz.pinned.checked.prog.wantsStandIn t=false:=by
 obtain rfl:f=3:=Option.some.inj ((show Tryz.prog.funcNamed "wafer/waferlaw27.LoaderMany" =some 3 by kernel_rfl).symm.trans hf) |>.symm
 obtain rfl:fn=Tryz.f3:=(Option.some.inj (Tryz.func3.symm.trans hfn)).symm
 refine ⟨lk.symm,fun j t ht=>?_⟩
 rw [Tryz.params3] at ht
 obtain rfl:t=5:=by simpa using Array.mem_of_getElem? ht
 exact (show Tryz.prog.wantsStandIn 5=false by kernel_rfl)
end Go.Proofs.YtccijlniolfhlaaGreatDoor
