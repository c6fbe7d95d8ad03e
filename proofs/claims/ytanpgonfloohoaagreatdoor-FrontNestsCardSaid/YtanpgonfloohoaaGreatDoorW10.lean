/-
  FrontNests, part 10.
-/
import Derived.Test.YtanpgonfloohoaaGreatDoorCards
import Derived.LaidByTextLater
import Derived.SevenTiedAt
import Derived.WalkKit
import Derived.ProofKit
import Derived.OpenShut
import Derived.Deep.DeepHandedRow
import Derived.Deep.DeepWitnessRowRef
import Derived.Lib.LaidTab
import Derived.Lay
import Derived.Test.YtanpgonfloohoaaGreatDoorW5
/- Closed facts of the program. -/
set_option linter.unusedVariables false
set_option linter.unusedSimpArgs false
namespace Go.Proofs.YtanpgonfloohoaaGreatDoor
open Go.ChangeShapes Go.WideShapes Go.ChangeAt Go.RowKit W
set_option maxRecDepth 100000
theorem jf1:laidOutB Tryz.prog=true:=by kernel_rfl
theorem jf2:mapsRowed Tryz.prog=true:=by kernel_rfl
theorem jf3:(Rows.frontNestsRow.inPlace == Tryz.prog.inPlace 3)=true:=by kernel_rfl
theorem jf4:(Rows.frontNestsRow.unfollowed == Tryz.prog.unfollowed 3)=true:=by kernel_rfl
theorem jf5:(Rows.frontNestsRow.recurses == Tryz.prog.recurses 3)=true:=by kernel_rfl
theorem jf6:(Rows.frontNestsRow.named == Tryz.prog.varsNamed 3)=true:=by kernel_rfl
theorem jf7:(Rows.frontNestsRow.plainKeys == Tryz.prog.plainKeys)=true:=by kernel_rfl
theorem jf8:Tryz.prog.stopsHeard=true:=by kernel_rfl
theorem jf9:Tryz.prog.mayEnter=true:=by kernel_rfl
theorem qII:(Rows.frontNestsRow.lifted == Tryz.prog.liftsFinal)=true:=by kernel_rfl
theorem qIA:(Tryz.prog.make == some Rows.frontNestsRow.make)=true:=by kernel_rfl
theorem closed:joinedFacts Tryz.prog 3 Tryz.f3 (OpenSpec.ofChange Rows.frontNestsSpec).bare Rows.frontNestsRow=true:=by
 simp only [joinedFacts,Bool.and_eq_true]
 repeat' (apply And.intro)
 all_goals first|(with_reducible exact jf1)|(with_reducible exact jf2)|(with_reducible exact jf3)|(with_reducible exact jf4)|(with_reducible exact jf5)|(with_reducible exact jf6)|(with_reducible exact jf7)|(with_reducible exact jf8)|(with_reducible exact jf9)|(with_reducible exact qII)|(with_reducible exact qIA)|kernel_rfl
theorem plain (f:FuncId) (fn:Func) (hf:Tryz.pinned.checked.prog.funcNamed "wafer/waferlaw16.FrontNests" =some f) (hfn:Tryz.pinned.checked.prog.funcs[f]?=some fn) :
  true=Tryz.pinned.checked.prog.looks []∧∀(j:Nat) t,fn.params[j]?=some t→Tryz.pinned.checked.prog.wantsStandIn t=false:=by
 obtain rfl:f=3:=Option.some.inj ((show Tryz.prog.funcNamed "wafer/waferlaw16.FrontNests" =some 3 by kernel_rfl).symm.trans hf) |>.symm
 obtain rfl:fn=Tryz.f3:=(Option.some.inj (Tryz.func3.symm.trans hfn)).symm
 refine ⟨by kernel_rfl,fun j t ht=>?_⟩
 rw [Tryz.params3] at ht
 obtain rfl:t=5:=by simpa using Array.mem_of_getElem? ht
 exact (show Tryz.prog.wantsStandIn 5=false by kernel_rfl)
end Go.Proofs.YtanpgonfloohoaaGreatDoor
