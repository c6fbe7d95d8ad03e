/-
  FrontAssigns, part 20.
-/
import Derived.Test.YtanpgonfloohoaaGreatDoorCards
import Derived.LaidByTextLater
import Derived.SevenTiedAt
import Derived.WalkKit
import Derived.ProofKit
import Derived.OpenShut
import Derived.Deep.DeepHandedRow
import Derived.Deep.DeepWitnessRowRef
import Derived.Lib.LaidTab
import Derived.Lay
import Derived.Test.YtanpgonfloohoaaGreatDoorA5
import Derived.Test.YtanpgonfloohoaaGreatDoorA11
import Derived.Test.YtanpgonfloohoaaGreatDoorA17
import Derived.Test.YtanpgonfloohoaaGreatDoorA18
import Derived.Test.YtanpgonfloohoaaGreatDoorA19
set_option linter.unusedSimpArgs false
set_option linter.unusedVariables false
/- Closed facts of the program. -/
namespace Go.Proofs.YtanpgonfloohoaaGreatDoor
open Go.ChangeShapes Go.WideShapes Go.ChangeAt Go.RowKit W
set_option maxRecDepth 100000
theorem jf2:mapsRowed Tryz.prog=true:=by kernel_rfl
theorem jf7:(Rows.frontAssignsRow.plainKeys == Tryz.prog.plainKeys)=true:=by kernel_rfl
theorem jf8:Tryz.prog.stopsHeard=true:=by kernel_rfl
theorem jf9:Tryz.prog.mayEnter=true:=by kernel_rfl
theorem qN9:(Rows.frontAssignsRow.lifted == Tryz.prog.liftsFinal)=true:=by kernel_rfl
theorem qN3:(Tryz.prog.make == some Rows.frontAssignsRow.make)=true:=by kernel_rfl
theorem closed:joinedFacts Tryz.prog 6 Tryz.f6 (OpenSpec.ofChange Rows.frontAssignsSpec).bare Rows.frontAssignsRow=true:=by
 simp only [joinedFacts,Bool.and_eq_true]
 repeat' (apply And.intro)
 all_goals first|(with_reducible exact jf1)|(with_reducible exact jf2)|(with_reducible exact jf3)|(with_reducible exact jf4)|(with_reducible exact jf5)|(with_reducible exact jf6)|(with_reducible exact jf7)|(with_reducible exact jf8)|(with_reducible exact jf9)|(with_reducible exact qN9)|(with_reducible exact qN3)|kernel_rfl
theorem plain (f:FuncId) (fn:Func) (hf:Tryz.pinned.checked.prog.funcNamed "wafer/waferlaw16.FrontAssigns" =some f) (hfn:Tryz.pinned.checked.prog.funcs[f]?=some fn) :
  true=Tryz.pinned.checked.prog.looks []/\∀(j:Nat) t,fn.params[j]?=some t->Tryz.pinned.checked.prog.wantsStandIn t=false:=by
 obtain rfl:f=6:=Option.some.inj ((show Tryz.prog.funcNamed "wafer/waferlaw16.FrontAssigns" =some 6 by kernel_rfl).symm.trans hf) |>.symm
 obtain rfl:fn=Tryz.f6:=(Option.some.inj (Tryz.func6.symm.trans hfn)).symm
 refine ⟨lk.symm,fun j t ht=>?_⟩
 rw [Tryz.params6] at ht
 obtain rfl:t=5:=by simpa using Array.mem_of_getElem? ht
 exact (show Tryz.prog.wantsStandIn 5=false by kernel_rfl)
end Go.Proofs.YtanpgonfloohoaaGreatDoor
