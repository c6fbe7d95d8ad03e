/-
  FrontExports, part 10.
-/
import Derived.Test.YtanpgonfloohoaaGreatDoorCards
import Derived.LaidByTextLater
import Derived.SevenTiedAt
import Derived.WalkKit
import Derived.ProofKit
import Derived.OpenShut
import Derived.Deep.DeepHandedRow
import Derived.Deep.DeepWitnessRowRef
import Derived.Lib.LaidTab
import Derived.Lay
import Derived.Test.YtanpgonfloohoaaGreatDoorX5
/- Closed facts of the program. -/
set_option linter.unusedVariables false
set_option linter.unusedSimpArgs false
namespace Go.Proofs.YtanpgonfloohoaaGreatDoor
open Go.ChangeShapes Go.WideShapes Go.ChangeAt Go.RowKit W
set_option maxRecDepth 100000
theorem jf1:laidOutB Tryz.prog=true:=by kernel_rfl
theorem jf2:mapsRowed Tryz.prog=true:=by kernel_rfl
theorem jf3:(Rows.frontExportsRow.inPlace == Tryz.prog.inPlace 4)=true:=by kernel_rfl
theorem jf4:(Rows.frontExportsRow.unfollowed == Tryz.prog.unfollowed 4)=true:=by kernel_rfl
theorem jf5:(Rows.frontExportsRow.recurses == Tryz.prog.recurses 4)=true:=by kernel_rfl
theorem jf6:(Rows.frontExportsRow.named == Tryz.prog.varsNamed 4)=true:=by kernel_rfl
theorem jf7:(Rows.frontExportsRow.plainKeys == Tryz.prog.plainKeys)=true:=by kernel_rfl
theorem jf8:Tryz.prog.stopsHeard=true:=by kernel_rfl
theorem jf9:Tryz.prog.mayEnter=true:=by kernel_rfl
theorem qMu:(Rows.frontExportsRow.lifted == Tryz.prog.liftsFinal)=true:=by kernel_rfl
theorem qMN:(Tryz.prog.make == some Rows.frontExportsRow.make)=true:=by kernel_rfl
theorem closed:joinedFacts Tryz.prog 4 Tryz.f4 (OpenSpec.ofChange Rows.frontExportsSpec).bare Rows.frontExportsRow=true:=by
 simp only [joinedFacts,Bool.and_eq_true]
 repeat' (apply And.intro)
 all_goals first|(with_reducible exact jf1)|(with_reducible exact jf2)|(with_reducible exact jf3)|(with_reducible exact jf4)|(with_reducible exact jf5)|(with_reducible exact jf6)|(with_reducible exact jf7)|(with_reducible exact jf8)|(with_reducible exact jf9)|(with_reducible exact qMu)|(with_reducible exact qMN)|kernel_rfl
theorem plain (f:FuncId) (fn:Func) (hf:Tryz.pinned.checked.prog.funcNamed "wafer/waferlaw16.FrontExports" =some f) (hfn:Tryz.pinned.checked.prog.funcs[f]?=some fn) :
  true=Tryz.pinned.checked.prog.looks []∧∀(j:Nat) t,fn.params[j]?=some t→Tryz.pinned.checked.prog.wantsStandIn t=false:=by
 obtain rfl:f=4:=Option.some.inj ((show Tryz.prog.funcNamed "wafer/waferlaw16.FrontExports" =some 4 by kernel_rfl).symm.trans hf) |>.symm
 obtain rfl:fn=Tryz.f4:=(Option.some.inj (Tryz.func4.symm.trans hfn)).symm
 refine ⟨by kernel_rfl,fun j t ht=>?_⟩
 rw [Tryz.params4] at ht
 obtain rfl:t=5:=by simpa using Array.mem_of_getElem? ht
 exact (show Tryz.prog.wantsStandIn 5=false by kernel_rfl)
end Go.Proofs.YtanpgonfloohoaaGreatDoor
