/-
  PlayEchoes, part 28.
-/
import Derived.Test.YtdimnhbfkogllaaGreatDoorCards
import Derived.LaidByTextLater
import Derived.SevenTiedAt
import Derived.WalkKit
import Derived.ProofKit
import Derived.OpenShut
import Derived.Deep.DeepHandedRow
import Derived.Deep.DeepWitnessRowRef
import Derived.Lib.LaidTab
import Derived.Lay
import Derived.Test.YtdimnhbfkogllaaGreatDoorX5
import Derived.Test.YtdimnhbfkogllaaGreatDoorX17
import Derived.Test.YtdimnhbfkogllaaGreatDoorX25
import Derived.Test.YtdimnhbfkogllaaGreatDoorX26
import Derived.Test.YtdimnhbfkogllaaGreatDoorX27
set_option linter.unusedSimpArgs false
set_option linter.unusedVariables false
/- Closed facts of the program. -/
namespace Go.Proofs.YtdimnhbfkogllaaGreatDoor
open Go.ChangeShapes Go.WideShapes Go.ChangeAt Go.RowKit W
set_option maxRecDepth 100000
theorem jf2:mapsRowed Tryz.prog=true:=by kernel_rfl
theorem jf7:(Rows.playEchoesRow.plainKeys == Tryz.prog.plainKeys)=true:=by kernel_rfl
theorem jf8:Tryz.prog.stopsHeard=true:=by kernel_rfl
theorem jf9:Tryz.prog.mayEnter=true:=by kernel_rfl
theorem qSA:(Rows.playEchoesRow.lifted == Tryz.prog.liftsFinal)=true:=by kernel_rfl
theorem qRZ:(Tryz.prog.make == some Rows.playEchoesRow.make)=true:=by kernel_rfl
theorem closed:joinedFacts Tryz.prog 4 Tryz.f4 (OpenSpec.ofChange Rows.playEchoesSpec).bare Rows.playEchoesRow=true:=by
 simp only [joinedFacts,Bool.and_eq_true]
 repeat' (apply And.intro)
 all_goals first|(with_reducible exact jf1)|(with_reducible exact jf2)|(with_reducible exact jf3)|(with_reducible exact jf4)|(with_reducible exact jf5)|(with_reducible exact jf6)|(with_reducible exact jf7)|(with_reducible exact jf8)|(with_reducible exact jf9)|(with_reducible exact qSA)|(with_reducible exact qRZ)|kernel_rfl
theorem plain (f:FuncId) (fn:Func) (hf:Tryz.pinned.checked.prog.funcNamed "wafer/waferlaw28.PlayEchoes" =some f) (hfn:Tryz.pinned.checked.prog.funcs[f]?=some fn) :
  true=Tryz.pinned.checked.prog.looks []/\∀(j:Nat) t,fn.params[j]?=some t->Tryz.pinned.checked.prog.wantsStandIn t=false:=by
 obtain rfl:f=4:=Option.some.inj ((show Tryz.prog.funcNamed "wafer/waferlaw28.PlayEchoes" =some 4 by kernel_rfl).symm.trans hf) |>.symm
 obtain rfl:fn=Tryz.f4:=(Option.some.inj (Tryz.func4.symm.trans hfn)).symm
 refine ⟨lk.symm,fun j t ht=>?_⟩
 rw [Tryz.params4] at ht
 have ht:=Array.mem_of_getElem? ht
 simp only [List.mem_toArray,List.mem_cons,List.not_mem_nil,or_false] at ht
 rcases ht with rfl|rfl
 ·exact (show Tryz.prog.wantsStandIn 22=false by kernel_rfl)
 ·exact (show Tryz.prog.wantsStandIn 3=false by kernel_rfl)
end Go.Proofs.YtdimnhbfkogllaaGreatDoor
