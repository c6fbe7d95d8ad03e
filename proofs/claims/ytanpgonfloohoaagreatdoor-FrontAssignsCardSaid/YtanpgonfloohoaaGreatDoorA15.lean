/-
  FrontAssigns, part 15.
-/
import Derived.Test.YtanpgonfloohoaaGreatDoorCards
import Derived.KernelRfl
import Derived.Test.YtanpgonfloohoaaGreatDoorA10
set_option linter.unusedSimpArgs false
set_option linter.unusedVariables false
namespace Go.Proofs.YtanpgonfloohoaaGreatDoor
open Go
set_option maxRecDepth 100000
def qE8:List (List Nat):=[[],[],[],[],[],[],[],[405],[406],[406],[406,407],[385,385,385,385,385,385],[],[],[408],[],[410,409,411],[],[412,413],[405],[405,405],[],[],[],[],[],[],[],[],[414,415],[],[]]
theorem qLQ:(List.range' 384 32).map (Program.lead Tryz.prog)=qE8:=by kernel_rfl
def qFi:List (List Nat):=[[],[],[],[],[],[],[],[],[],[],[],[],[],[],[],[],[],[],[],[],[],[],[],[],[],[],[],[],[],[],[],[]]
theorem qNf:(List.range' 416 32).map (Program.lead Tryz.prog)=qFi:=by kernel_rfl
def qE0:List (List Nat):=[[337,337],[],[],[],[],[],[],[],[],[],[],[],[],[],[],[],[],[],[],[],[],[],[],[],[],[],[],[],[],[],[],[]]
theorem qLC:(List.range' 448 32).map (Program.lead Tryz.prog)=qE0:=by kernel_rfl
end Go.Proofs.YtanpgonfloohoaaGreatDoor
