/-
  LoaderMany, part 21.
-/
import Derived.Test.YtccijlniolfhlaaGreatDoorCards
import Derived.KernelRfl
import Derived.Test.YtccijlniolfhlaaGreatDoorW15
set_option linter.unusedSimpArgs false
set_option linter.unusedVariables false
namespace Go.Proofs.YtccijlniolfhlaaGreatDoor
open Go
set_option maxRecDepth 100000
def qBt:List (List Nat):=[[],[277,403,291,276,277],[276,277,406,276,400],[],[530],[531,531,532,533,534],[],[536,535,537],[],[538,539],[],[],[540],[],[],[140,502,502,228,541,144,228,144,502,144,502,144,542,144,527,449,144,543,149],[361,544,545,546,547,548,529],[228],[],[549,549,550,549],[549],[551],[],[],[],[],[],[552,553],[],[140,554,504,456,449,504,244,142,502,457,141,504,142,228,462,464,555],[228,265,556,144,556,139,499],[142,382,139]]
theorem qIi:(List.range' 512 32).map (Program.lead Tryz.prog)=qBt:=by kernel_rfl
def qBO:List (List Nat):=[[208,557],[558],[208,559],[423,560,423],[561,482,423,483,314,315,560,560,562,560,309,310,311,563],[],[],[],[],[],[],[142,506],[465,144,465],[546],[564,565],[383],[],[],[566],[560,560,560,560,560,560],[566],[566,566],[],[],[],[],[],[],[],[],[],[]]
theorem qGJ:(List.range' 544 32).map (Program.lead Tryz.prog)=qBO:=by kernel_rfl
def qBw:List (List Nat):=[[],[],[],[],[],[],[],[],[],[],[],[],[],[],[],[],[],[],[],[],[],[],[],[],[],[],[],[],[],[],[],[]]
theorem qHc:(List.range' 576 32).map (Program.lead Tryz.prog)=qBw:=by kernel_rfl
def qBH:List (List Nat):=[[526,526],[],[],[],[],[],[],[],[],[],[],[],[],[],[],[],[],[],[],[],[],[],[],[],[],[],[],[],[],[],[],[]]
theorem qIj:(List.range' 608 32).map (Program.lead Tryz.prog)=qBH:=by kernel_rfl
end Go.Proofs.YtccijlniolfhlaaGreatDoor
