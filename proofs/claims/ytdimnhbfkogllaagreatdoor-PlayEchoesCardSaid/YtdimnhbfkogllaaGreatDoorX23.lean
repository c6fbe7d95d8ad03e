/-
  PlayEchoes, part 23.
-/
import Derived.Test.YtdimnhbfkogllaaGreatDoorCards
import Derived.KernelRfl
import Derived.Test.YtdimnhbfkogllaaGreatDoorX16
set_option linter.unusedSimpArgs false
set_option linter.unusedVariables false
namespace Go.Proofs.YtdimnhbfkogllaaGreatDoor
open Go
set_option maxRecDepth 100000
def qI4:List (List Nat):=[[638,288,514,550,288],[643,459,288,286,287,549,288],[459,288,286,600,548,288],[459,288],[585,288,443,288,451,288,285],[286,517,288],[422,608],[657,658],[659,660,661,662],[],[],[],[],[],[286,636,636,444,663,290,444,290,636,290,636,290,664,290,654,584,290,665,295],[551,666,667,668,669,670,656],[444],[671],[672,672,673,674,675],[],[677,676,678],[],[679,680],[286,681,638,591,584,638,459,288,636,592,287,638,288,444,597,599,682],[444,392,683,290,683,285,633],[288,506,285],[426,684],[685],[426,686],[480,687,480],[688,564,480,565,353,354,687,687,689,687,348,349,350,690],[]]
theorem qQ9:(List.range' 640 32).map (Program.lead Tryz.prog)=qI4:=by kernel_rfl
def qIQ:List (List Nat):=[[691,691,692,691],[691],[693],[],[],[],[],[],[694,695],[],[288,640],[600,290,600],[668],[696,697],[507],[],[],[698],[687,687,687,687,687,687],[],[],[],[],[],[698],[698,698],[],[],[],[],[],[]]
theorem qPA:(List.range' 672 32).map (Program.lead Tryz.prog)=qIQ:=by kernel_rfl
def qJk:List (List Nat):=[[],[],[],[],[],[],[],[],[],[],[],[],[],[],[],[],[],[],[],[],[],[],[],[],[],[],[],[],[],[],[],[]]
theorem qQP:(List.range' 704 32).map (Program.lead Tryz.prog)=qJk:=by kernel_rfl
def qIU:List (List Nat):=[[],[],[],[],[],[],[653,653],[],[],[],[],[],[],[],[],[],[],[],[],[],[],[],[],[],[],[],[],[],[],[],[],[]]
theorem qPC:(List.range' 736 32).map (Program.lead Tryz.prog)=qIU:=by kernel_rfl
end Go.Proofs.YtdimnhbfkogllaaGreatDoor
