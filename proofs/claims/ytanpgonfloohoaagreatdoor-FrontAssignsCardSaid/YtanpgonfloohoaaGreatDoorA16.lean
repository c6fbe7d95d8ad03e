/-
  FrontAssigns, part 16.
-/
import Derived.Test.YtanpgonfloohoaaGreatDoorCards
import Derived.KernelRfl
import Derived.Test.YtanpgonfloohoaaGreatDoorA12
import Derived.Test.YtanpgonfloohoaaGreatDoorA13
import Derived.Test.YtanpgonfloohoaaGreatDoorA14
import Derived.Test.YtanpgonfloohoaaGreatDoorA15
set_option linter.unusedSimpArgs false
set_option linter.unusedVariables false
namespace Go.Proofs.YtanpgonfloohoaaGreatDoor
open Go
set_option maxRecDepth 100000
def chT:List (List (List Nat)):=[qNj,qLJ,qNg,qMD,qLP,qNe,qLK,qNq,qMO,qMR,qE4,qE2,qE8,qFi,qE0]
theorem qIo:∀f,Program.lead Tryz.prog f=qwC chT f:=qCe (fun k hk=>by
 have hk:k<15:=hk
 rcases (show k=0\/k=1\/k=2\/k=3\/k=4\/k=5\/k=6\/k=7\/k=8\/k=9\/k=10\/k=11\/k=12\/k=13\/k=14 by omega) with rfl|rfl|rfl|rfl|rfl|rfl|rfl|rfl|rfl|rfl|rfl|rfl|rfl|rfl|rfl
 ·exact qOt
 ·exact qNY
 ·exact qOe
 ·exact qNR
 ·exact qN0
 ·exact qOb
 ·exact qNS
 ·exact qOw
 ·exact qOp
 ·exact qOi
 ·exact qNP
 ·exact qLV
 ·exact qLQ
 ·exact qNf
 ·exact qLC) (by decide +kernel)
theorem qKe:(Tryz.prog.funcs.toList.map fun g=>(Tryz.prog.leadsTo g).length+1).sum=1916:=by kernel_rfl
def clo:List Nat:=[6,7,11,16,48,49,103,108,176,240,169,237,296,170,104,105,171,172,106,173,113,179,180,241,303,304,112,178,107,174,175,238,297,298,239,299,336,300,301,338,363,377,399,400,410,409,411,401,402,412,413,414,415,337,302,109,177,110,17,18,50,56,115,51,61,111,52,54,53,55,114,181,57,116,182,117,183,243,242,184,244,185,245,58,118,119,186,187,246,305,339,315,347,275,364,378,318,260,249,307,340,341,314,346,374,342,367,368,196,261,262,263,316,308,343,369,205,281,381,371,383,188,370,382,403,405,404,372,384,385,373,386,387,388,389,390,391,392,406,393,394,407,395,272,264,317,256,269,320,191,271,322,324,351,252,312,142,375,278,323,276,199,195,352,325,250,309,310,251,311,279,328,306,379,321,350,273,326,353,376,396,397,398,408,365,380,366,247,248,120,189,253,190,193,257,313,344,345,254,121,122,192,255,202,123,194,258,259,59,124,125,197,265,319,348,349,266,267,268,270,274,198,200,201,277,327,60,62,126,127,128,203,204,280,129,130,206,135,211,212,283,207,282,208,131,209,132,133,210,134,136,213,137,138,214,139,140,215,284,216,217,19,63,64,65,141,145,66,67,68,69,70,71,143,144,72,146,147,218,219,8,10,13,24,75,25,76,77,78,148,79,149,80,81,14,27,38,41,82,26,32,28,83,29,30,31,33,34,84,85,35,86,87,150,220,285,161,223,153,88,152,222,286,332,331,89,287,333,355,334,356,357,358,359,360,361,362,335,329,231,330,354,289,97,295,291,229,224,225,234,292,293,156,226,294,154,92,159,155,235,230,162,98,221,151,36,90,91,157,158,93,160,227,288,37,39,94,95,96,40,99,163,165,228,164,166,167,232,168,233,290,236,15,42,43,100,44,45,46,101,102,47,12,20,73,21,74,22,23]
theorem qwN:Tryz.prog.closure 6=clo:=(qvw qIo qKe).trans (by kernel_rfl)
end Go.Proofs.YtanpgonfloohoaaGreatDoor
