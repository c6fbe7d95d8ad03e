/-
  FrontNests, part 8.
-/
import Derived.Test.YtanpgonfloohoaaGreatDoorCards
import Derived.LaidByTextLater
import Derived.SevenTiedAt
import Derived.WalkKit
import Derived.ProofKit
import Derived.OpenShut
import Derived.Deep.DeepHandedRow
import Derived.Deep.DeepWitnessRowRef
import Derived.Lib.LaidTab
import Derived.Lay
import Derived.Test.YtanpgonfloohoaaGreatDoorW7
/- The program is what the small semantics runs: the table. -/
set_option linter.unusedVariables false
set_option linter.unusedSimpArgs false
namespace Go.Proofs.YtanpgonfloohoaaGreatDoor
open Go.ChangeShapes Go.WideShapes Go.ChangeAt Go.RowKit W
set_option maxRecDepth 100000
theorem own:ownKnob Tryz.prog.godebug=none:=by kernel_rfl
theorem qAc {H:Type}:Bulk (Rows.uptoBulk (H:=H)) Rows.uptoBulkAll:=
 ⟨fun _=>rfl,fun l=>by cases l<;>simp [Rows.uptoBulk],rfl,fun _ _=>rfl,fun _=>rfl,rfl,fun _ _=>rfl⟩
def maps:Maps:={fm:=(List.range 449).map fun i=>(i,i),tm:=(List.range 386).map fun i=>(i,i),gl:=[(0,glD 0),(5,glD 5),(6,glD 6),(7,glD 7)],bk:=[(181,⟨4,true⟩),(244,⟨6,true⟩),(245,⟨10,true⟩)]}
theorem qGJ:qdS maps Tryz.prog {loc:=[],org:=[],mv:=[(28,4,0),(23,6,0),(17,4,0),(11,7,0)],bl:=[(6,[5,6,7,10]),(5,[6,7]),(4,[5,6,9]),(3,[6]),(2,[5,6,7,8]),(1,[6,7]),(0,[1,6]),(8,[1,6,11]),(7,[6])],ll:=[(5,[5,6,7,10]),(3,[5,6,9]),(1,[5,6,7,8]),(7,[1,6,11])]} true Tryz.f3=some qg:=by kernel_rfl
theorem qIy:qa Tryz.prog maps 3 qg:=qal Tryz.func3 (by decide +kernel) qGJ
theorem qIN:qa Tryz.prog maps 7 qeU:=qb Tryz.func7 {loc:=[1,3],org:=[(1,1),(17,1),(22,1),(28,1),(37,1),(3,3)],mv:=[],bl:=[],ll:=[]} true 15 (by decide +kernel) (by kernel_rfl)
theorem qIv:qa Tryz.prog maps 8 qfL:=qb Tryz.func8 {loc:=[5,7],org:=[(5,5),(7,7)],mv:=[(2,1,0),(2,2,1)],bl:=[],ll:=[]} true 15359 (by decide +kernel) (by kernel_rfl)
theorem qHm:qa Tryz.prog maps 10 qcB:=qb Tryz.func10 {loc:=[4],org:=[(4,4)],mv:=[(1,0,0),(1,1,0)],bl:=[],ll:=[],fz:=[(6,0,9)]} false 262127 (by decide +kernel) (by kernel_rfl)
theorem qHV:qa Tryz.prog maps 11 qin:=qb Tryz.func11 {loc:=[],org:=[],mv:=[(7,5,1),(6,1,0),(6,2,1),(1,0,0),(1,1,0)],bl:=[],ll:=[]} false 47 (by decide +kernel) (by kernel_rfl)
theorem qG3:qa Tryz.prog maps 12 qaY:=qb Tryz.func12 {loc:=[2,3],org:=[(2,2),(9,2),(15,2),(24,2),(33,2),(41,2),(50,2),(58,2),(67,2),(75,2),(81,2),(93,2),(99,2),(113,2),(128,2),(144,2),(150,2),(164,2),(179,2),(194,2),(210,2),(216,2),(3,3),(11,3),(18,3),(27,3),(35,3),(44,3),(52,3),(61,3),(69,3),(86,3),(105,3),(119,3),(134,3),(156,3),(170,3),(185,3),(200,3),(221,3)],mv:=[],bl:=[(1,[2,3,5]),(0,[2,3]),(3,[2,3,6]),(2,[2,3]),(5,[2,3,7]),(4,[2,3]),(7,[2,3,8]),(6,[])],ll:=[(0,[2,3,5]),(2,[2,3,6]),(4,[2,3,7]),(6,[2,3,8])]} true 903306615 (by decide +kernel) (by kernel_rfl)
theorem qGP:qa Tryz.prog maps 13 qfJ:=qb Tryz.func13 {loc:=[9],org:=[(9,9),(49,9)],mv:=[(13,4,0),(13,0,0),(13,3,0),(9,8,0),(9,0,0),(9,7,0),(5,1,0),(5,2,1)],bl:=[(1,[0,5,6]),(0,[2,3,4])],ll:=[(0,[0,5,6])]} false 7338999 (by decide +kernel) (by kernel_rfl)
theorem qHQ:qa Tryz.prog maps 14 yO:=qb Tryz.func14 {loc:=[],org:=[],mv:=[(25,1,0),(25,2,0),(21,2,0),(19,6,1),(5,8,0),(3,8,1),(2,13,1),(1,6,1)],bl:=[(1,[0]),(0,[0])],ll:=[(0,[0])]} false 4397340749695 (by decide +kernel) (by kernel_rfl)
theorem qHF:qa Tryz.prog maps 15 qeP:=qb Tryz.func15 {loc:=[1],org:=[(1,1),(7,1),(12,1),(19,1),(26,1),(32,1),(39,1),(45,1),(52,1),(58,1),(64,1),(70,1),(78,1),(84,1),(93,1),(104,1),(110,1),(119,1),(129,1),(139,1),(145,1)],mv:=[],bl:=[(1,[1,3]),(0,[1]),(3,[1,4]),(2,[1]),(5,[1,5]),(4,[1]),(7,[1,6]),(6,[])],ll:=[(0,[1,3]),(2,[1,4]),(4,[1,5]),(6,[1,6])]} true 1806613247 (by decide +kernel) (by kernel_rfl)
theorem qGL:qa Tryz.prog maps 16 qor:=qb Tryz.func16 {loc:=[5],org:=[(5,5),(21,5)],mv:=[(6,4,1),(6,0,9),(6,3,0),(5,3,1),(2,3,1)],bl:=[(1,[2,3,4]),(0,[2,3])],ll:=[(0,[2,3,4])]} false 23 (by decide +kernel) (by kernel_rfl)
theorem qGE:qa Tryz.prog maps 17 qf5:=qb Tryz.func17 {loc:=[3],org:=[(3,3),(17,3)],mv:=[(5,5,1)],bl:=[],ll:=[]} false 447 (by decide +kernel) (by kernel_rfl)
theorem qIf:qa Tryz.prog maps 18 qbO:=qb Tryz.func18 {loc:=[],org:=[],mv:=[(19,6,0),(19,7,0),(15,1,0),(15,2,1),(14,6,1),(5,6,1),(5,2,0),(5,3,1),(4,12,0),(4,13,2),(2,6,1)],bl:=[(1,[0,5]),(0,[0,5])],ll:=[(0,[0,5])]} false 201306111 (by decide +kernel) (by kernel_rfl)
theorem qIs:qa Tryz.prog maps 19 qmi:=qb Tryz.func19 {loc:=[1,2],org:=[(1,1),(3,1),(5,1),(8,1),(11,1),(14,1),(17,1),(20,1),(23,1),(2,2)],mv:=[],bl:=[],ll:=[]} true 3 (by decide +kernel) (by kernel_rfl)
theorem qGQ:qa Tryz.prog maps 20 qbW:=qb Tryz.func20 {loc:=[],org:=[],mv:=[],bl:=[(1,[0,1,5]),(0,[])],ll:=[(0,[0,1,5])]} true 57335 (by decide +kernel) (by kernel_rfl)
theorem qHG:qa Tryz.prog maps 21 qbR:=qb Tryz.func21 {loc:=[6,7],org:=[(6,6),(29,6),(35,6),(43,6),(52,6),(61,6),(67,6),(80,6),(86,6),(7,7),(31,7),(37,7),(46,7),(55,7),(72,7),(91,7)],mv:=[],bl:=[(3,[0,1,5,6,7,8]),(2,[0,1,5,6,7]),(5,[0,1,5,6,7,9]),(4,[0,1,5]),(1,[0,1,5]),(0,[])],ll:=[(0,[0,1,5]),(2,[0,1,5,6,7,8]),(4,[0,1,5,6,7,9])]} true 7214170103 (by decide +kernel) (by kernel_rfl)
theorem qHJ:qa Tryz.prog maps 22 qb1:=qb Tryz.func22 {loc:=[2,3],org:=[(2,2),(5,2),(11,2),(18,2),(25,2),(32,2),(3,3),(7,3),(13,3),(20,3),(27,3),(34,3)],mv:=[],bl:=[],ll:=[]} true 3 (by decide +kernel) (by kernel_rfl)
theorem qIo:qa Tryz.prog maps 24 qfU:=qb Tryz.func24 {loc:=[],org:=[],mv:=[],bl:=[(3,[0,1]),(2,[0,1]),(6,[0,1,6,7]),(5,[0,1,6,7]),(4,[0,1]),(1,[0,1]),(0,[4,5])],ll:=[(0,[0,1]),(2,[0,1]),(4,[0,1,6,7])]} false 959 (by decide +kernel) (by kernel_rfl)
theorem qGI:qa Tryz.prog maps 25 qc9:=qb Tryz.func25 {loc:=[4,8],org:=[(4,4),(8,8),(47,8),(50,8)],mv:=[(24,0,0),(24,1,1),(15,1,0),(15,2,1),(15,0,0),(15,2,0),(13,1,0),(13,2,1),(13,0,0),(13,2,0),(12,2,0),(4,9,0),(2,2,0)],bl:=[(2,[0,1,4,7]),(1,[0,1,4,7]),(0,[0,1,4,6]),(3,[0,1,4,6])],ll:=[(1,[0,1,4,7])]} false 4221506041143295 (by decide +kernel) (by kernel_rfl)
theorem qG0:qa Tryz.prog maps 26 qap:=qb Tryz.func26 {loc:=[],org:=[],mv:=[(1,0,0),(1,1,0)],bl:=[],ll:=[]} false 7 (by decide +kernel) (by kernel_rfl)
theorem qIl:qa Tryz.prog maps 27 qaZ:=qb Tryz.func27 {loc:=[],org:=[],mv:=[(2,0,0),(2,1,0),(1,1,0),(1,2,2)],bl:=[],ll:=[]} true 255 (by decide +kernel) (by kernel_rfl)
theorem qIk:qa Tryz.prog maps 28 qah:=qb Tryz.func28 {loc:=[],org:=[],mv:=[(5,0,0),(5,1,0),(3,0,0),(3,1,0)],bl:=[],ll:=[]} true 1023 (by decide +kernel) (by kernel_rfl)
theorem qGG:qa Tryz.prog maps 29 qdd:=qb Tryz.func29 {loc:=[],org:=[],mv:=[(6,7,0),(6,0,0),(6,6,0)],bl:=[(1,[0,1,5,6]),(0,[5])],ll:=[(0,[0,1,5,6])]} true 431 (by decide +kernel) (by kernel_rfl)
theorem qHp:qa Tryz.prog maps 30 qfO:=qb Tryz.func30 {loc:=[8],org:=[(8,8)],mv:=[],bl:=[(3,[0,3,4,5,6]),(2,[0,3,4,5]),(1,[0,3,4,5]),(0,[3])],ll:=[(0,[0,3,4,5]),(2,[0,3,4,5,6])]} true 863 (by decide +kernel) (by kernel_rfl)
theorem qH6:qa Tryz.prog maps 31 qfa:=qb Tryz.func31 {loc:=[],org:=[],mv:=[],bl:=[(0,[])],ll:=[]} true 241907637127329503 (by decide +kernel) (by kernel_rfl)
theorem qH7:qa Tryz.prog maps 32 qaD:=qb Tryz.func32 {loc:=[],org:=[],mv:=[],bl:=[],ll:=[]} false 15 (by decide +kernel) (by kernel_rfl)
theorem qHT:qa Tryz.prog maps 33 qaF:=qb Tryz.func33 {loc:=[],org:=[],mv:=[(2,0,0),(2,1,0),(1,1,0),(1,2,2)],bl:=[],ll:=[]} true 255 (by decide +kernel) (by kernel_rfl)
theorem qIr:qa Tryz.prog maps 37 qaG:=qb Tryz.func37 {loc:=[6],org:=[(6,6)],mv:=[(16,15,1),(7,3,1),(4,6,0),(4,0,0),(4,5,7),(16,11,7)],bl:=[(3,[0,2,3]),(2,[0,2,3]),(5,[0,2,3,6,7]),(4,[0,2]),(1,[0,2]),(0,[])],ll:=[(0,[0,2]),(2,[0,2,3]),(4,[0,2,3,6,7])]} false 805304319 (by decide +kernel) (by kernel_rfl)
theorem qHz:qdS maps Tryz.prog {loc:=[7],org:=[(7,7),(10,7),(15,7)],mv:=[(1,3,1),(1,0,0),(1,1,0)],bl:=[],ll:=[]} true Tryz.f38=some kj:=by kernel_rfl
theorem qHi:qa Tryz.prog maps 38 kj:=qal Tryz.func38 (by decide +kernel) qHz
theorem qG6:qa Tryz.prog maps 40 qaA:=qb Tryz.func40 {loc:=[4],org:=[(4,4)],mv:=[(4,4,0),(4,0,0),(4,3,0)],bl:=[(1,[0,3]),(0,[2])],ll:=[(0,[0,3])]} true 2047 (by decide +kernel) (by kernel_rfl)
theorem qH2:qdS maps Tryz.prog {loc:=[2],org:=[(2,2)],mv:=[],bl:=[],ll:=[]} true Tryz.f41=some kx:=by kernel_rfl
theorem qHs:qa Tryz.prog maps 41 kx:=qal Tryz.func41 (by decide +kernel) qH2
theorem qHH:qa Tryz.prog maps 42 qhb:=qb Tryz.func42 {loc:=[],org:=[],mv:=[],bl:=[],ll:=[]} true 3 (by decide +kernel) (by kernel_rfl)
theorem qHg:qa Tryz.prog maps 43 qbf:=qb Tryz.func43 {loc:=[],org:=[],mv:=[],bl:=[(1,[0,3]),(0,[])],ll:=[(0,[0,3])]} true 131063 (by decide +kernel) (by kernel_rfl)
theorem qHX:qa Tryz.prog maps 44 qfT:=qb Tryz.func44 {loc:=[],org:=[],mv:=[],bl:=[(3,[0,3,4,5]),(2,[0,3,4]),(1,[0,3,4]),(0,[3])],ll:=[(0,[0,3,4]),(2,[0,3,4,5])]} true 2097151 (by decide +kernel) (by kernel_rfl)
theorem qIb:qa Tryz.prog maps 45 qbH:=qb Tryz.func45 {loc:=[],org:=[],mv:=[],bl:=[(3,[0,3,4]),(2,[0,3]),(1,[0,3]),(0,[])],ll:=[(0,[0,3]),(2,[0,3,4])]} true 117440503 (by decide +kernel) (by kernel_rfl)
theorem qHK:qa Tryz.prog maps 46 qaV:=qb Tryz.func46 {loc:=[],org:=[],mv:=[],bl:=[(1,[0,3]),(0,[])],ll:=[(0,[0,3])]} true 131063 (by decide +kernel) (by kernel_rfl)
theorem qIc:qa Tryz.prog maps 48 qln:=qb Tryz.func48 {loc:=[3],org:=[(3,3),(16,3)],mv:=[(5,4,1)],bl:=[],ll:=[]} false 11 (by decide +kernel) (by kernel_rfl)
theorem qIq:qa Tryz.prog maps 49 qdg:=qb Tryz.func49 {loc:=[2,4],org:=[(2,2),(4,4),(61,4),(62,4)],mv:=[(4,2,1),(12,2,1),(11,2,0),(10,2,1),(9,10,0),(8,2,1),(7,10,0)],bl:=[(0,[0,2,3,4])],ll:=[]} true 491519 (by decide +kernel) (by kernel_rfl)
theorem qG4:qa Tryz.prog maps 50 qda:=qb Tryz.func50 {loc:=[],org:=[],mv:=[(1,0,0),(1,1,0),(0,1,0),(0,2,1)],bl:=[],ll:=[]} false 5 (by decide +kernel) (by kernel_rfl)
theorem qGS:qdS maps Tryz.prog {loc:=[2],org:=[(2,2)],mv:=[],bl:=[],ll:=[]} true Tryz.f51=some zY:=by kernel_rfl
theorem qGX:qa Tryz.prog maps 51 zY:=qal Tryz.func51 (by decide +kernel) qGS
theorem qIg:qa Tryz.prog maps 52 qcT:=qb Tryz.func52 {loc:=[3],org:=[(3,3),(6,3),(18,3)],mv:=[(1,3,1)],bl:=[],ll:=[]} true 239 (by decide +kernel) (by kernel_rfl)
theorem qHl:qa Tryz.prog maps 53 qc1:=qb Tryz.func53 {loc:=[],org:=[],mv:=[(1,2,0),(1,3,2),(1,1,0),(1,3,1),(1,0,0),(1,3,0)],bl:=[],ll:=[]} false 7 (by decide +kernel) (by kernel_rfl)
theorem qH4:qa Tryz.prog maps 54 qg8:=qb Tryz.func54 {loc:=[],org:=[],mv:=[(1,3,0),(1,1,0),(1,2,1)],bl:=[],ll:=[]} true 3 (by decide +kernel) (by kernel_rfl)
theorem qG5:qa Tryz.prog maps 55 qi8:=qb Tryz.func55 {loc:=[10],org:=[(10,10),(47,10)],mv:=[],bl:=[(3,[4,5,6,22,23,24]),(2,[4,5,6,22,23,24]),(1,[4,5,6,22,23,24]),(0,[5])],ll:=[(0,[4,5,6,22,23,24])],rl:=[(2,[4,5,6,8,22,23,24])],rk:=[(2,181)]} true 831 (by decide +kernel) (by kernel_rfl)
theorem qHW:qa Tryz.prog maps 56 qeh:=qb Tryz.func56 {loc:=[],org:=[],mv:=[(1,3,0),(1,1,0),(1,2,1)],bl:=[],ll:=[]} true 127 (by decide +kernel) (by kernel_rfl)
theorem qGO:qa Tryz.prog maps 57 qaT:=qb Tryz.func57 {loc:=[],org:=[],mv:=[(5,12,1),(5,5,9),(5,8,0),(4,7,0),(4,8,2),(1,2,0)],bl:=[],ll:=[]} false 31 (by decide +kernel) (by kernel_rfl)
theorem qHy:qa Tryz.prog maps 58 qcF:=qb Tryz.func58 {loc:=[],org:=[],mv:=[],bl:=[(1,[0]),(0,[0]),(3,[0]),(2,[0]),(5,[0]),(4,[])],ll:=[(0,[0]),(2,[0]),(4,[0])]} false 44987 (by decide +kernel) (by kernel_rfl)
theorem qHY:qa Tryz.prog maps 59 qc4:=qb Tryz.func59 {loc:=[],org:=[],mv:=[(3,5,0),(3,0,0),(3,4,0)],bl:=[(1,[0,3]),(0,[2])],ll:=[(0,[0,3])]} true 1023 (by decide +kernel) (by kernel_rfl)
theorem qHB:qa Tryz.prog maps 60 qet:=qb Tryz.func60 {loc:=[],org:=[],mv:=[(2,5,0),(2,6,2),(2,1,0),(2,2,0)],bl:=[],ll:=[]} false 3 (by decide +kernel) (by kernel_rfl)
theorem qHk:qa Tryz.prog maps 62 qlt:=qb Tryz.func62 {loc:=[1],org:=[(1,1),(7,1),(12,1),(18,1),(24,1),(32,1),(38,1),(44,1),(50,1),(56,1),(61,1),(64,1),(67,1),(81,1)],mv:=[(6,3,0),(5,3,0),(4,3,0),(1,4,0)],bl:=[],ll:=[]} true 2047 (by decide +kernel) (by kernel_rfl)
theorem qHf:qa Tryz.prog maps 63 jr:=qb Tryz.func63 {loc:=[],org:=[],mv:=[(3,3,0),(3,2,0),(3,2,6)],bl:=[],ll:=[]} true 127 (by decide +kernel) (by kernel_rfl)
theorem qHj:qa Tryz.prog maps 64 qbp:=qb Tryz.func64 {loc:=[7],org:=[(7,7)],mv:=[(5,6,0),(5,0,0),(5,5,0)],bl:=[(1,[1,5,8,9,10]),(0,[5])],ll:=[(0,[1,5,8,9,10])]} true 415 (by decide +kernel) (by kernel_rfl)
theorem qHD:qa Tryz.prog maps 66 qcD:=qb Tryz.func66 {loc:=[7],org:=[(7,7)],mv:=[(5,6,0),(5,0,0),(5,5,0)],bl:=[(1,[1,5,8,9,10]),(0,[5])],ll:=[(0,[1,5,8,9,10])]} true 2047 (by decide +kernel) (by kernel_rfl)
theorem qGF:qa Tryz.prog maps 67 qii:=qb Tryz.func67 {loc:=[1,2],org:=[(1,1),(3,1),(6,1),(2,2)],mv:=[(1,4,1)],bl:=[],ll:=[]} true 7 (by decide +kernel) (by kernel_rfl)
theorem qGN:qa Tryz.prog maps 68 qcs:=qb Tryz.func68 {loc:=[7],org:=[(7,7)],mv:=[(5,6,0),(5,0,0),(5,5,0)],bl:=[(1,[1,5,8,9,10]),(0,[5])],ll:=[(0,[1,5,8,9,10])]} true 415 (by decide +kernel) (by kernel_rfl)
theorem qIa:qa Tryz.prog maps 70 qbP:=qb Tryz.func70 {loc:=[7],org:=[(7,7)],mv:=[(5,6,0),(5,0,0),(5,5,0)],bl:=[(1,[1,5,8,9,10]),(0,[5])],ll:=[(0,[1,5,8,9,10])]} true 415 (by decide +kernel) (by kernel_rfl)
theorem qG9:qa Tryz.prog maps 72 qgX:=qb Tryz.func72 {loc:=[],org:=[],mv:=[(1,2,0),(1,0,0),(1,1,0)],bl:=[],ll:=[]} true 3 (by decide +kernel) (by kernel_rfl)
theorem qHo:qa Tryz.prog maps 73 qeg:=qb Tryz.func73 {loc:=[2,3],org:=[(2,2),(6,2),(12,2),(19,2),(26,2),(35,2),(41,2),(3,3),(8,3),(14,3),(21,3),(29,3),(46,3)],mv:=[],bl:=[(1,[2,3,5]),(0,[])],ll:=[(0,[2,3,5])]} true 57335 (by decide +kernel) (by kernel_rfl)
theorem qHu:qa Tryz.prog maps 74 qbJ:=qb Tryz.func74 {loc:=[],org:=[],mv:=[],bl:=[(1,[0,1,5]),(0,[])],ll:=[(0,[0,1,5])]} true 57335 (by decide +kernel) (by kernel_rfl)
theorem qIp:qdS maps Tryz.prog {loc:=[],org:=[],mv:=[],bl:=[],ll:=[]} true Tryz.f75=some z4:=by kernel_rfl
theorem qIh:qa Tryz.prog maps 75 z4:=qal Tryz.func75 (by decide +kernel) qIp
theorem qHL:qdS maps Tryz.prog {loc:=[],org:=[],mv:=[],bl:=[],ll:=[]} true Tryz.f76=some zL:=by kernel_rfl
theorem qH9:qa Tryz.prog maps 76 zL:=qal Tryz.func76 (by decide +kernel) qHL
theorem qIi:qa Tryz.prog maps 77 qed:=qb Tryz.func77 {loc:=[],org:=[],mv:=[],bl:=[],ll:=[]} true 3 (by decide +kernel) (by kernel_rfl)
theorem qH5:qa Tryz.prog maps 78 qcA:=qb Tryz.func78 {loc:=[],org:=[],mv:=[(1,1,0)],bl:=[(1,[0,3,4]),(0,[])],ll:=[(0,[0,3,4])]} true 16383 (by decide +kernel) (by kernel_rfl)
theorem qGK:qa Tryz.prog maps 79 qde:=qb Tryz.func79 {loc:=[4,11],org:=[(4,4),(11,11),(67,11),(71,11),(76,11),(93,11)],mv:=[(23,3,1),(13,4,1),(5,5,0)],bl:=[(1,[0,1,4,6,7,8,9]),(0,[0,1,4,6,7,8,9])],ll:=[(0,[0,1,4,6,7,8,9])]} false 15663103 (by decide +kernel) (by kernel_rfl)
theorem qGH:qdS maps Tryz.prog {loc:=[],org:=[],mv:=[],bl:=[(1,[0,1,5]),(0,[])],ll:=[(0,[0,1,5])]} true Tryz.f81=some qcf:=by kernel_rfl
theorem qG1:qa Tryz.prog maps 81 qcf:=qal Tryz.func81 (by decide +kernel) qGH
theorem qHR:qa Tryz.prog maps 82 qao:=qb Tryz.func82 {loc:=[],org:=[],mv:=[],bl:=[],ll:=[]} false 3 (by decide +kernel) (by kernel_rfl)
theorem qG2:qa Tryz.prog maps 83 yK:=qb Tryz.func83 {loc:=[],org:=[],mv:=[(1,0,0),(1,1,0)],bl:=[],ll:=[]} true 3 (by decide +kernel) (by kernel_rfl)
theorem qHP:qa Tryz.prog maps 85 yM:=qb Tryz.func85 {loc:=[5,6],org:=[(5,5),(6,6)],mv:=[(3,0,0),(3,1,0)],bl:=[],ll:=[]} false 47 (by decide +kernel) (by kernel_rfl)
theorem qHM:qa Tryz.prog maps 86 qav:=qb Tryz.func86 {loc:=[],org:=[],mv:=[(2,4,0),(2,1,0),(2,2,0),(1,2,0)],bl:=[],ll:=[]} false 7 (by decide +kernel) (by kernel_rfl)
theorem qHw:qa Tryz.prog maps 87 qaz:=qb Tryz.func87 {loc:=[2,3,4,6,8,9],org:=[(2,2),(3,3),(45,3),(48,3),(49,3),(59,3),(94,3),(95,3),(121,3),(122,3),(133,3),(134,3),(4,4),(14,4),(17,4),(6,6),(40,6),(61,6),(67,6),(68,6),(8,8),(99,8),(100,8),(9,9),(126,9),(131,9),(144,9)],mv:=[(32,3,1),(31,2,0),(30,7,1),(30,0,0),(30,6,0),(28,3,1),(27,2,0),(26,8,1),(26,0,0),(26,7,0),(21,11,1),(21,10,1),(20,3,1),(2,3,1),(1,3,1)],bl:=[(0,[0,2,3,5]),(1,[2,3])],ll:=[]} true 235667156479 (by decide +kernel) (by kernel_rfl)
theorem qHx:qa Tryz.prog maps 88 qbn:=qb Tryz.func88 {loc:=[],org:=[],mv:=[(1,0,0),(1,1,0)],bl:=[],ll:=[]} false 7 (by decide +kernel) (by kernel_rfl)
theorem qH8:qa Tryz.prog maps 89 qip:=qb Tryz.func89 {loc:=[1],org:=[(1,1),(3,1),(7,1),(8,1),(13,1),(14,1)],mv:=[],bl:=[],ll:=[]} true 3 (by decide +kernel) (by kernel_rfl)
theorem qHb:qa Tryz.prog maps 91 qa5:=qb Tryz.func91 {loc:=[2,3],org:=[(2,2),(3,3),(10,3),(14,3),(15,3),(20,3),(25,3),(34,3)],mv:=[(9,2,1),(9,0,0),(9,1,0),(8,0,0),(8,1,0),(6,2,0),(5,6,1),(5,3,0),(5,4,0),(2,3,1),(1,2,0)],bl:=[(0,[0,2])],ll:=[]} true 7167 (by decide +kernel) (by kernel_rfl)
theorem qHh:qa Tryz.prog maps 92 qar:=qb Tryz.func92 {loc:=[3],org:=[(3,3),(4,3),(7,3),(11,3),(15,3),(21,3)],mv:=[(4,0,0),(4,1,0)],bl:=[(1,[0,3]),(0,[0,3])],ll:=[(0,[0,3])]} false 447 (by decide +kernel) (by kernel_rfl)
theorem qG7:qa Tryz.prog maps 93 qag:=qb Tryz.func93 {loc:=[3],org:=[(3,3)],mv:=[(3,0,0),(3,1,0)],bl:=[],ll:=[]} true 111 (by decide +kernel) (by kernel_rfl)
theorem qIj:qa Tryz.prog maps 97 yQ:=qb Tryz.func97 {loc:=[4,5,6],org:=[(4,4),(11,4),(16,4),(17,4),(22,4),(27,4),(5,5),(7,5),(6,6)],mv:=[(2,5,1)],bl:=[],ll:=[]} true 55 (by decide +kernel) (by kernel_rfl)
theorem qH0:qa Tryz.prog maps 98 qfR:=qb Tryz.func98 {loc:=[3,4],org:=[(3,3),(7,3),(31,3),(4,4),(21,4),(25,4),(29,4)],mv:=[(8,3,0)],bl:=[(0,[])],ll:=[]} true 445 (by decide +kernel) (by kernel_rfl)
theorem qGU:qa Tryz.prog maps 99 qaI:=qb Tryz.func99 {loc:=[2],org:=[(2,2)],mv:=[(14,2,1),(14,0,0),(14,1,0),(13,2,0),(12,2,1),(12,0,0),(12,1,0),(11,2,0),(10,2,1),(10,0,0),(10,1,0),(9,2,0),(8,0,0),(8,1,0),(6,2,0),(5,2,0),(4,2,1),(4,0,0),(4,1,0),(3,2,0),(2,2,1),(2,0,0),(2,1,0),(1,2,0)],bl:=[(0,[2])],ll:=[]} false 33259447 (by decide +kernel) (by kernel_rfl)
theorem qEZ:qa Tryz.prog maps 100 qbq:=qb Tryz.func100 {loc:=[2],org:=[(2,2),(9,2),(15,2),(22,2),(28,2)],mv:=[],bl:=[(1,[1,2,5]),(0,[])],ll:=[(0,[1,2,5])]} true 262143 (by decide +kernel) (by kernel_rfl)
theorem qFa:qa Tryz.prog maps 101 qd8:=qb Tryz.func101 {loc:=[1],org:=[(1,1),(6,1),(13,1)],mv:=[],bl:=[(1,[1,3,4]),(0,[3])],ll:=[(0,[1,3,4])]} true 1023 (by decide +kernel) (by kernel_rfl)
theorem qCU:qa Tryz.prog maps 102 qbF:=qb Tryz.func102 {loc:=[1],org:=[(1,1),(4,1),(9,1),(16,1),(22,1),(28,1)],mv:=[],bl:=[(1,[1,3]),(0,[])],ll:=[(0,[1,3])]} true 57335 (by decide +kernel) (by kernel_rfl)
theorem qE8:qa Tryz.prog maps 103 qdf:=qb Tryz.func103 {loc:=[],org:=[],mv:=[(13,0,0),(13,1,0),(2,2,0)],bl:=[(2,[0,2,3]),(1,[0,2,3]),(0,[2,3])],ll:=[(0,[0,2,3])]} false 195455 (by decide +kernel) (by kernel_rfl)
theorem qD9:qdS maps Tryz.prog {loc:=[],org:=[],mv:=[],bl:=[],ll:=[]} true Tryz.f104=some qaC:=by kernel_rfl
theorem qCr:qa Tryz.prog maps 104 qaC:=qal Tryz.func104 (by decide +kernel) qD9
theorem qFC:qa Tryz.prog maps 105 qdc:=qb Tryz.func105 {loc:=[2],org:=[(2,2)],mv:=[(5,3,0),(4,0,0),(4,1,0),(2,2,0),(2,0,0),(2,1,0)],bl:=[(0,[2,4])],ll:=[]} true 4063 (by decide +kernel) (by kernel_rfl)
theorem qEK:qdS maps Tryz.prog {loc:=[],org:=[],mv:=[],bl:=[],ll:=[]} true Tryz.f106=some qbs:=by kernel_rfl
theorem qEv:qa Tryz.prog maps 106 qbs:=qal Tryz.func106 (by decide +kernel) qEK
theorem qEJ:qa Tryz.prog maps 107 qbU:=qb Tryz.func107 {loc:=[2],org:=[(2,2)],mv:=[(12,0,0),(12,1,0),(10,2,0),(10,3,2),(10,1,0),(10,3,1),(10,0,0),(10,3,0),(7,2,0),(4,2,0),(2,2,0)],bl:=[(0,[2,3,4,5,6,7])],ll:=[]} true 114111 (by decide +kernel) (by kernel_rfl)
theorem qFq:qdS maps Tryz.prog {loc:=[],org:=[],mv:=[(1,11,0),(1,9,0),(1,10,1)],bl:=[],ll:=[]} true Tryz.f108=some z0:=by kernel_rfl
theorem qBX:qa Tryz.prog maps 108 z0:=qal Tryz.func108 (by decide +kernel) qFq
theorem qCI:qa Tryz.prog maps 110 qc5:=qb Tryz.func110 {loc:=[2],org:=[(2,2)],mv:=[],bl:=[(1,[0,2,5,6,7]),(0,[0,2])],ll:=[(0,[0,2,5,6,7])],cp:=[9]} true 983039 (by decide +kernel) (by kernel_rfl)
theorem qD2:qa Tryz.prog maps 111 qbT:=qb Tryz.func111 {loc:=[],org:=[],mv:=[],bl:=[],ll:=[]} false 0 (by decide +kernel) (by kernel_rfl)
theorem qDJ:qdS maps Tryz.prog {loc:=[],org:=[],mv:=[(1,1,0),(1,2,1),(1,0,0),(1,2,0)],bl:=[],ll:=[]} true Tryz.f112=some qw:=by kernel_rfl
theorem qC3:qa Tryz.prog maps 112 qw:=qal Tryz.func112 (by decide +kernel) qDJ
theorem qDm:qa Tryz.prog maps 113 qhq:=qb Tryz.func113 {loc:=[],org:=[],mv:=[(14,2,0),(13,2,0),(13,0,0),(13,1,0),(9,4,0)],bl:=[(1,[0,3,4,5,6]),(0,[0,3,5]),(3,[0,9,10,12]),(2,[0,9,10,12]),(7,[0,9,10,12]),(6,[0,9,10,12]),(5,[0,9,10,11,12]),(4,[0,9,10,11])],ll:=[(0,[0,3,4,5,6]),(2,[0,9,10,12]),(4,[0,9,10,11,12]),(6,[0,9,10,12])]} true 3333719171399679 (by decide +kernel) (by kernel_rfl)
theorem qEB:qdS maps Tryz.prog {loc:=[5],org:=[(5,5),(8,5),(12,5),(17,5)],mv:=[(1,3,1),(1,0,0),(1,1,0)],bl:=[],ll:=[]} true Tryz.f115=some jj:=by kernel_rfl
theorem qDB:qa Tryz.prog maps 115 jj:=qal Tryz.func115 (by decide +kernel) qEB
theorem qCO:qa Tryz.prog maps 116 qbj:=qb Tryz.func116 {loc:=[],org:=[],mv:=[(0,4,0),(0,5,2)],bl:=[],ll:=[]} false 1 (by decide +kernel) (by kernel_rfl)
theorem qC9:qa Tryz.prog maps 117 qe5:=qb Tryz.func117 {loc:=[10,12],org:=[(10,10),(61,10),(69,10),(72,10),(12,12),(79,12),(87,12)],mv:=[],bl:=[(1,[2,3,4,5,6,26,27,28]),(0,[2,3,4,5,6]),(3,[2,3,4,5,6]),(2,[2,3,4,5,6]),(5,[6]),(4,[6])],ll:=[(0,[2,3,4,5,6,26,27,28])],rl:=[(2,[2,3,4,5,6]),(4,[2,3,4,6])],rk:=[(2,244),(4,245)]} true 29 (by decide +kernel) (by kernel_rfl)
theorem qE2:qa Tryz.prog maps 118 qbI:=qb Tryz.func118 {loc:=[],org:=[],mv:=[(1,0,0),(1,1,0)],bl:=[],ll:=[]} true 3 (by decide +kernel) (by kernel_rfl)
theorem qEk:qa Tryz.prog maps 122 qaw:=qb Tryz.func122 {loc:=[5,7],org:=[(5,5),(7,7),(26,7),(49,7),(59,7)],mv:=[(15,3,0),(15,4,2),(11,12,1),(11,5,9),(11,8,0),(5,3,1),(2,2,0)],bl:=[(3,[0,2,4,5,19,20,21]),(2,[0,2,4]),(1,[0,2]),(0,[])],ll:=[(0,[0,2]),(2,[0,2,4,5,19,20,21])],pm:=[(13,[0,1,2,3,4,5,6,7,8,9,11,10,12])],ck:=[(13,11,3),(13,11,6),(13,11,10)]} false 4194303 (by decide +kernel) (by kernel_rfl)
theorem qBN:qa Tryz.prog maps 124 qc2:=qb Tryz.func124 {loc:=[],org:=[],mv:=[(1,2,0)],bl:=[],ll:=[]} true 3 (by decide +kernel) (by kernel_rfl)
theorem qCE:qa Tryz.prog maps 125 qdj:=qb Tryz.func125 {loc:=[2],org:=[(2,2)],mv:=[(15,0,0),(15,1,0),(14,2,1),(14,0,0),(14,1,0),(13,2,0),(12,2,1),(12,0,0),(12,1,0),(11,2,0),(10,0,0),(10,1,0),(8,2,0),(7,2,0),(6,2,1),(6,0,0),(6,1,0),(5,2,0),(4,2,1),(4,0,0),(4,1,0),(3,2,0),(2,2,1),(2,0,0),(2,1,0),(1,2,0)],bl:=[(0,[0,2])],ll:=[]} true 129917 (by decide +kernel) (by kernel_rfl)
theorem qCi:qa Tryz.prog maps 126 qnk:=qb Tryz.func126 {loc:=[],org:=[],mv:=[],bl:=[],ll:=[]} true 3 (by decide +kernel) (by kernel_rfl)
theorem qDb:qa Tryz.prog maps 127 qnt:=qb Tryz.func127 {loc:=[],org:=[],mv:=[],bl:=[],ll:=[]} true 3 (by decide +kernel) (by kernel_rfl)
theorem qBR:qa Tryz.prog maps 128 qgR:=qb Tryz.func128 {loc:=[],org:=[],mv:=[(1,3,0)],bl:=[],ll:=[]} true 3 (by decide +kernel) (by kernel_rfl)
theorem qCz:qa Tryz.prog maps 129 qni:=qb Tryz.func129 {loc:=[5],org:=[(5,5),(16,5)],mv:=[(9,1,0),(9,2,0)],bl:=[(3,[3,8,9,10,17,18,19]),(2,[3,8,9,10]),(1,[3,8,9,10]),(0,[3])],ll:=[(0,[3,8,9,10]),(2,[3,8,9,10,17,18,19])]} true 524287 (by decide +kernel) (by kernel_rfl)
theorem qGx:qa Tryz.prog maps 130 qgK:=qb Tryz.func130 {loc:=[4],org:=[(4,4),(15,4),(21,4),(28,4),(35,4),(40,4)],mv:=[],bl:=[(1,[9,10,11]),(0,[])],ll:=[(0,[9,10,11])]} true 262135 (by decide +kernel) (by kernel_rfl)
theorem qFU:qa Tryz.prog maps 131 zB:=qb Tryz.func131 {loc:=[],org:=[],mv:=[(1,1,0),(1,2,1),(1,0,0),(1,2,0)],bl:=[],ll:=[]} true 3 (by decide +kernel) (by kernel_rfl)
theorem qEP:qa Tryz.prog maps 132 qjB:=qb Tryz.func132 {loc:=[],org:=[],mv:=[(1,0,0),(1,1,0)],bl:=[],ll:=[]} true 3 (by decide +kernel) (by kernel_rfl)
theorem qCA:qa Tryz.prog maps 133 kw:=qb Tryz.func133 {loc:=[],org:=[],mv:=[(1,1,0),(1,2,1),(1,0,0),(1,2,0)],bl:=[],ll:=[]} true 3 (by decide +kernel) (by kernel_rfl)
theorem qCX:qa Tryz.prog maps 135 qi6:=qb Tryz.func135 {loc:=[1],org:=[(1,1)],mv:=[],bl:=[],ll:=[]} true 3 (by decide +kernel) (by kernel_rfl)
theorem qCS:qa Tryz.prog maps 136 zj:=qb Tryz.func136 {loc:=[],org:=[],mv:=[(1,1,0),(1,2,1),(1,0,0),(1,2,0)],bl:=[],ll:=[]} true 3 (by decide +kernel) (by kernel_rfl)
theorem qDo:qa Tryz.prog maps 138 kF:=qb Tryz.func138 {loc:=[],org:=[],mv:=[(1,1,0),(1,2,1),(1,0,0),(1,2,0)],bl:=[],ll:=[]} true 3 (by decide +kernel) (by kernel_rfl)
theorem qCy:qa Tryz.prog maps 141 qgS:=qb Tryz.func141 {loc:=[1,2],org:=[(1,1),(3,1),(6,1),(7,1),(10,1),(2,2)],mv:=[(2,4,1),(1,4,1)],bl:=[],ll:=[]} true 15 (by decide +kernel) (by kernel_rfl)
theorem qDN:qa Tryz.prog maps 142 qkE:=qb Tryz.func142 {loc:=[1,2,3,5],org:=[(1,1),(8,1),(2,2),(3,3),(7,3),(15,3),(21,3),(5,5)],mv:=[(6,7,1),(6,1,9),(6,5,0)],bl:=[(1,[2,3,9,10,11]),(0,[2,3])],ll:=[(0,[2,3,9,10,11])]} true 4095 (by decide +kernel) (by kernel_rfl)
theorem qEr:qa Tryz.prog maps 145 qb0:=qb Tryz.func145 {loc:=[7],org:=[(7,7)],mv:=[(5,6,0),(5,0,0),(5,5,0)],bl:=[(1,[1,5,8,9,10]),(0,[5])],ll:=[(0,[1,5,8,9,10])]} true 2047 (by decide +kernel) (by kernel_rfl)
theorem qFp:qa Tryz.prog maps 146 qbX:=qb Tryz.func146 {loc:=[7],org:=[(7,7)],mv:=[(5,6,0),(5,0,0),(5,5,0)],bl:=[(1,[1,5,8,9,10]),(0,[5])],ll:=[(0,[1,5,8,9,10])]} true 2047 (by decide +kernel) (by kernel_rfl)
theorem qDe:qa Tryz.prog maps 147 qg7:=qb Tryz.func147 {loc:=[1,2],org:=[(1,1),(3,1),(6,1),(7,1),(10,1),(11,1),(14,1),(2,2)],mv:=[(3,4,1),(2,4,1),(1,4,1)],bl:=[],ll:=[]} true 31 (by decide +kernel) (by kernel_rfl)
theorem qGu:qa Tryz.prog maps 148 qbZ:=qb Tryz.func148 {loc:=[],org:=[],mv:=[(1,1,0)],bl:=[],ll:=[]} true 3 (by decide +kernel) (by kernel_rfl)
theorem qDM:qa Tryz.prog maps 149 qhk:=qb Tryz.func149 {loc:=[],org:=[],mv:=[(2,3,0),(1,2,0)],bl:=[(0,[])],ll:=[]} true 895 (by decide +kernel) (by kernel_rfl)
theorem qGg:qa Tryz.prog maps 150 yP:=qb Tryz.func150 {loc:=[2,5,7],org:=[(2,2),(5,5),(18,5),(19,5),(25,5),(26,5),(31,5),(52,5),(53,5),(63,5),(64,5),(72,5),(73,5),(82,5),(7,7),(55,7),(56,7)],mv:=[(21,9,1),(19,3,1),(15,2,0),(13,2,0),(11,2,0),(9,7,1),(4,3,1),(3,2,0),(1,2,0)],bl:=[(2,[0,2,5,6]),(1,[0,2,5]),(0,[2])],ll:=[(0,[0,2,5])]} true 8571051487 (by decide +kernel) (by kernel_rfl)
theorem qCj:qa Tryz.prog maps 152 qas:=qb Tryz.func152 {loc:=[3,4,5],org:=[(3,3),(4,4),(5,5)],mv:=[(5,1,0),(5,2,1),(5,0,0),(5,2,0)],bl:=[],ll:=[]} true 1783 (by decide +kernel) (by kernel_rfl)
theorem qGD:qa Tryz.prog maps 153 qeS:=qb Tryz.func153 {loc:=[2],org:=[(2,2)],mv:=[(1,2,1),(1,0,0),(1,1,0)],bl:=[],ll:=[]} true 3 (by decide +kernel) (by kernel_rfl)
theorem qEt:qa Tryz.prog maps 154 qaJ:=qb Tryz.func154 {loc:=[2,4],org:=[(2,2),(4,4),(23,4),(35,4),(40,4)],mv:=[(16,0,0),(16,1,0),(14,5,1),(14,1,0),(14,4,1),(11,4,1),(10,1,1),(8,1,1),(6,1,1),(4,1,1),(1,2,0)],bl:=[(0,[0,2,3])],ll:=[]} true 123 (by decide +kernel) (by kernel_rfl)
theorem qFK:qa Tryz.prog maps 157 qg3:=qb Tryz.func157 {loc:=[3,4],org:=[(3,3),(4,4)],mv:=[],bl:=[],ll:=[]} true 3 (by decide +kernel) (by kernel_rfl)
theorem qCC:qa Tryz.prog maps 160 qd5:=qb Tryz.func160 {loc:=[2],org:=[(2,2)],mv:=[(1,1,0),(1,3,1)],bl:=[],ll:=[]} false 3 (by decide +kernel) (by kernel_rfl)
theorem qFu:qa Tryz.prog maps 161 qg0:=qb Tryz.func161 {loc:=[4],org:=[(4,4)],mv:=[(1,0,0),(1,1,0)],bl:=[],ll:=[]} true 3 (by decide +kernel) (by kernel_rfl)
theorem qF4:qa Tryz.prog maps 162 qfK:=qb Tryz.func162 {loc:=[2,3],org:=[(2,2),(6,2),(11,2),(15,2),(21,2),(30,2),(36,2),(51,2),(3,3),(8,3),(17,3),(24,3),(41,3),(53,3)],mv:=[],bl:=[(2,[2,3,5]),(1,[]),(0,[])],ll:=[(1,[2,3,5])]} true 220671 (by decide +kernel) (by kernel_rfl)
theorem qDn:qa Tryz.prog maps 165 qax:=qb Tryz.func165 {loc:=[2],org:=[(2,2)],mv:=[(1,2,1),(1,0,0),(1,1,0)],bl:=[],ll:=[]} true 3 (by decide +kernel) (by kernel_rfl)
theorem qFV:qa Tryz.prog maps 168 jF:=qb Tryz.func168 {loc:=[2,4,6,7],org:=[(2,2),(4,4),(23,4),(29,4),(101,4),(102,4),(103,4),(108,4),(6,6),(55,6),(56,6),(61,6),(62,6),(72,6),(73,6),(80,6),(84,6),(7,7),(45,7),(49,7),(50,7),(69,7),(86,7)],mv:=[(21,3,1),(21,1,0),(21,2,1),(21,0,0),(21,2,0),(20,3,0),(20,4,2),(20,0,0),(20,4,0),(15,5,1),(14,0,0),(14,17,0),(12,3,1),(9,7,1),(4,3,1),(4,1,0),(4,2,1),(4,0,0),(4,2,0)],bl:=[(0,[0,2,5])],ll:=[]} true 32501615 (by decide +kernel) (by kernel_rfl)
theorem qCq:qa Tryz.prog maps 169 qdi:=qb Tryz.func169 {loc:=[],org:=[],mv:=[(1,3,0),(1,1,0),(1,2,1),(1,0,0),(1,2,0)],bl:=[],ll:=[]} true 3 (by decide +kernel) (by kernel_rfl)
theorem qDa:qa Tryz.prog maps 171 qcI:=qb Tryz.func171 {loc:=[],org:=[],mv:=[],bl:=[(1,[0,1,5]),(0,[0,5])],ll:=[(0,[0,1,5])]} true 255 (by decide +kernel) (by kernel_rfl)
theorem qE7:qdS maps Tryz.prog {loc:=[],org:=[],mv:=[(1,2,0)],bl:=[],ll:=[]} true Tryz.f172=some qbv:=by kernel_rfl
theorem qDI:qa Tryz.prog maps 172 qbv:=qal Tryz.func172 (by decide +kernel) qE7
theorem qFh:qa Tryz.prog maps 173 qik:=qb Tryz.func173 {loc:=[],org:=[],mv:=[(1,1,0)],bl:=[],ll:=[]} true 3 (by decide +kernel) (by kernel_rfl)
theorem qCH:qa Tryz.prog maps 174 qn3:=qb Tryz.func174 {loc:=[],org:=[],mv:=[(1,2,0)],bl:=[],ll:=[]} true 3 (by decide +kernel) (by kernel_rfl)
theorem qEU:qa Tryz.prog maps 175 qc3:=qb Tryz.func175 {loc:=[],org:=[],mv:=[(3,7,0),(3,4,0),(3,5,4),(3,3,0),(3,5,3),(3,2,0),(3,5,2),(3,1,0),(3,5,1)],bl:=[],ll:=[]} false 111 (by decide +kernel) (by kernel_rfl)
theorem qFm:qdS maps Tryz.prog {loc:=[],org:=[],mv:=[(1,3,0),(1,1,0),(1,2,1),(1,0,0),(1,2,0)],bl:=[],ll:=[]} true Tryz.f176=some zM:=by kernel_rfl
theorem qCw:qa Tryz.prog maps 176 zM:=qal Tryz.func176 (by decide +kernel) qFm
theorem qEh:qdS maps Tryz.prog {loc:=[],org:=[],mv:=[],bl:=[(1,[0,1,7,8]),(0,[])],ll:=[(0,[0,1,7,8])]} true Tryz.f178=some qB:=by kernel_rfl
theorem qGt:qa Tryz.prog maps 178 qB:=qal Tryz.func178 (by decide +kernel) qEh
theorem qFr:qa Tryz.prog maps 182 qcG:=qb Tryz.func182 {loc:=[],org:=[],mv:=[],bl:=[],ll:=[]} true 3 (by decide +kernel) (by kernel_rfl)
theorem qDG:qa Tryz.prog maps 186 qc8:=qb Tryz.func186 {loc:=[],org:=[],mv:=[(1,2,0),(1,0,0),(1,1,0)],bl:=[],ll:=[]} true 3 (by decide +kernel) (by kernel_rfl)
theorem qF0:qa Tryz.prog maps 187 qdl:=qb Tryz.func187 {loc:=[2,3,7],org:=[(2,2),(3,3),(40,3),(7,7),(36,7)],mv:=[(11,7,1),(11,2,0),(11,6,2),(11,1,0),(11,6,1),(11,0,0),(11,6,0),(10,9,1),(10,8,1),(9,3,1),(4,4,1),(4,2,0),(4,3,2),(4,0,0),(4,3,0),(1,3,1)],bl:=[],ll:=[],pm:=[(10,[0,1,2,4,5,6,3,7,8,9])],ck:=[(10,6,4),(10,6,5)]} true 3807 (by decide +kernel) (by kernel_rfl)
theorem qDd:qa Tryz.prog maps 188 qpZ:=qb Tryz.func188 {loc:=[1],org:=[(1,1),(3,1),(7,1),(8,1),(13,1),(14,1)],mv:=[],bl:=[],ll:=[]} true 3 (by decide +kernel) (by kernel_rfl)
theorem qD4:qa Tryz.prog maps 190 qex:=qb Tryz.func190 {loc:=[2,5,6,7],org:=[(2,2),(5,5),(20,5),(24,5),(25,5),(30,5),(35,5),(43,5),(6,6),(7,7)],mv:=[(15,2,0),(15,3,2),(15,0,0),(15,3,0),(13,3,1),(12,2,1),(12,0,0),(12,1,0),(10,2,0),(8,2,0),(8,3,2),(8,0,0),(8,3,0),(5,20,0),(5,21,2),(4,3,1),(2,2,0)],bl:=[(0,[0,2,3])],ll:=[],pm:=[(7,[0,1,2,3,7,4,5,6,8]),(14,[0,1,2,3,4,5,7,6,8])],ck:=[(7,5,1)]} true 2080767 (by decide +kernel) (by kernel_rfl)
theorem qD7:qa Tryz.prog maps 191 qe6:=qb Tryz.func191 {loc:=[],org:=[],mv:=[],bl:=[],ll:=[]} true 3 (by decide +kernel) (by kernel_rfl)
theorem qBM:qa Tryz.prog maps 192 qbQ:=qb Tryz.func192 {loc:=[],org:=[],mv:=[(6,10,0),(6,0,0),(6,9,0),(5,4,0),(5,13,0),(5,14,2),(3,3,1)],bl:=[(1,[0,1,5]),(0,[4])],ll:=[(0,[0,1,5])],ck:=[(6,5,1)]} true 1023 (by decide +kernel) (by kernel_rfl)
theorem qEG:qa Tryz.prog maps 193 qcH:=qb Tryz.func193 {loc:=[4],org:=[(4,4)],mv:=[(2,2,0),(2,3,2),(2,1,0),(2,3,1),(2,0,0),(2,3,0)],bl:=[],ll:=[]} true 15 (by decide +kernel) (by kernel_rfl)
theorem qCf:qa Tryz.prog maps 195 qkz:=qb Tryz.func195 {loc:=[2,3,4],org:=[(2,2),(5,2),(3,3),(4,4)],mv:=[(2,2,1)],bl:=[],ll:=[]} true 55 (by decide +kernel) (by kernel_rfl)
theorem qEO:qa Tryz.prog maps 196 qlo:=qb Tryz.func196 {loc:=[3,4],org:=[(3,3),(8,3),(18,3),(23,3),(30,3),(34,3),(39,3),(4,4),(12,4),(16,4),(26,4)],mv:=[(6,3,0),(5,3,0),(2,6,0),(2,4,0),(2,5,2)],bl:=[(0,[])],ll:=[]} true 1973 (by decide +kernel) (by kernel_rfl)
theorem qDs:qa Tryz.prog maps 197 qae:=qb Tryz.func197 {loc:=[2,3,6,9],org:=[(2,2),(3,3),(23,3),(37,3),(41,3),(56,3),(68,3),(85,3),(6,6),(93,6),(103,6),(9,9)],mv:=[(20,8,0),(20,10,2),(19,6,1),(16,5,0),(15,3,1),(14,5,1),(14,1,0),(14,4,1),(14,0,0),(14,4,0),(11,5,1),(11,1,0),(11,4,1),(11,0,0),(11,4,0),(7,4,1),(7,0,0),(7,3,0),(5,2,0),(4,4,1),(4,0,0),(4,3,0),(2,2,0),(1,3,1)],bl:=[(0,[0,2,3])],ll:=[],pm:=[(16,[0,1,11,12,2,3,4,5,6,7,8,9,10,13]),(19,[0,1,2,5,3,4,6]),(20,[0,1,2,3,4,5,6,7,9,8,10])],ck:=[(16,4,3),(16,11,3),(19,4,1)]} true 1073201135 (by decide +kernel) (by kernel_rfl)
theorem qEW:qa Tryz.prog maps 199 qf0:=qb Tryz.func199 {loc:=[4,6],org:=[(4,4),(6,6),(16,6),(17,6)],mv:=[(3,6,0),(3,7,2),(3,0,0),(3,7,0),(2,6,1)],bl:=[],ll:=[]} true 31 (by decide +kernel) (by kernel_rfl)
theorem qGA:qa Tryz.prog maps 202 zg:=qb Tryz.func202 {loc:=[],org:=[],mv:=[(1,1,0),(1,2,1),(1,0,0),(1,2,0)],bl:=[],ll:=[]} true 3 (by decide +kernel) (by kernel_rfl)
theorem qFN:qa Tryz.prog maps 203 qeq:=qb Tryz.func203 {loc:=[1],org:=[(1,1),(3,1),(8,1)],mv:=[],bl:=[],ll:=[]} true 3 (by decide +kernel) (by kernel_rfl)
theorem qEx:qa Tryz.prog maps 204 qhl:=qb Tryz.func204 {loc:=[2],org:=[(2,2),(8,2),(13,2),(19,2)],mv:=[],bl:=[],ll:=[]} true 3 (by decide +kernel) (by kernel_rfl)
theorem qCk:qa Tryz.prog maps 205 kK:=qb Tryz.func205 {loc:=[],org:=[],mv:=[(1,1,0),(1,2,1),(1,0,0),(1,2,0)],bl:=[],ll:=[]} true 3 (by decide +kernel) (by kernel_rfl)
theorem qEN:qa Tryz.prog maps 206 qd3:=qb Tryz.func206 {loc:=[1],org:=[(1,1)],mv:=[],bl:=[],ll:=[]} true 3 (by decide +kernel) (by kernel_rfl)
theorem qEo:qa Tryz.prog maps 207 kn:=qb Tryz.func207 {loc:=[],org:=[],mv:=[(1,1,0),(1,2,1),(1,0,0),(1,2,0)],bl:=[],ll:=[]} true 3 (by decide +kernel) (by kernel_rfl)
theorem qF3:qa Tryz.prog maps 208 qeB:=qb Tryz.func208 {loc:=[],org:=[],mv:=[(1,0,0),(1,1,0)],bl:=[],ll:=[]} true 3 (by decide +kernel) (by kernel_rfl)
theorem qBO:qa Tryz.prog maps 209 zT:=qb Tryz.func209 {loc:=[],org:=[],mv:=[],bl:=[(1,[0,1,7,8]),(0,[])],ll:=[(0,[0,1,7,8])]} true 7167 (by decide +kernel) (by kernel_rfl)
theorem qCV:qa Tryz.prog maps 210 k9:=qb Tryz.func210 {loc:=[],org:=[],mv:=[],bl:=[(1,[0,1,7,8]),(0,[])],ll:=[(0,[0,1,7,8])]} true 207 (by decide +kernel) (by kernel_rfl)
theorem qFZ:qa Tryz.prog maps 211 qlC:=qb Tryz.func211 {loc:=[1,5],org:=[(1,1),(6,1),(5,5)],mv:=[],bl:=[(1,[3,7,8,9]),(0,[3])],ll:=[(0,[3,7,8,9])]} true 2047 (by decide +kernel) (by kernel_rfl)
theorem qDy:qa Tryz.prog maps 212 qgM:=qb Tryz.func212 {loc:=[1],org:=[(1,1),(3,1),(8,1),(13,1),(19,1)],mv:=[],bl:=[],ll:=[]} true 3 (by decide +kernel) (by kernel_rfl)
theorem qCv:qa Tryz.prog maps 213 zJ:=qb Tryz.func213 {loc:=[],org:=[],mv:=[],bl:=[(1,[0,1,7,8]),(0,[])],ll:=[(0,[0,1,7,8])]} true 207 (by decide +kernel) (by kernel_rfl)
theorem qE3:qa Tryz.prog maps 214 zt:=qb Tryz.func214 {loc:=[],org:=[],mv:=[],bl:=[(1,[0,1,7,8]),(0,[])],ll:=[(0,[0,1,7,8])]} true 207 (by decide +kernel) (by kernel_rfl)
theorem qE6:qa Tryz.prog maps 218 qaX:=qb Tryz.func218 {loc:=[],org:=[],mv:=[(5,6,0),(5,2,0),(5,3,0),(5,0,0),(5,5,0)],bl:=[(1,[1,5,8,9,10]),(0,[5])],ll:=[(0,[1,5,8,9,10])]} true 2047 (by decide +kernel) (by kernel_rfl)
theorem qEw:qa Tryz.prog maps 219 jT:=qb Tryz.func219 {loc:=[],org:=[],mv:=[(3,3,0),(3,2,0),(3,2,6)],bl:=[],ll:=[]} true 29 (by decide +kernel) (by kernel_rfl)
theorem qCN:qa Tryz.prog maps 220 qau:=qb Tryz.func220 {loc:=[2,3,7],org:=[(2,2),(3,3),(10,3),(11,3),(55,3),(7,7),(46,7),(47,7)],mv:=[(18,9,1),(16,3,1),(12,2,0),(10,2,0),(8,2,0),(6,2,0),(5,3,0),(4,2,0),(1,3,1)],bl:=[(2,[0,2,3,4,5,6]),(1,[0,2,3]),(0,[2])],ll:=[(0,[0,2,3])]} true 15429055 (by decide +kernel) (by kernel_rfl)
theorem qCa:qa Tryz.prog maps 221 qdk:=qb Tryz.func221 {loc:=[],org:=[],mv:=[],bl:=[],ll:=[]} true 3 (by decide +kernel) (by kernel_rfl)
theorem qEC:qa Tryz.prog maps 222 qfM:=qb Tryz.func222 {loc:=[1,2],org:=[(1,1),(18,1),(19,1),(2,2)],mv:=[(6,5,1),(6,3,0),(6,4,1)],bl:=[],ll:=[]} false 29 (by decide +kernel) (by kernel_rfl)
theorem qGv:qa Tryz.prog maps 223 qeL:=qb Tryz.func223 {loc:=[2],org:=[(2,2)],mv:=[],bl:=[],ll:=[]} true 3 (by decide +kernel) (by kernel_rfl)
theorem qE0:qa Tryz.prog maps 224 yX:=qb Tryz.func224 {loc:=[4,5],org:=[(4,4),(5,5)],mv:=[],bl:=[],ll:=[]} true 111 (by decide +kernel) (by kernel_rfl)
theorem qFE:qa Tryz.prog maps 227 qeC:=qb Tryz.func227 {loc:=[3],org:=[(3,3),(21,3),(26,3),(39,3),(45,3),(52,3),(63,3),(66,3),(99,3)],mv:=[(5,5,0),(5,6,2),(5,4,0),(5,6,1)],bl:=[(2,[1,2,3,12,14,15]),(1,[2,3,14]),(0,[])],ll:=[(1,[1,2,3,12,14,15])]} false 913399 (by decide +kernel) (by kernel_rfl)
theorem qEM:qa Tryz.prog maps 228 qbz:=qb Tryz.func228 {loc:=[4,5],org:=[(4,4),(5,5),(13,5),(14,5)],mv:=[(2,0,0),(2,6,0),(1,7,1)],bl:=[],ll:=[]} true 15 (by decide +kernel) (by kernel_rfl)
theorem qEd:qa Tryz.prog maps 229 qat:=qb Tryz.func229 {loc:=[2,5],org:=[(2,2),(5,5),(12,5),(29,5),(33,5)],mv:=[(6,8,1),(6,0,0),(6,3,0),(5,2,0),(2,4,1),(1,2,0)],bl:=[],ll:=[]} false 1887 (by decide +kernel) (by kernel_rfl)
theorem qCL:qa Tryz.prog maps 230 jI:=qb Tryz.func230 {loc:=[3],org:=[(3,3),(6,3),(11,3),(17,3),(22,3),(36,3),(41,3)],mv:=[(11,6,0),(11,0,0),(11,5,0)],bl:=[(2,[0,3,5]),(1,[]),(0,[3])],ll:=[(1,[0,3,5])]} true 64477 (by decide +kernel) (by kernel_rfl)
theorem qFT:qa Tryz.prog maps 234 jS:=qb Tryz.func234 {loc:=[3,4,5],org:=[(3,3),(15,3),(16,3),(22,3),(23,3),(51,3),(52,3),(59,3),(60,3),(79,3),(80,3),(4,4),(5,5),(73,5),(77,5),(93,5),(96,5)],mv:=[(17,3,1),(15,2,1),(13,2,0),(11,3,1),(9,3,1),(8,2,0),(7,5,1),(5,2,1),(3,2,0)],bl:=[(4,[0,3,4]),(3,[0,3,4]),(2,[0,3,4]),(1,[0,3,4]),(0,[3,4])],ll:=[(0,[0,3,4]),(3,[0,3,4])]} true 449373 (by decide +kernel) (by kernel_rfl)
theorem qEl:qa Tryz.prog maps 237 jh:=qb Tryz.func237 {loc:=[],org:=[],mv:=[(1,1,0),(1,2,1),(1,0,0),(1,2,0)],bl:=[],ll:=[]} true 3 (by decide +kernel) (by kernel_rfl)
theorem qDQ:qa Tryz.prog maps 238 yl:=qb Tryz.func238 {loc:=[],org:=[],mv:=[(45,0,0),(45,1,0)],bl:=[(1,[0,1,2,8,9]),(0,[0,1,2,8,9]),(2,[0,1,2,8,9,10]),(5,[1,8,9,10,11,12,13,16,99,100,101]),(4,[1,8,9,10,11,12,13,99,100,101]),(3,[9,12,13])],ll:=[(3,[1,8,9,10,11,12,13,99,100,101])]} false 3998593661846608887 (by decide +kernel) (by kernel_rfl)
theorem qGc:qdS maps Tryz.prog {loc:=[],org:=[],mv:=[],bl:=[],ll:=[]} true Tryz.f240=some qq:=by kernel_rfl
theorem qCZ:qa Tryz.prog maps 240 qq:=qal Tryz.func240 (by decide +kernel) qGc
theorem qBW:qa Tryz.prog maps 246 qbV:=qb Tryz.func246 {loc:=[2,6],org:=[(2,2),(6,6),(39,6),(40,6)],mv:=[(18,8,1),(18,2,0),(18,7,2),(18,1,0),(18,7,1),(14,2,0),(12,2,0),(9,5,0),(9,6,2),(7,5,1),(7,1,0),(7,4,2),(5,3,1),(2,5,0),(2,4,0)],bl:=[(0,[0,2,6]),(3,[0,2,3,6,7]),(2,[0,2,6]),(1,[2])],ll:=[(1,[0,2,6])],ck:=[(18,5,3)]} true 130014175 (by decide +kernel) (by kernel_rfl)
theorem qER:qa Tryz.prog maps 248 qa1:=qb Tryz.func248 {loc:=[5],org:=[(5,5),(20,5),(23,5)],mv:=[],bl:=[(1,[0,13,14,15]),(0,[])],ll:=[(0,[0,13,14,15])],cp:=[17]} false 7167 (by decide +kernel) (by kernel_rfl)
theorem qF2:qa Tryz.prog maps 249 qcN:=qb Tryz.func249 {loc:=[8,9],org:=[(8,8),(9,9)],mv:=[(3,7,1),(3,5,0),(3,6,2),(3,0,0),(3,6,0),(2,1,0),(2,3,1)],bl:=[],ll:=[]} true 15 (by decide +kernel) (by kernel_rfl)
theorem qFf:qa Tryz.prog maps 250 qay:=qb Tryz.func250 {loc:=[2],org:=[(2,2)],mv:=[(12,1,0),(12,2,1),(12,0,0),(12,2,0),(9,6,1),(9,4,0),(9,5,3),(9,1,0),(9,5,1),(9,2,0),(9,3,0),(5,2,1),(5,0,0),(5,1,0),(3,2,0),(2,2,0)],bl:=[(0,[0,2,3])],ll:=[]} true 247 (by decide +kernel) (by kernel_rfl)
theorem qGw:qa Tryz.prog maps 251 qfY:=qb Tryz.func251 {loc:=[3],org:=[(3,3),(5,3),(9,3),(21,3)],mv:=[],bl:=[(0,[])],ll:=[]} true 6895 (by decide +kernel) (by kernel_rfl)
theorem qCh:qa Tryz.prog maps 256 qcz:=qb Tryz.func256 {loc:=[5],org:=[(5,5)],mv:=[],bl:=[],ll:=[]} true 7 (by decide +kernel) (by kernel_rfl)
theorem qCc:qa Tryz.prog maps 257 qku:=qb Tryz.func257 {loc:=[2],org:=[(2,2)],mv:=[(2,3,0),(2,0,0),(2,2,0)],bl:=[],ll:=[]} false 15 (by decide +kernel) (by kernel_rfl)
theorem qFF:qa Tryz.prog maps 262 qky:=qb Tryz.func262 {loc:=[],org:=[],mv:=[],bl:=[],ll:=[]} true 3 (by decide +kernel) (by kernel_rfl)
theorem qEu:qa Tryz.prog maps 263 qlp:=qb Tryz.func263 {loc:=[2,3],org:=[(2,2),(6,2),(12,2),(15,2),(21,2),(28,2),(32,2),(36,2),(3,3),(8,3),(17,3),(23,3),(38,3)],mv:=[],bl:=[(0,[])],ll:=[]} true 3511 (by decide +kernel) (by kernel_rfl)
theorem qFi:qa Tryz.prog maps 264 qc6:=qb Tryz.func264 {loc:=[],org:=[],mv:=[],bl:=[],ll:=[]} true 3 (by decide +kernel) (by kernel_rfl)
theorem qEI:qa Tryz.prog maps 266 qb3:=qb Tryz.func266 {loc:=[4,5],org:=[(4,4),(5,5),(14,5),(17,5),(20,5),(23,5),(24,5),(33,5),(34,5),(38,5),(43,5),(46,5)],mv:=[(16,6,0),(16,8,2),(15,9,1),(13,3,1)],bl:=[(0,[0,1,4,5])],ll:=[],fz:=[(13,2,32)],pm:=[(15,[0,1,3,4,5,6,2,7,8,9]),(16,[0,1,2,3,4,5,7,6,8])],ck:=[(15,6,1),(15,6,3),(15,6,5),(15,7,1)]} true 252863 (by decide +kernel) (by kernel_rfl)
theorem qEy:qa Tryz.prog maps 267 qi4:=qb Tryz.func267 {loc:=[],org:=[],mv:=[],bl:=[(0,[])],ll:=[]} false 3595119 (by decide +kernel) (by kernel_rfl)
theorem qFS:qa Tryz.prog maps 269 qcJ:=qb Tryz.func269 {loc:=[2,6],org:=[(2,2),(6,6)],mv:=[(16,1,0),(16,2,1),(16,0,0),(16,2,0),(15,5,0),(15,2,0),(15,3,1),(15,1,0),(15,3,0),(13,13,1),(13,13,0),(9,4,0),(9,5,3),(9,1,0),(9,5,1),(9,2,0),(9,3,0),(2,2,0)],bl:=[(0,[0,2,4])],ll:=[],pm:=[(13,[0,1,2,3,4,5,6,7,8,11,12,9,10,13,14,15,16])],ck:=[(13,11,3),(13,11,6),(13,13,3),(13,13,6),(13,13,12)]} false 6272959 (by decide +kernel) (by kernel_rfl)
theorem qDC:qa Tryz.prog maps 271 qa3:=qb Tryz.func271 {loc:=[3,4],org:=[(3,3),(47,3),(48,3),(4,4)],mv:=[(14,4,1),(14,2,0),(14,3,2),(12,2,0),(11,4,1),(11,2,0),(11,3,2),(10,2,0),(8,4,1),(6,4,1),(5,2,0),(4,4,1),(4,2,0),(4,3,2),(3,2,0)],bl:=[(4,[0,3,4,5]),(3,[0,3,4]),(2,[0,3,4]),(1,[0,3,4]),(0,[4])],ll:=[(0,[0,3,4]),(3,[0,3,4,5])]} true 28087 (by decide +kernel) (by kernel_rfl)
theorem qFG:qa Tryz.prog maps 272 qeK:=qb Tryz.func272 {loc:=[1],org:=[(1,1),(3,1)],mv:=[],bl:=[(0,[])],ll:=[]} true 445 (by decide +kernel) (by kernel_rfl)
theorem qGi:qa Tryz.prog maps 273 qbD:=qb Tryz.func273 {loc:=[3],org:=[(3,3),(5,3),(9,3),(14,3),(26,3),(32,3),(38,3)],mv:=[],bl:=[(0,[3])],ll:=[]} true 61 (by decide +kernel) (by kernel_rfl)
theorem qD6:qa Tryz.prog maps 274 qfZ:=qb Tryz.func274 {loc:=[4,5],org:=[(4,4),(15,4),(19,4),(25,4),(47,4),(5,5),(8,5),(33,5),(38,5),(39,5),(44,5)],mv:=[],bl:=[],ll:=[]} true 61 (by decide +kernel) (by kernel_rfl)
theorem qC4:qa Tryz.prog maps 275 qkw:=qb Tryz.func275 {loc:=[2],org:=[(2,2)],mv:=[],bl:=[],ll:=[]} true 3 (by decide +kernel) (by kernel_rfl)
theorem qDt:qa Tryz.prog maps 278 zF:=qb Tryz.func278 {loc:=[],org:=[],mv:=[],bl:=[(1,[0,1,7,8]),(0,[])],ll:=[(0,[0,1,7,8])]} true 16383 (by decide +kernel) (by kernel_rfl)
theorem qCR:qa Tryz.prog maps 279 kS:=qb Tryz.func279 {loc:=[],org:=[],mv:=[(1,1,0),(1,2,1),(1,0,0),(1,2,0)],bl:=[],ll:=[]} true 3 (by decide +kernel) (by kernel_rfl)
theorem qCG:qa Tryz.prog maps 280 qe0:=qb Tryz.func280 {loc:=[2],org:=[(2,2)],mv:=[],bl:=[],ll:=[]} true 3 (by decide +kernel) (by kernel_rfl)
theorem qCM:qa Tryz.prog maps 281 zr:=qb Tryz.func281 {loc:=[],org:=[],mv:=[],bl:=[(1,[0,1,7,8]),(0,[])],ll:=[(0,[0,1,7,8])]} true 16383 (by decide +kernel) (by kernel_rfl)
theorem qB2:qa Tryz.prog maps 282 kC:=qb Tryz.func282 {loc:=[],org:=[],mv:=[],bl:=[(1,[0,1,7,8]),(0,[])],ll:=[(0,[0,1,7,8])]} true 7167 (by decide +kernel) (by kernel_rfl)
theorem qDE:qa Tryz.prog maps 283 qeX:=qb Tryz.func283 {loc:=[1],org:=[(1,1)],mv:=[],bl:=[],ll:=[]} true 3 (by decide +kernel) (by kernel_rfl)
theorem qGs:qa Tryz.prog maps 285 yY:=qb Tryz.func285 {loc:=[2,3,4,5],org:=[(2,2),(3,3),(9,3),(14,3),(18,3),(23,3),(27,3),(33,3),(103,3),(4,4),(55,4),(56,4),(5,5)],mv:=[(33,0,0),(33,1,0),(32,2,1),(32,0,0),(32,1,0),(30,2,1),(30,0,0),(30,1,0),(29,2,0),(27,1,0),(27,2,0),(25,3,1),(21,2,0),(20,6,1),(20,0,0),(20,5,0),(18,3,1),(17,2,0),(16,1,1),(15,2,0),(14,1,1),(13,2,0),(11,2,0),(9,0,0),(9,1,0),(7,3,1),(6,0,0),(6,1,0),(4,3,1),(3,0,0),(3,1,0),(1,3,1)],bl:=[(0,[0,2])],ll:=[]} true 280375427296767 (by decide +kernel) (by kernel_rfl)
theorem qCp:qa Tryz.prog maps 286 qb5:=qb Tryz.func286 {loc:=[1,4],org:=[(1,1),(5,1),(8,1),(12,1),(17,1),(19,1),(25,1),(31,1),(4,4),(36,4),(40,4),(45,4),(47,4)],mv:=[],bl:=[(1,[1,3]),(0,[])],ll:=[(0,[1,3])]} true 29 (by decide +kernel) (by kernel_rfl)
theorem qEF:qa Tryz.prog maps 288 qeu:=qb Tryz.func288 {loc:=[1],org:=[(1,1),(3,1),(10,1),(14,1),(19,1),(26,1),(30,1),(35,1),(40,1),(46,1),(55,1),(59,1),(64,1)],mv:=[],bl:=[(0,[])],ll:=[]} true 521981 (by decide +kernel) (by kernel_rfl)
theorem qB8:qa Tryz.prog maps 305 qdb:=qb Tryz.func305 {loc:=[2,3],org:=[(2,2),(3,3),(33,3),(34,3)],mv:=[(15,8,1),(15,2,0),(15,7,2),(15,1,0),(15,7,1),(10,2,0),(8,2,0),(6,2,0),(4,2,0),(1,3,1)],bl:=[(2,[0,2,3,4,5,6]),(1,[0,2,3]),(0,[2])],ll:=[(0,[0,2,3])],ck:=[(15,5,3)]} true 1011119 (by decide +kernel) (by kernel_rfl)
theorem qBY:qa Tryz.prog maps 307 qcO:=qb Tryz.func307 {loc:=[6],org:=[(6,6)],mv:=[(8,4,1),(7,11,0),(7,1,0),(7,10,1),(7,0,0),(7,10,0),(6,6,0),(6,0,0),(6,5,0)],bl:=[],ll:=[]} false 3567 (by decide +kernel) (by kernel_rfl)
theorem qDL:qa Tryz.prog maps 308 qb4:=qb Tryz.func308 {loc:=[4,6,7],org:=[(4,4),(6,6),(7,7)],mv:=[(2,4,0),(2,5,3),(2,3,0),(2,5,2),(2,0,0),(2,5,0)],bl:=[],ll:=[]} true 15 (by decide +kernel) (by kernel_rfl)
theorem qGk:qa Tryz.prog maps 309 qkB:=qb Tryz.func309 {loc:=[],org:=[],mv:=[],bl:=[(0,[])],ll:=[]} true 61 (by decide +kernel) (by kernel_rfl)
theorem qBZ:qa Tryz.prog maps 313 qdh:=qb Tryz.func313 {loc:=[3],org:=[(3,3),(11,3),(15,3),(24,3),(30,3),(34,3),(38,3)],mv:=[(9,4,0),(9,0,0),(9,3,0),(4,6,0),(4,0,0),(4,5,0)],bl:=[(0,[])],ll:=[]} true 228343 (by decide +kernel) (by kernel_rfl)
theorem qFs:qa Tryz.prog maps 314 qmh:=qb Tryz.func314 {loc:=[2],org:=[(2,2),(6,2)],mv:=[(1,4,0),(1,0,0),(1,3,0)],bl:=[],ll:=[]} true 3 (by decide +kernel) (by kernel_rfl)
theorem qED:qa Tryz.prog maps 315 qng:=qb Tryz.func315 {loc:=[4],org:=[(4,4)],mv:=[(1,3,1),(1,1,0),(1,2,1),(1,0,0),(1,2,0)],bl:=[],ll:=[]} true 3 (by decide +kernel) (by kernel_rfl)
theorem qB9:qa Tryz.prog maps 317 qbS:=qb Tryz.func317 {loc:=[5],org:=[(5,5),(28,5),(32,5)],mv:=[],bl:=[],ll:=[]} true 119 (by decide +kernel) (by kernel_rfl)
theorem qFM:qa Tryz.prog maps 318 qc7:=qb Tryz.func318 {loc:=[],org:=[],mv:=[(7,0,0),(7,1,0),(6,5,0),(6,0,0),(4,5,0),(4,0,0),(4,4,7),(6,4,7)],bl:=[(1,[0,3]),(0,[0,3])],ll:=[(0,[0,3])]} true 13695 (by decide +kernel) (by kernel_rfl)
theorem qF6:qa Tryz.prog maps 319 qf4:=qb Tryz.func319 {loc:=[3],org:=[(3,3),(9,3),(12,3),(17,3),(24,3),(33,3),(41,3),(46,3),(55,3),(62,3),(78,3)],mv:=[(4,14,0)],bl:=[(1,[3,71,72,73]),(0,[])],ll:=[(0,[3,71,72,73])]} true 3669751 (by decide +kernel) (by kernel_rfl)
theorem qFg:qa Tryz.prog maps 326 qeV:=qb Tryz.func326 {loc:=[],org:=[],mv:=[(1,1,0),(1,2,1),(1,0,0),(1,2,0)],bl:=[],ll:=[]} true 3 (by decide +kernel) (by kernel_rfl)
theorem qFd:qa Tryz.prog maps 328 zp:=qb Tryz.func328 {loc:=[],org:=[],mv:=[],bl:=[(1,[0,1,7,8]),(0,[])],ll:=[(0,[0,1,7,8])]} true 16383 (by decide +kernel) (by kernel_rfl)
theorem qGB:qa Tryz.prog maps 330 yJ:=qb Tryz.func330 {loc:=[2,4],org:=[(2,2),(4,4),(21,4),(25,4),(31,4),(39,4),(40,4),(41,4),(50,4)],mv:=[(20,0,0),(20,1,0),(18,1,0),(18,2,0),(15,5,1),(15,3,0),(15,4,2),(15,0,0),(15,4,0),(11,6,1),(11,0,0),(11,5,0),(4,3,1),(4,1,0),(4,2,1),(4,0,0),(4,2,0)],bl:=[(0,[0,2,5])],ll:=[]} true 228207 (by decide +kernel) (by kernel_rfl)
theorem qC5:qa Tryz.prog maps 331 qel:=qb Tryz.func331 {loc:=[],org:=[],mv:=[],bl:=[(1,[0,1,5]),(0,[0,1])],ll:=[(0,[0,1,5])]} true 1853 (by decide +kernel) (by kernel_rfl)
theorem qCl:qa Tryz.prog maps 332 qeE:=qb Tryz.func332 {loc:=[],org:=[],mv:=[],bl:=[(0,[0])],ll:=[]} true 1008707942111 (by decide +kernel) (by kernel_rfl)
theorem qGd:qa Tryz.prog maps 339 qbY:=qb Tryz.func339 {loc:=[2,3],org:=[(2,2),(3,3),(7,3),(17,3),(21,3),(31,3),(35,3),(46,3),(50,3),(72,3),(79,3),(89,3)],mv:=[(25,0,0),(25,1,0),(24,4,1),(24,0,0),(24,3,0),(23,2,0),(22,7,1),(22,4,0),(21,2,0),(20,4,1),(20,0,0),(20,3,0),(19,2,0),(18,1,1),(17,2,0),(16,1,1),(15,2,0),(13,2,0),(12,2,1),(12,0,0),(12,1,0),(7,3,1),(4,3,1),(1,3,1)],bl:=[(0,[0,2])],ll:=[],pm:=[(10,[1,2,0,3,4])],ck:=[(10,2,1),(22,4,2)]} true 132539477499 (by decide +kernel) (by kernel_rfl)
theorem qFY:qa Tryz.prog maps 340 qlP:=qb Tryz.func340 {loc:=[],org:=[],mv:=[],bl:=[(0,[])],ll:=[]} false 116766429 (by decide +kernel) (by kernel_rfl)
theorem qFJ:qa Tryz.prog maps 342 qij:=qb Tryz.func342 {loc:=[6,7],org:=[(6,6),(21,6),(7,7)],mv:=[(25,3,0),(23,4,0),(18,4,0),(18,0,0),(18,3,0),(15,4,0),(12,4,0),(7,6,0)],bl:=[(0,[9,10])],ll:=[]} true 28031 (by decide +kernel) (by kernel_rfl)
theorem qCD:qa Tryz.prog maps 343 qnb:=qb Tryz.func343 {loc:=[1,2],org:=[(1,1),(9,1),(29,1),(33,1),(38,1),(47,1),(54,1),(64,1),(66,1),(15,1),(17,1),(21,1),(76,1),(77,1),(2,2)],mv:=[(13,5,1),(13,3,0),(13,4,1)],bl:=[(0,[1,2,6,7])],ll:=[]} false 909247 (by decide +kernel) (by kernel_rfl)
theorem qFQ:qa Tryz.prog maps 344 qkM:=qb Tryz.func344 {loc:=[1],org:=[(1,1),(4,1),(7,1),(11,1),(16,1),(22,1),(25,1),(29,1),(34,1),(39,1),(45,1),(52,1),(56,1),(60,1),(64,1),(69,1)],mv:=[(1,3,0)],bl:=[(0,[])],ll:=[]} true 509 (by decide +kernel) (by kernel_rfl)
theorem qEn:qa Tryz.prog maps 346 yn:=qb Tryz.func346 {loc:=[],org:=[],mv:=[(1,1,0),(1,2,1),(1,0,0),(1,2,0)],bl:=[],ll:=[]} true 3 (by decide +kernel) (by kernel_rfl)
theorem qDP:qa Tryz.prog maps 347 qnP:=qb Tryz.func347 {loc:=[4],org:=[(4,4)],mv:=[(1,0,0),(1,1,0)],bl:=[],ll:=[]} true 3 (by decide +kernel) (by kernel_rfl)
theorem qGr:qa Tryz.prog maps 349 qkC:=qb Tryz.func349 {loc:=[],org:=[],mv:=[(17,1,0),(15,1,0),(13,1,0),(11,1,0),(9,1,0),(7,1,0),(4,1,0)],bl:=[(0,[])],ll:=[]} false 129423197 (by decide +kernel) (by kernel_rfl)
theorem qBV:qa Tryz.prog maps 353 qio:=qb Tryz.func353 {loc:=[],org:=[],mv:=[(1,3,0),(1,1,0),(1,2,1),(1,0,0),(1,2,0)],bl:=[],ll:=[]} true 3 (by decide +kernel) (by kernel_rfl)
theorem qDS:qa Tryz.prog maps 364 qb2:=qb Tryz.func364 {loc:=[2,3,7],org:=[(2,2),(3,3),(11,3),(40,3),(44,3),(74,3),(103,3),(120,3),(7,7)],mv:=[(21,5,1),(21,1,0),(21,4,1),(21,0,0),(21,4,0),(20,3,1),(20,0,0),(20,2,0),(13,7,1),(12,0,0),(12,20,0),(11,2,0),(8,6,1),(8,4,0),(8,5,3),(8,1,0),(8,5,1),(8,0,0),(8,5,0),(7,6,1),(5,2,0),(2,3,0),(1,3,1)],bl:=[],ll:=[],fz:=[(8,0,5)],pm:=[(12,[0,1,2,3,4,5,6,7,18,19,8,9,10,11,12,13,14,15,16,17,20]),(16,[0,1,10,11,2,3,4,5,6,7,8,9,12])],ck:=[(12,10,9),(16,4,3),(16,8,3)]} true 974303 (by decide +kernel) (by kernel_rfl)
theorem qDU:qa Tryz.prog maps 366 qcS:=qb Tryz.func366 {loc:=[4,5],org:=[(4,4),(5,5)],mv:=[(3,3,1),(2,6,0),(2,7,2)],bl:=[],ll:=[]} true 127 (by decide +kernel) (by kernel_rfl)
theorem qGy:qa Tryz.prog maps 367 qme:=qb Tryz.func367 {loc:=[3,4],org:=[(3,3),(7,3),(4,4),(9,4)],mv:=[],bl:=[],ll:=[]} true 3 (by decide +kernel) (by kernel_rfl)
theorem qD3:qa Tryz.prog maps 371 qo5:=qb Tryz.func371 {loc:=[],org:=[],mv:=[(1,0,0),(1,1,0)],bl:=[],ll:=[]} true 3 (by decide +kernel) (by kernel_rfl)
theorem qDj:qa Tryz.prog maps 373 qoM:=qb Tryz.func373 {loc:=[4,5],org:=[(4,4),(12,4),(16,4),(17,4),(5,5),(14,5)],mv:=[(29,4,0),(29,2,0),(29,3,2),(29,1,0),(29,3,1),(29,0,0),(29,3,0),(28,3,0),(28,1,0),(28,2,1),(28,0,0),(28,2,0),(26,3,0),(26,1,0),(26,2,1),(26,0,0),(26,2,0),(24,3,0),(24,1,0),(24,2,1),(24,0,0),(24,2,0),(22,4,0),(22,1,0),(22,2,1),(22,0,0),(22,2,0),(20,7,0),(18,7,0),(16,1,0),(16,2,1),(16,0,0),(16,2,0),(14,1,0),(14,2,1),(14,0,0),(14,2,0),(12,3,0),(12,1,0),(12,2,1),(12,0,0),(12,2,0),(10,3,0),(10,1,0),(10,2,1),(10,0,0),(10,2,0),(8,3,0),(8,1,0),(8,2,1),(8,0,0),(8,2,0)],bl:=[(0,[0,8,9])],ll:=[]} false 1967 (by decide +kernel) (by kernel_rfl)
theorem qB4:qa Tryz.prog maps 374 qaj:=qb Tryz.func374 {loc:=[],org:=[],mv:=[],bl:=[(1,[0,1,7,8]),(0,[])],ll:=[(0,[0,1,7,8])]} true 3901 (by decide +kernel) (by kernel_rfl)
theorem qCu:qa Tryz.prog maps 376 ym:=qb Tryz.func376 {loc:=[],org:=[],mv:=[(31,5,0),(31,3,0),(31,4,1),(26,3,0),(26,4,1),(17,7,0),(9,1,0),(9,2,1),(9,0,0),(9,2,0),(5,4,0),(5,0,0),(5,3,0)],bl:=[(0,[0,1,5]),(2,[0,1,5,6,7,8,9,10]),(1,[])],ll:=[(1,[0,1,5,6,7,8,9,10])]} true 491 (by decide +kernel) (by kernel_rfl)
theorem qGf:qa Tryz.prog maps 378 qgJ:=qb Tryz.func378 {loc:=[],org:=[],mv:=[],bl:=[(0,[])],ll:=[]} true 28760943 (by decide +kernel) (by kernel_rfl)
theorem qD8:qa Tryz.prog maps 383 qlT:=qb Tryz.func383 {loc:=[1],org:=[(1,1)],mv:=[],bl:=[],ll:=[]} true 3 (by decide +kernel) (by kernel_rfl)
theorem qE1:qa Tryz.prog maps 387 qm9:=qb Tryz.func387 {loc:=[],org:=[],mv:=[],bl:=[],ll:=[]} true 3 (by decide +kernel) (by kernel_rfl)
theorem tabR:RowsOk Tryz.prog maps W.qxN:=
 .cons qIy <| .cons qIN <| .cons qIv <| .cons qHm <| .cons qHV <| .cons qG3 <| .cons qGP <| .cons qHQ <| .cons qHF <| .cons qGL <| .cons qGE <| .cons qIf <| .cons qIs <| .cons qGQ <| .cons qHG <| .cons qHJ <| .cons qIo <| .cons qGI <| .cons qG0 <| .cons qIl <| .cons qIk <| .cons qGG <| .cons qHp <| .cons qH6 <| .cons qH7 <| .cons qHT <| .cons qIr <| .cons qHi <| .cons qG6 <| .cons qHs <| .cons qHH <| .cons qHg <| .cons qHX <| .cons qIb <| .cons qHK <| .cons qIc <| .cons qIq <| .cons qG4 <| .cons qGX <| .cons qIg <| .cons qHl <| .cons qH4 <| .cons qG5 <| .cons qHW <| .cons qGO <| .cons qHy <| .cons qHY <| .cons qHB <| .cons qHk <| .cons qHf <| .cons qHj <| .cons qHD <| .cons qGF <| .cons qGN <| .cons qIa <| .cons qG9 <| .cons qHo <| .cons qHu <| .cons qIh <| .cons qH9 <| .cons qIi <| .cons qH5 <| .cons qGK <| .cons qG1 <| .cons qHR <| .cons qG2 <| .cons qHP <| .cons qHM <| .cons qHw <| .cons qHx <| .cons qH8 <| .cons qHb <| .cons qHh <| .cons qG7 <| .cons qIj <| .cons qH0 <| .cons qGU <| .cons qEZ <| .cons qFa <| .cons qCU <| .cons qE8 <| .cons qCr <| .cons qFC <| .cons qEv <| .cons qEJ <| .cons qBX <| .cons qCI <| .cons qD2 <| .cons qC3 <| .cons qDm <| .cons qDB <| .cons qCO <| .cons qC9 <| .cons qE2 <| .cons qEk <| .cons qBN <| .cons qCE <| .cons qCi <| .cons qDb <| .cons qBR <| .cons qCz <| .cons qGx <| .cons qFU <| .cons qEP <| .cons qCA <| .cons qCX <| .cons qCS <| .cons qDo <| .cons qCy <| .cons qDN <| .cons qEr <| .cons qFp <| .cons qDe <| .cons qGu <| .cons qDM <| .cons qGg <| .cons qCj <| .cons qGD <| .cons qEt <| .cons qFK <| .cons qCC <| .cons qFu <| .cons qF4 <| .cons qDn <| .cons qFV <| .cons qCq <| .cons qDa <| .cons qDI <| .cons qFh <| .cons qCH <| .cons qEU <| .cons qCw <| .cons qGt <| .cons qFr <| .cons qDG <| .cons qF0 <| .cons qDd <| .cons qD4 <| .cons qD7 <| .cons qBM <| .cons qEG <| .cons qCf <| .cons qEO <| .cons qDs <| .cons qEW <| .cons qGA <| .cons qFN <| .cons qEx <| .cons qCk <| .cons qEN <| .cons qEo <| .cons qF3 <| .cons qBO <| .cons qCV <| .cons qFZ <| .cons qDy <| .cons qCv <| .cons qE3 <| .cons qE6 <| .cons qEw <| .cons qCN <| .cons qCa <| .cons qEC <| .cons qGv <| .cons qE0 <| .cons qFE <| .cons qEM <| .cons qEd <| .cons qCL <| .cons qFT <| .cons qEl <| .cons qDQ <| .cons qCZ <| .cons qBW <| .cons qER <| .cons qF2 <| .cons qFf <| .cons qGw <| .cons qCh <| .cons qCc <| .cons qFF <| .cons qEu <| .cons qFi <| .cons qEI <| .cons qEy <| .cons qFS <| .cons qDC <| .cons qFG <| .cons qGi <| .cons qD6 <| .cons qC4 <| .cons qDt <| .cons qCR <| .cons qCG <| .cons qCM <| .cons qB2 <| .cons qDE <| .cons qGs <| .cons qCp <| .cons qEF <| .cons qB8 <| .cons qBY <| .cons qDL <| .cons qGk <| .cons qBZ <| .cons qFs <| .cons qED <| .cons qB9 <| .cons qFM <| .cons qF6 <| .cons qFg <| .cons qFd <| .cons qGB <| .cons qC5 <| .cons qCl <| .cons qGd <| .cons qFY <| .cons qFJ <| .cons qCD <| .cons qFQ <| .cons qEn <| .cons qDP <| .cons qGr <| .cons qBV <| .cons qDS <| .cons qDU <| .cons qGy <| .cons qD3 <| .cons qDj <| .cons qB4 <| .cons qCu <| .cons qGf <| .cons qD8 <| .cons qE1 <| .nil
theorem qHc:∀p ∈ W.qxN,qa Tryz.prog maps p.1 p.2:=tabR.all
theorem qtp:qrj Tryz.prog maps:=by
 intro f' k l hl hk
 have e:f'=k:=qfS hl
 subst e
 simp only [maps,W.look,Bool.cond_eq_ite] at hk
 by_cases h181:f'=181
 ·subst h181
  simp at hk
  subst hk
  exact ⟨29,86,210,3,4,0,Tryz.f181,Tryz.func181,by decide +kernel,by kernel_rfl,by kernel_rfl,by kernel_rfl,Tryz.underlying29,by kernel_rfl,by kernel_rfl,Tryz.underlying3,Tryz.underlying4⟩
 rw [if_neg (by simpa using h181)] at hk
 by_cases h244:f'=244
 ·subst h244
  simp at hk
  subst hk
  exact ⟨28,127,253,3,4,0,Tryz.f244,Tryz.func244,by decide +kernel,by kernel_rfl,by kernel_rfl,by kernel_rfl,Tryz.underlying28,by kernel_rfl,by kernel_rfl,Tryz.underlying3,Tryz.underlying4⟩
 rw [if_neg (by simpa using h244)] at hk
 by_cases h245:f'=245
 ·subst h245
  simp at hk
  subst hk
  exact ⟨30,90,254,3,4,0,Tryz.f245,Tryz.func245,by decide +kernel,by kernel_rfl,by kernel_rfl,by kernel_rfl,Tryz.underlying30,by kernel_rfl,by kernel_rfl,Tryz.underlying3,Tryz.underlying4⟩
 rw [if_neg (by simpa using h245)] at hk
 cases hk
end Go.Proofs.YtanpgonfloohoaaGreatDoor
