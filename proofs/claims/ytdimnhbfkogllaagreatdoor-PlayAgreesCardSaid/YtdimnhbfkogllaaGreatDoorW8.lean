/-
  PlayAgrees, part 8.
-/
import Derived.Test.YtdimnhbfkogllaaGreatDoorCards
import Derived.LaidByTextLater
import Derived.SevenTiedAt
import Derived.WalkKit
import Derived.ProofKit
import Derived.OpenShut
import Derived.Deep.DeepHandedRow
import Derived.Deep.DeepWitnessRowRef
import Derived.Lib.LaidTab
import Derived.Lay
import Derived.Test.YtdimnhbfkogllaaGreatDoorW7
set_option linter.unusedSimpArgs false
set_option linter.unusedVariables false
/- The program is what the small semantics runs: the table. -/
namespace Go.Proofs.YtdimnhbfkogllaaGreatDoor
open Go.ChangeShapes Go.WideShapes Go.ChangeAt Go.RowKit W
set_option maxRecDepth 100000
theorem own:ownKnob Tryz.prog.godebug=none:=by kernel_rfl
theorem qIf {H:Type}:Bulk (Rows.uptoBulk (H:=H)) Rows.uptoBulkAll:=
 ⟨fun _=>rfl,fun l=>by cases l<;>simp [Rows.uptoBulk],rfl,fun _ _=>rfl,fun _=>rfl,rfl,fun _ _=>rfl⟩
def maps:Maps:={fm:=(List.range 743).map fun i=>(i,i),tm:=(List.range 609).map fun i=>(i,i),gl:=[(0,glD 0),(5,glD 5),(13,glD 13),(14,glD 14)],bk:=[(197,⟨4,true⟩),(544,⟨6,true⟩),(545,⟨10,true⟩)]}
abbrev RK:=kA Tryz.prog maps
def an (loc:List Nat) (org:List (Nat × Nat)) (mv:List (Nat × Nat × Nat)) (bl ll:List (Nat × List Nat)):Ann:={loc:=loc,org:=org,mv:=mv,bl:=bl,ll:=ll}
theorem rO {i:Nat} {fn':W.Fn} {fn:Go.Func} (h:Tryz.prog.funcs[i]?=some fn) (A:Ann) (own:Bool) (n:Nat) (hn:(fn.name == "runtime.NumGoroutine")=false:=by decide +kernel) (ht:(jC maps Tryz.prog A own fn).map (qFe n)=some fn':=by kernel_rfl):RK i fn':=qQq h A own n hn ht
theorem qSb:jC maps Tryz.prog (an [4,5,9,10] [(4,4),(13,4),(25,4),(5,5),(18,5),(28,5),(9,9),(31,9),(34,9),(38,9),(10,10),(32,10),(44,10)] [(6,9,1),(6,7,1)] [] []) true Tryz.f3=some qp:=by kernel_rfl
theorem qSH:kA Tryz.prog maps 3 qp:=qX Tryz.func3 (by decide +kernel) qSb
theorem qSp:RK 5 qeP:=rO Tryz.func5 (an [2,7,9] [(2,2),(7,7),(44,7),(50,7),(9,9)] [] [] []) true 127
theorem qPK:jC maps Tryz.prog (an [] [] [] [] []) true Tryz.f6=some kg:=by kernel_rfl
theorem qSF:kA Tryz.prog maps 6 kg:=qX Tryz.func6 (by decide +kernel) qPK
theorem qP6:jC maps Tryz.prog (an [2,3] [(2,2),(6,2),(14,2),(20,2),(27,2),(34,2),(37,2),(48,2),(51,2),(59,2),(3,3),(10,3),(16,3),(22,3),(29,3),(39,3),(43,3),(46,3),(53,3),(57,3)] [(7,5,0),(6,5,0),(4,5,0),(2,5,0)] [(0,[2,3])] []) true Tryz.f7=some kG:=by kernel_rfl
theorem qSn:kA Tryz.prog maps 7 kG:=qX Tryz.func7 (by decide +kernel) qP6
theorem qRI:jC maps Tryz.prog (an [2,3] [(2,2),(5,2),(16,2),(21,2),(27,2),(32,2),(40,2),(3,3),(9,3),(19,3),(24,3),(29,3),(34,3),(38,3)] [(7,5,0),(6,5,0),(4,5,0),(2,3,0)] [] []) true Tryz.f8=some qA:=by kernel_rfl
theorem qSm:kA Tryz.prog maps 8 qA:=qX Tryz.func8 (by decide +kernel) qRI
theorem qQ5:RK 12 qcN:=rO Tryz.func12 {an [4] [(4,4)] [(1,0,0),(1,1,0)] [] [] with fz:=[(6,0,9)]} false 113647
theorem qQg:RK 13 qoO:=rO Tryz.func13 (an [15] [(15,15)] [(18,1,0),(18,2,1),(18,0,0),(18,2,0),(15,8,0),(15,0,0),(15,7,0),(1,1,0),(1,2,1),(1,0,0),(1,2,0)] [(1,[11,12,13,48,49,50]),(0,[11,12,13])] [(0,[11,12,13,48,49,50])]) false 1879047663
theorem qR2:RK 14 qu9:=rO Tryz.func14 (an [10] [(10,10)] [(4,4,0),(4,5,4),(4,3,0),(4,5,3),(4,2,0),(4,5,2),(4,1,0),(4,5,1),(4,0,0),(4,5,0),(1,0,0),(1,1,0)] [] []) false 255
theorem qJg:jC maps Tryz.prog (an [] [] [] [] []) true Tryz.f15=some yz:=by kernel_rfl
theorem qRS:kA Tryz.prog maps 15 yz:=qX Tryz.func15 (by decide +kernel) qJg
theorem qJu:jC maps Tryz.prog (an [] [] [] [] []) true Tryz.f16=some kN:=by kernel_rfl
theorem qRC:kA Tryz.prog maps 16 kN:=qX Tryz.func16 (by decide +kernel) qJu
theorem qJt:jC maps Tryz.prog (an [2,3] [(2,2),(5,2),(13,2),(20,2),(3,3),(8,3),(15,3),(22,3)] [] [] []) true Tryz.f17=some ku:=by kernel_rfl
theorem qRR:kA Tryz.prog maps 17 ku:=qX Tryz.func17 (by decide +kernel) qJt
theorem qJj:jC maps Tryz.prog (an [] [] [] [] []) true Tryz.f18=some kp:=by kernel_rfl
theorem qQe:kA Tryz.prog maps 18 kp:=qX Tryz.func18 (by decide +kernel) qJj
theorem qPV:RK 20 qhd:=rO Tryz.func20 (an [9] [(9,9),(49,9)] [(13,4,0),(13,0,0),(13,3,0),(9,8,0),(9,0,0),(9,7,0),(5,1,0),(5,2,1)] [(1,[0,5,6]),(0,[2,3,4])] [(0,[0,5,6])]) false 7338999
theorem qQr:RK 21 qaj:=rO Tryz.func21 (an [] [] [(25,1,0),(25,2,0),(21,2,0),(19,6,1),(5,8,0),(3,8,1),(2,13,1),(1,6,1)] [(1,[0]),(0,[0])] [(0,[0])]) false 3830421839743
theorem qRH:RK 22 qfl:=rO Tryz.func22 (an [1] [(1,1),(7,1),(12,1),(19,1),(26,1),(32,1),(39,1),(45,1),(52,1),(58,1),(64,1),(70,1),(78,1),(84,1),(93,1),(104,1),(110,1),(119,1),(129,1),(139,1),(145,1)] [] [(1,[1,3]),(0,[1]),(3,[1,4]),(2,[1]),(5,[1,5]),(4,[1]),(7,[1,6]),(6,[])] [(0,[1,3]),(2,[1,4]),(4,[1,5]),(6,[1,6])]) true 14452908023
theorem qRU:RK 23 qsT:=rO Tryz.func23 {an [9,17,19] [(9,9),(17,17),(106,17),(114,17),(19,19),(117,19)] [(14,1,0),(14,3,1),(13,5,1),(11,7,1),(1,2,0)] [(1,[0,1,4,5,6,7,9,39]),(0,[0,1,4,5,6,7,9]),(3,[1,9,12]),(2,[1,9,12]),(7,[9,12,17,100,101,102,107,108,109]),(6,[9,12,100,101,102]),(5,[9,12,100,101,102]),(4,[9,12])] [(0,[0,1,4,5,6,7,9,39]),(4,[9,12,100,101,102]),(6,[9,12,17,100,101,102,107,108,109])] with rl:=[(2,[1,4,5,6,7,9,12])],rz:=[(2,120)],fz:=[(39,6,139)]} false 490931941801455
theorem qRM:jC maps Tryz.prog (an [] [] [(3,2,0),(3,7,3),(3,0,0),(3,7,0),(1,1,0),(1,4,2),(1,0,0),(1,4,0)] [] []) false Tryz.f24=some qm:=by kernel_rfl
theorem qRm:kA Tryz.prog maps 24 qm:=qX Tryz.func24 (by decide +kernel) qRM
theorem qQB:jC maps Tryz.prog (an [3] [(3,3),(4,3),(24,3),(50,3),(73,3),(6,3),(10,3),(15,3)] [(4,0,0),(4,2,0),(3,0,0),(3,3,0),(40,0,0),(40,1,0),(36,0,0),(36,1,0),(32,0,0),(32,1,0),(28,0,0),(28,3,0),(26,0,0),(26,1,0),(21,0,0),(21,1,0),(19,0,0),(19,1,0),(16,0,0),(16,1,0),(12,0,0),(12,1,0),(10,0,0),(10,1,0),(7,0,0),(7,1,0)] [(0,[])] []) false Tryz.f25=some qg:=by kernel_rfl
theorem qQd:kA Tryz.prog maps 25 qg:=qX Tryz.func25 (by decide +kernel) qQB
theorem qQc:jC maps Tryz.prog (an [8] [(8,8),(21,8),(25,8),(33,8),(34,8),(36,8)] [(10,4,0),(10,0,0),(10,3,0),(6,11,1)] [(1,[1,6,14,15,16]),(0,[6])] [(0,[1,6,14,15,16])]) false Tryz.f26=some zJ:=by kernel_rfl
theorem qQ4:kA Tryz.prog maps 26 zJ:=qX Tryz.func26 (by decide +kernel) qQc
theorem qP3:RK 27 qs0:=rO Tryz.func27 (an [] [] [(4,0,0),(4,1,0),(1,0,0),(1,1,0)] [] []) false 255
theorem qRZ:RK 28 qcD:=rO Tryz.func28 (an [10] [(10,10)] [(11,7,1),(11,5,0),(11,6,1),(11,3,0),(11,4,3),(11,2,0),(11,4,2),(11,1,0),(11,4,1),(11,0,0),(11,4,0),(8,0,0),(8,5,0),(7,6,1),(7,4,0),(7,5,1),(7,2,0),(7,3,2),(7,1,0),(7,3,1),(7,0,0),(7,3,0),(4,0,0),(4,5,0)] [] []) false 14295
theorem qPX:RK 29 qgU:=rO Tryz.func29 (an [] [] [] [(3,[0,1]),(2,[0,1]),(6,[0,1,6,7]),(5,[0,1,6,7]),(4,[0,1]),(1,[0,1]),(0,[4,5])] [(0,[0,1]),(2,[0,1]),(4,[0,1,6,7])]) false 959
theorem qQJ:RK 30 qee:=rO Tryz.func30 (an [4,8] [(4,4),(8,8),(47,8),(50,8)] [(24,0,0),(24,1,1),(15,1,0),(15,2,1),(15,0,0),(15,2,0),(13,1,0),(13,2,1),(13,0,0),(13,2,0),(12,2,0),(4,9,0),(2,2,0)] [(2,[0,1,4,7]),(1,[0,1,4,7]),(0,[0,1,4,6]),(3,[0,1,4,6])] [(1,[0,1,4,7])]) false 2088453483257855
theorem qRk:RK 31 qaJ:=rO Tryz.func31 (an [] [] [(1,0,0),(1,1,0)] [] []) false 5
theorem qQ6:RK 32 qbj:=rO Tryz.func32 (an [] [] [(2,0,0),(2,1,0),(1,1,0),(1,2,2)] [] []) true 255
theorem qQa:RK 33 qaz:=rO Tryz.func33 (an [] [] [(5,0,0),(5,1,0),(3,0,0),(3,1,0)] [] []) true 239
theorem qRz:RK 34 qd5:=rO Tryz.func34 (an [] [] [(6,7,0),(6,0,0),(6,6,0)] [(1,[0,1,5,6]),(0,[5])] [(0,[0,1,5,6])]) true 431
theorem qRP:RK 35 qhp:=rO Tryz.func35 (an [8] [(8,8)] [] [(3,[0,3,4,5,6]),(2,[0,3,4,5]),(1,[0,3,4,5]),(0,[3])] [(0,[0,3,4,5]),(2,[0,3,4,5,6])]) true 863
theorem qRe:RK 36 qfM:=rO Tryz.func36 (an [] [] [] [(0,[])] []) true 241907637127329503
theorem qPI:RK 38 qaI:=rO Tryz.func38 (an [] [] [(2,0,0),(2,1,0),(1,1,0),(1,2,2)] [] []) true 255
theorem qRs:RK 39 yV:=rO Tryz.func39 (an [3] [(3,3)] [(7,1,0),(7,2,0),(5,12,1),(5,5,9),(5,8,0),(0,2,0)] [(1,[0]),(0,[0])] [(0,[0])]) false 2015
theorem qQh:RK 43 qaG:=rO Tryz.func43 (an [7] [(7,7),(10,7),(15,7)] [(1,3,1),(1,0,0),(1,1,0)] [] []) true 7
theorem qPW:RK 45 qaN:=rO Tryz.func45 (an [4] [(4,4)] [(4,4,0),(4,0,0),(4,3,0)] [(1,[0,3]),(0,[2])] [(0,[0,3])]) true 959
theorem qRQ:RK 46 qbd:=rO Tryz.func46 (an [2] [(2,2)] [] [] []) true 3
theorem qQ0:RK 47 qh2:=rO Tryz.func47 (an [] [] [] [] []) true 3
theorem qQW:RK 48 qbG:=rO Tryz.func48 (an [] [] [] [(1,[0,3]),(0,[])] [(0,[0,3])]) true 3447
theorem qPN:RK 49 qht:=rO Tryz.func49 (an [] [] [] [(3,[0,3,4,5]),(2,[0,3,4]),(1,[0,3,4]),(0,[3])] [(0,[0,3,4]),(2,[0,3,4,5])]) true 442359
theorem qRq:RK 50 qbI:=rO Tryz.func50 (an [] [] [] [(3,[0,3,4]),(2,[0,3]),(1,[0,3]),(0,[])] [(0,[0,3]),(2,[0,3,4])]) true 3522551
theorem qRK:RK 51 qbh:=rO Tryz.func51 (an [] [] [] [(1,[0,3]),(0,[])] [(0,[0,3])]) true 57335
theorem qQR:RK 53 qqH:=rO Tryz.func53 (an [6,8] [(6,6),(8,8)] [] [(1,[0,3,4,11,12,13]),(0,[0,3,4]),(3,[0,3,4,21,22,23]),(2,[])] [(0,[0,3,4,11,12,13]),(2,[0,3,4,21,22,23])]) true 234878975
theorem qP8:RK 54 qsM:=rO Tryz.func54 {an [8] [(8,8),(33,8)] [] [(3,[2,3,4,11,12,13]),(2,[2,3,4,11,12,13]),(1,[2,3,4,11,12,13]),(0,[3])] [(0,[2,3,4,11,12,13])] with rl:=[(2,[2,3,4,6,11,12,13])],rk:=[(2,197)]} true 262143
theorem qQx:RK 55 qhs:=rO Tryz.func55 (an [] [] [(1,9,1),(1,6,7)] [] []) true 7
theorem qQb:RK 56 qgP:=rO Tryz.func56 (an [2] [(2,2)] [(1,12,0),(1,13,0)] [] []) true 3
theorem qQt:RK 57 qe3:=rO Tryz.func57 (an [10,12,14,16,18] [(10,10),(25,10),(36,10),(12,12),(39,12),(14,14),(55,14),(66,14),(81,14),(92,14),(103,14),(16,16),(69,16),(76,16),(18,18),(95,18),(106,18)] [] [(3,[0,1,2,8,10,19,20,21,26,27,28]),(2,[0,1,2,8,19,20,21]),(1,[0,1,2,8,19,20,21]),(0,[0,1,2,8]),(7,[0,1,8,14,49,50,51,56,57,58]),(6,[0,1,8,14,49,50,51]),(9,[0,1,8,14,49,50,51,82,83,84]),(8,[0,1,8,49,50,51]),(5,[0,1,8,49,50,51]),(4,[1,8])] [(0,[0,1,2,8,19,20,21]),(2,[0,1,2,8,10,19,20,21,26,27,28]),(4,[0,1,8,49,50,51]),(6,[0,1,8,14,49,50,51,56,57,58]),(8,[0,1,8,14,49,50,51,82,83,84])]) false 27715948543
theorem qRT:RK 58 qhn:=rO Tryz.func58 (an [] [] [(2,0,0),(2,2,0),(1,1,0),(1,2,1),(0,1,0),(0,2,1)] [] []) false 3
theorem qP4:RK 59 qgh:=rO Tryz.func59 (an [] [] [(1,8,1)] [(1,[3,17]),(0,[3])] [(0,[3,17])]) true 415
theorem qPU:RK 60 qiB:=rO Tryz.func60 (an [6] [(6,6),(20,6)] [(8,0,0),(8,2,0),(7,1,0),(7,2,1),(0,2,0)] [(1,[0,4,13,14,15]),(0,[0,4])] [(0,[0,4,13,14,15])]) false 2047
theorem qP2:RK 61 qgZ:=rO Tryz.func61 (an [] [] [] [(1,[0,3]),(0,[])] [(0,[0,3])]) false 255
theorem qQ7:RK 62 qdY:=rO Tryz.func62 (an [] [] [(6,0,0),(6,1,0)] [] []) false 63
theorem qR5:RK 64 qkx:=rO Tryz.func64 (an [] [] [(3,22,1)] [(1,[0,7,8,9]),(0,[])] [(0,[0,7,8,9])]) false 127
theorem qRu:jC maps Tryz.prog (an [] [] [(2,0,0),(2,7,0),(1,0,0),(1,8,0)] [] []) false Tryz.f65=some kL:=by kernel_rfl
theorem qQ9:kA Tryz.prog maps 65 kL:=qX Tryz.func65 (by decide +kernel) qRu
theorem qQL:jC maps Tryz.prog (an [3] [(3,3)] [(1,11,1),(1,4,9),(1,8,0)] [] []) false Tryz.f66=some ja:=by kernel_rfl
theorem qRi:kA Tryz.prog maps 66 ja:=qX Tryz.func66 (by decide +kernel) qQL
theorem qQ3:jC maps Tryz.prog (an [] [] [(1,0,0),(1,1,0),(0,1,0),(0,2,1)] [] []) false Tryz.f67=some z6:=by kernel_rfl
theorem qQU:kA Tryz.prog maps 67 z6:=qX Tryz.func67 (by decide +kernel) qQ3
theorem qQj:jC maps Tryz.prog (an [] [] [(0,0,0),(0,6,0)] [] []) false Tryz.f68=some z4:=by kernel_rfl
theorem qQS:kA Tryz.prog maps 68 z4:=qX Tryz.func68 (by decide +kernel) qQj
theorem qRj:jC maps Tryz.prog (an [] [] [(0,0,0),(0,3,0)] [] []) false Tryz.f69=some z7:=by kernel_rfl
theorem qR0:kA Tryz.prog maps 69 z7:=qX Tryz.func69 (by decide +kernel) qRj
theorem qQf:jC maps Tryz.prog (an [] [] [(1,0,0),(1,1,0)] [] []) false Tryz.f70=some z0:=by kernel_rfl
theorem qRA:kA Tryz.prog maps 70 z0:=qX Tryz.func70 (by decide +kernel) qQf
theorem qQG:jC maps Tryz.prog (an [] [] [(0,0,0),(0,6,0)] [] []) false Tryz.f71=some zF:=by kernel_rfl
theorem qP9:kA Tryz.prog maps 71 zF:=qX Tryz.func71 (by decide +kernel) qQG
theorem qRv:jC maps Tryz.prog (an [] [] [(10,0,0),(10,1,0)] [(0,[0])] []) false Tryz.f72=some kV:=by kernel_rfl
theorem qQH:kA Tryz.prog maps 72 kV:=qX Tryz.func72 (by decide +kernel) qRv
theorem qPZ:jC maps Tryz.prog (an [] [] [(10,0,0),(10,1,0),(4,1,0),(4,2,2)] [] []) false Tryz.f73=some qa3:=by kernel_rfl
theorem qQn:kA Tryz.prog maps 73 qa3:=qX Tryz.func73 (by decide +kernel) qPZ
theorem qQu:jC maps Tryz.prog (an [] [] [(1,1,0),(1,2,1),(1,0,0),(1,2,0)] [] []) false Tryz.f74=some jl:=by kernel_rfl
theorem qRg:kA Tryz.prog maps 74 jl:=qX Tryz.func74 (by decide +kernel) qQu
theorem qR7:jC maps Tryz.prog (an [] [] [(1,0,0),(1,3,0),(1,1,0),(1,2,0),(15,0,0),(15,1,0),(13,0,0),(13,1,0),(11,0,0),(11,1,0),(9,0,0),(9,1,0),(4,1,0),(4,2,1),(4,0,0),(4,2,0)] [(0,[])] []) false Tryz.f75=some f_genrisc_gen_reckon:=by kernel_rfl
theorem qRr:kA Tryz.prog maps 75 f_genrisc_gen_reckon:=qX Tryz.func75 (by decide +kernel) qR7
theorem qRb:jC maps Tryz.prog (an [3] [(3,3),(4,3),(13,3),(19,3),(27,3),(33,3),(39,3)] [(16,0,0),(16,1,0),(14,0,0),(14,3,0),(12,0,0),(12,3,0),(10,0,0),(10,3,0),(7,0,0),(7,3,0),(5,0,0),(5,3,0),(3,0,0),(3,1,0)] [(0,[])] []) false Tryz.f76=some f_genrisc_gen_leads:=by kernel_rfl
theorem qPO:kA Tryz.prog maps 76 f_genrisc_gen_leads:=qX Tryz.func76 (by decide +kernel) qRb
theorem qQA:RK 77 qov:=rO Tryz.func77 (an [1] [(1,1),(8,1),(12,1),(17,1),(22,1),(28,1),(32,1),(37,1),(42,1),(47,1),(51,1),(56,1),(61,1),(66,1),(70,1),(75,1),(81,1),(84,1),(90,1),(95,1)] [] [(0,[1,4])] []) false 16777207
theorem qR4:RK 78 qig:=rO Tryz.func78 (an [] [] [(15,4,0),(15,0,0),(15,3,0),(14,4,0),(14,0,0),(14,3,0),(13,6,0),(10,5,0),(6,0,0),(6,2,0)] [(1,[5,6,13,14,15]),(0,[6])] [(0,[5,6,13,14,15])]) false 251133951
theorem qRJ:RK 79 qoD:=rO Tryz.func79 (an [8] [(8,8)] [(25,5,0),(23,13,1),(23,4,9),(23,10,0),(18,9,0),(9,9,0),(9,8,0),(9,4,0),(9,7,0),(9,0,0),(9,3,0),(6,0,0),(6,1,0)] [(1,[4,5,18,19,20]),(0,[4,5]),(3,[4,5,13,52,53,54]),(2,[13])] [(0,[4,5,18,19,20]),(2,[4,5,13,52,53,54])]) false 30640296148991
theorem qRh:RK 80 qqu:=rO Tryz.func80 (an [] [] [(1,6,0),(1,7,0),(1,0,0),(1,1,0),(1,1,63),(1,7,63)] [] []) true 3
theorem qPJ:RK 81 qda:=rO Tryz.func81 (an [4] [(4,4)] [(3,2,1),(3,0,0),(3,1,0)] [(1,[0,1,4]),(0,[0,4])] [(0,[0,1,4])]) true 255
theorem qRF:RK 85 qfV:=rO Tryz.func85 (an [] [] [] [] []) true 3
theorem qRX:RK 86 qd0:=rO Tryz.func86 (an [] [] [] [] []) true 3
theorem qPY:RK 87 qfj:=rO Tryz.func87 (an [] [] [] [] []) true 3
theorem qQw:RK 88 qcJ:=rO Tryz.func88 (an [] [] [(1,1,0)] [(1,[0,3,4]),(0,[])] [(0,[0,3,4])]) true 16383
theorem qQO:RK 89 qdQ:=rO Tryz.func89 (an [4,11] [(4,4),(11,11),(67,11),(71,11),(76,11),(93,11)] [(23,3,1),(13,4,1),(5,5,0)] [(1,[0,1,4,6,7,8,9]),(0,[0,1,4,6,7,8,9])] [(0,[0,1,4,6,7,8,9])]) false 15663103
theorem qRG:RK 91 qi4:=rO Tryz.func91 (an [] [] [] [(1,[0,1,5]),(0,[])] [(0,[0,1,5])]) true 4029
theorem qR8:RK 92 qaU:=rO Tryz.func92 (an [] [] [] [] []) false 3
theorem qRL:RK 93 yO:=rO Tryz.func93 (an [] [] [(1,0,0),(1,1,0)] [] []) true 3
theorem qRE:RK 94 qaD:=rO Tryz.func94 (an [4] [(4,4)] [] [(1,[0,1,4,6]),(0,[4])] [(0,[0,1,4,6])]) false 215
theorem qQQ:RK 95 yS:=rO Tryz.func95 (an [5,6] [(5,5),(6,6)] [(3,0,0),(3,1,0)] [] []) false 47
theorem qP7:RK 97 qaT:=rO Tryz.func97 (an [2,3,4,6,8,9] [(2,2),(3,3),(45,3),(48,3),(49,3),(59,3),(94,3),(95,3),(121,3),(122,3),(133,3),(134,3),(4,4),(14,4),(17,4),(6,6),(40,6),(61,6),(67,6),(68,6),(8,8),(99,8),(100,8),(9,9),(126,9),(131,9),(144,9)] [(32,3,1),(31,2,0),(30,7,1),(30,0,0),(30,6,0),(28,3,1),(27,2,0),(26,8,1),(26,0,0),(26,7,0),(21,11,1),(21,10,1),(20,3,1),(2,3,1),(1,3,1)] [(0,[0,2,3,5]),(1,[2,3])] []) true 235600047615
theorem qQp:RK 98 qbO:=rO Tryz.func98 (an [] [] [(1,0,0),(1,1,0)] [] []) false 5
theorem qNb:RK 109 qaS:=rO Tryz.func109 (an [2] [(2,2)] [(14,2,1),(14,0,0),(14,1,0),(13,2,0),(12,2,1),(12,0,0),(12,1,0),(11,2,0),(10,2,1),(10,0,0),(10,1,0),(9,2,0),(8,0,0),(8,1,0),(6,2,0),(5,2,0),(4,2,1),(4,0,0),(4,1,0),(3,2,0),(2,2,1),(2,0,0),(2,1,0),(1,2,0)] [(0,[2])] []) false 1011125
theorem qJ7:RK 110 qbx:=rO Tryz.func110 (an [2] [(2,2),(9,2),(15,2),(22,2),(28,2)] [] [(1,[1,2,5]),(0,[])] [(0,[1,2,5])]) true 3447
theorem qMu:RK 111 qe9:=rO Tryz.func111 (an [1] [(1,1),(6,1),(13,1)] [] [(1,[1,3,4]),(0,[3])] [(0,[1,3,4])]) true 431
theorem qLq:RK 112 qbw:=rO Tryz.func112 (an [1] [(1,1),(4,1),(9,1),(16,1),(22,1),(28,1)] [] [(1,[1,3]),(0,[])] [(0,[1,3])]) true 3447
theorem qNe:RK 113 qsK:=rO Tryz.func113 (an [1,7] [(1,1),(10,1),(26,1),(7,7),(17,7),(22,7)] [(10,2,0),(10,3,1)] [(1,[1,3,4,5,11,12,13]),(0,[1,3,5])] [(0,[1,3,4,5,11,12,13])]) true 3711
theorem qPi:RK 114 qsZ:=rO Tryz.func114 (an [2,9] [(2,2),(18,2),(9,9),(26,9)] [(1,6,0)] [(1,[6,7,19,20,21]),(0,[7])] [(0,[6,7,19,20,21])]) false 831
theorem qJS:RK 115 qql:=rO Tryz.func115 (an [1,5] [(1,1),(6,1),(9,1),(13,1),(5,5),(21,5)] [] [(1,[1,3,14,15,16]),(0,[1,3])] [(0,[1,3,14,15,16])]) true 927
theorem qPm:RK 116 zG:=rO Tryz.func116 (an [] [] [] [] []) true 3
theorem qNZ:RK 118 qi9:=rO Tryz.func118 (an [] [] [(0,1,0),(0,2,2),(0,0,0),(0,2,0)] [] []) false 0
theorem qOu:RK 119 qky:=rO Tryz.func119 (an [] [] [(3,1,0),(3,2,1)] [(1,[0,6,7,8]),(0,[])] [(0,[0,6,7,8])]) false 127
theorem qOc:RK 120 qcR:=rO Tryz.func120 (an [] [] [] [(1,[0,5,6,7]),(0,[])] [(0,[0,5,6,7])]) false 767
theorem qKL:RK 121 qgO:=rO Tryz.func121 (an [] [] [] [] []) true 15
theorem qJN:RK 122 qh7:=rO Tryz.func122 (an [5] [(5,5)] [] [(1,[0,7,8,9]),(0,[])] [(0,[0,7,8,9])]) false 511
theorem qLv:RK 123 qfr:=rO Tryz.func123 (an [] [] [(0,12,1)] [] []) false 1
theorem qN0:RK 124 qiE:=rO Tryz.func124 (an [] [] [] [] []) false 0
theorem qOa:RK 125 qij:=rO Tryz.func125 (an [] [] [(0,12,1),(0,9,7)] [] []) false 0
theorem qKq:RK 126 qcS:=rO Tryz.func126 (an [] [] [(10,0,0),(10,1,0)] [] []) false 1023
theorem qOS:RK 127 qeb:=rO Tryz.func127 (an [] [] [(24,0,0),(24,1,0),(22,1,0),(22,2,1),(21,1,0),(21,2,2),(16,1,0),(16,2,1),(7,2,0),(1,5,0),(1,4,0)] [] []) false 16777215
theorem qOe:RK 128 qe5:=rO Tryz.func128 (an [] [] [(20,0,0),(20,1,0)] [] []) false 1048575
theorem qLR:RK 129 qfK:=rO Tryz.func129 (an [] [] [(13,0,0),(13,1,0),(11,1,0),(11,2,1),(1,2,0)] [] []) false 8191
theorem qOU:RK 130 qcP:=rO Tryz.func130 (an [] [] [(22,0,0),(22,1,0),(20,1,0),(20,2,1),(5,1,0),(5,2,1),(1,2,0)] [(1,[0,2,13]),(0,[0,2])] [(0,[0,2,13])]) false 33554431
theorem qNj:RK 131 qc6:=rO Tryz.func131 (an [] [] [(42,0,0),(42,1,0),(41,1,0),(41,2,1),(40,1,0),(40,2,2),(32,1,0),(32,2,2),(1,8,0),(1,7,0),(1,6,0)] [] []) false 4398046511103
theorem qOy:RK 132 qef:=rO Tryz.func132 (an [] [] [(15,0,0),(15,1,0),(14,1,0),(14,2,1),(12,1,0),(12,2,1),(11,1,0),(11,2,2),(2,2,0),(1,5,0),(1,4,0)] [] []) false 32767
theorem qOC:RK 133 qgR:=rO Tryz.func133 (an [] [] [] [] []) false 0
theorem qKY:RK 135 qiQ:=rO Tryz.func135 (an [] [] [(1,0,0),(1,2,0)] [] []) false 1
theorem qLt:RK 136 qgX:=rO Tryz.func136 (an [3] [(3,3),(4,3),(33,3),(50,3),(68,3),(84,3),(94,3),(7,3),(12,3),(17,3)] [(6,0,0),(6,2,0),(5,0,0),(5,2,0),(35,0,0),(35,2,0),(33,0,0),(33,2,0),(31,0,0),(31,2,0),(28,0,0),(28,2,0),(22,0,0),(22,1,0),(14,0,0),(14,2,0),(8,0,0),(8,3,0)] [(0,[])] []) false 15
theorem qJK:jC maps Tryz.prog (an [] [] [(0,0,0),(0,6,0)] [] []) false Tryz.f137=some ji:=by kernel_rfl
theorem qLE:kA Tryz.prog maps 137 ji:=qX Tryz.func137 (by decide +kernel) qJK
theorem qMM:jC maps Tryz.prog (an [] [] [(0,0,0),(0,5,0)] [] []) false Tryz.f138=some zY:=by kernel_rfl
theorem qNx:kA Tryz.prog maps 138 zY:=qX Tryz.func138 (by decide +kernel) qMM
theorem qNr:jC maps Tryz.prog (an [] [] [(1,0,0),(1,1,0)] [] []) false Tryz.f139=some zx:=by kernel_rfl
theorem qJ8:kA Tryz.prog maps 139 zx:=qX Tryz.func139 (by decide +kernel) qNr
theorem qKx:jC maps Tryz.prog (an [] [] [(6,0,0),(6,1,0),(2,1,0),(2,2,1)] [] []) false Tryz.f140=some kJ:=by kernel_rfl
theorem qKs:kA Tryz.prog maps 140 kJ:=qX Tryz.func140 (by decide +kernel) qKx
theorem qOZ:jC maps Tryz.prog (an [] [] [(2,0,0),(2,1,0),(1,1,0),(1,2,1)] [] []) false Tryz.f141=some jj:=by kernel_rfl
theorem qKM:kA Tryz.prog maps 141 jj:=qX Tryz.func141 (by decide +kernel) qOZ
theorem qNC:jC maps Tryz.prog (an [] [] [] [(0,[])] []) true Tryz.f142=some f_genrisc_operation:=by kernel_rfl
theorem qOP:kA Tryz.prog maps 142 f_genrisc_operation:=qX Tryz.func142 (by decide +kernel) qNC
theorem qKd:jC maps Tryz.prog (an [] [] [(0,0,0),(0,3,0)] [] []) false Tryz.f143=some je:=by kernel_rfl
theorem qPC:kA Tryz.prog maps 143 je:=qX Tryz.func143 (by decide +kernel) qKd
theorem qJ3:jC maps Tryz.prog (an [] [] [(0,15,1),(0,4,9),(0,12,0)] [] []) false Tryz.f144=some zX:=by kernel_rfl
theorem qMg:kA Tryz.prog maps 144 zX:=qX Tryz.func144 (by decide +kernel) qJ3
theorem qJV:jC maps Tryz.prog (an [] [] [(12,0,0),(12,1,0),(7,1,0),(7,2,2)] [] []) false Tryz.f145=some kc:=by kernel_rfl
theorem qOF:kA Tryz.prog maps 145 kc:=qX Tryz.func145 (by decide +kernel) qJV
theorem qPs:jC maps Tryz.prog (an [] [] [(4,0,0),(4,2,0)] [] []) false Tryz.f146=some zH:=by kernel_rfl
theorem qKj:kA Tryz.prog maps 146 zH:=qX Tryz.func146 (by decide +kernel) qPs
theorem qLA:RK 147 qrj:=rO Tryz.func147 (an [1] [(1,1),(3,1),(8,1),(14,1),(20,1),(25,1),(29,1),(34,1),(38,1),(43,1),(49,1),(53,1),(58,1),(64,1),(68,1),(72,1),(74,1),(78,1),(82,1),(86,1)] [] [(0,[])] []) true 2139094999
theorem qN8:RK 148 qus:=rO Tryz.func148 (an [] [] [] [] []) true 127
theorem qKW:RK 149 qkD:=rO Tryz.func149 (an [] [] [(7,5,1),(6,1,0),(6,2,1),(1,0,0),(1,1,0)] [] []) false 47
theorem qOY:RK 150 kl:=rO Tryz.func150 (an [] [] [(1,1,0),(1,2,1),(1,0,0),(1,2,0)] [] []) true 3
theorem qLQ:RK 152 qou:=rO Tryz.func152 (an [2] [(2,2)] [(13,0,0),(13,1,1),(11,9,0),(11,0,0),(11,8,0),(5,1,0),(5,2,1),(4,6,0),(4,5,0)] [(3,[8,10,11,28,29,30]),(2,[8,28,29,30]),(1,[8,28,29,30]),(0,[8])] [(0,[8,28,29,30]),(2,[8,10,11,28,29,30])]) false 4194287
theorem qPe:RK 153 qoA:=rO Tryz.func153 (an [2,12] [(2,2),(12,12),(79,12)] [(11,4,0),(1,0,0),(1,1,0)] [] []) false 7306735
theorem qO7:RK 154 qkz:=rO Tryz.func154 (an [6,10] [(6,6),(38,6),(48,6),(10,10)] [(26,1,0),(26,2,1)] [(1,[0,4,26,27,28]),(0,[0,4]),(5,[0,4,52,53,54,59,60,61]),(4,[0,4,52,53,54]),(3,[0,4,52,53,54]),(2,[0,4]),(7,[4,79,80]),(6,[4])] [(0,[0,4,26,27,28]),(2,[0,4,52,53,54]),(4,[0,4,52,53,54,59,60,61]),(6,[4,79,80])]) false 15391552045047
theorem qLB:RK 155 qkG:=rO Tryz.func155 (an [2,7] [(2,2),(13,2),(25,2),(43,2),(7,7)] [(13,0,0),(13,3,0),(3,3,0),(3,4,1)] [(1,[2,4,5,26,27,28]),(0,[2,4,5])] [(0,[2,4,5,26,27,28])]) true 1
theorem qKm:RK 156 jA:=rO Tryz.func156 (an [] [] [] [(1,[0,1,12,13]),(0,[])] [(0,[0,1,12,13])]) true 114679
theorem qPh:RK 157 qmt:=rO Tryz.func157 (an [2,10] [(2,2),(11,2),(10,10),(24,10)] [(12,4,0),(12,0,0),(12,3,0),(10,2,0)] [(3,[1,5,7,8,12,13,14,18,19,20]),(2,[1,5,8,12,13,14]),(1,[1,5,12,13,14]),(0,[5])] [(0,[1,5,12,13,14]),(2,[1,5,7,8,12,13,14,18,19,20])]) true 212991
theorem qMD:RK 158 jB:=rO Tryz.func158 (an [] [] [(3,3,0),(3,2,0),(3,2,6)] [] []) true 55
theorem qOz:RK 159 yT:=rO Tryz.func159 (an [] [] [(3,3,0),(3,2,0),(3,2,6)] [] []) true 127
theorem qPw:RK 160 qcf:=rO Tryz.func160 (an [3] [(3,3),(59,3),(66,3)] [(15,0,0),(15,1,0),(13,3,0),(11,3,0),(4,0,0),(4,1,0)] [(0,[0,4,5]),(1,[])] []) true 1056947967
theorem qKB:RK 161 qbf:=rO Tryz.func161 (an [2] [(2,2)] [] [] []) true 3
theorem qLe:RK 165 qca:=rO Tryz.func165 (an [] [] [(1,1,0)] [] []) true 3
theorem qKa:RK 166 qil:=rO Tryz.func166 (an [] [] [(2,3,0),(1,2,0)] [(0,[])] []) true 895
theorem qNG:RK 167 yX:=rO Tryz.func167 (an [2,5,7] [(2,2),(5,5),(18,5),(19,5),(25,5),(26,5),(31,5),(52,5),(53,5),(63,5),(64,5),(72,5),(73,5),(82,5),(7,7),(55,7),(56,7)] [(21,9,1),(19,3,1),(15,2,0),(13,2,0),(11,2,0),(9,7,1),(4,3,1),(3,2,0),(1,2,0)] [(2,[0,2,5,6]),(1,[0,2,5]),(0,[2])] [(0,[0,2,5])]) true 987487711
theorem qLz:RK 178 qjo:=rO Tryz.func178 (an [4] [(4,4)] [(1,0,0),(1,1,0)] [] []) true 3
theorem qMU:RK 185 jR:=rO Tryz.func185 (an [2,4,6,7] [(2,2),(4,4),(23,4),(29,4),(101,4),(102,4),(103,4),(108,4),(6,6),(55,6),(56,6),(61,6),(62,6),(72,6),(73,6),(80,6),(84,6),(7,7),(45,7),(49,7),(50,7),(69,7),(86,7)] [(21,3,1),(21,1,0),(21,2,1),(21,0,0),(21,2,0),(20,3,0),(20,4,2),(20,0,0),(20,4,0),(15,5,1),(14,0,0),(14,17,0),(12,3,1),(9,7,1),(4,3,1),(4,1,0),(4,2,1),(4,0,0),(4,2,0)] [(0,[0,2,5])] []) true 448495
theorem qMk:RK 186 qoX:=rO Tryz.func186 (an [4] [(4,4)] [] [(1,[1,5,6,7]),(0,[])] [(0,[1,5,6,7])]) false 127
theorem qMh:RK 187 qsQ:=rO Tryz.func187 (an [1,5] [(1,1),(6,1),(5,5)] [] [(1,[3,7,8,9]),(0,[3])] [(0,[3,7,8,9])]) true 415
theorem qJU:RK 188 qoP:=rO Tryz.func188 (an [2] [(2,2),(4,2)] [] [] []) false 1
theorem qOW:RK 189 qsD:=rO Tryz.func189 (an [7,9] [(7,7),(21,7),(32,7),(9,9)] [(12,0,0),(12,3,0)] [(3,[1,2,7,12,13,14,22,23,24]),(2,[1,2,7,12,13,14]),(5,[1,2,12,13,14,33,34,35]),(4,[1,2,12,13,14]),(1,[1,2,12,13,14]),(0,[])] [(0,[1,2,12,13,14]),(2,[1,2,7,12,13,14,22,23,24]),(4,[1,2,12,13,14,33,34,35])]) false 1310719
theorem qJX:RK 191 qoV:=rO Tryz.func191 (an [1] [(1,1)] [] [] []) false 0
theorem qPc:RK 192 za:=rO Tryz.func192 {an [] [] [(13,3,0),(13,0,0),(9,2,0),(9,0,0),(9,1,1),(13,2,7)] [(1,[0,3,9,10,11]),(0,[0,3]),(3,[6,25,26,27]),(2,[6])] [(0,[0,3,9,10,11]),(2,[6,25,26,27])] with fz:=[(15,0,6)]} true 16773119
theorem qLL:RK 194 qhl:=rO Tryz.func194 (an [3,7,9,11] [(3,3),(12,3),(24,3),(48,3),(7,7),(19,7),(9,9),(31,9),(36,9),(11,11)] [(16,3,0),(16,4,2),(16,2,0),(16,4,1)] [(1,[1,2,3,13,14,15]),(0,[1,2,3]),(5,[1,2,3,25,26,27,37,38,39]),(4,[1,2,3,25,26,27]),(3,[1,2,3,25,26,27]),(2,[1,2,3])] [(0,[1,2,3,13,14,15]),(2,[1,2,3,25,26,27]),(4,[1,2,3,25,26,27,37,38,39])]) false 5071
theorem qNB:RK 195 qmV:=rO Tryz.func195 (an [2] [(2,2),(4,2)] [] [] []) false 1
theorem qL1:RK 196 qm7:=rO Tryz.func196 (an [2] [(2,2),(4,2)] [] [] []) false 1
theorem qNU:RK 198 qiR:=rO Tryz.func198 (an [3] [(3,3),(6,3),(14,3),(18,3),(26,3),(51,3),(57,3)] [(2,0,0),(2,2,0),(25,0,0),(25,2,0),(20,0,0),(20,2,0),(18,0,0),(18,2,0),(16,1,0),(16,2,2),(16,0,0),(16,2,0),(13,2,0),(11,2,0),(11,3,2),(11,0,0),(11,3,0),(10,2,0),(8,3,0),(6,0,0),(6,5,0),(4,0,0),(4,9,0)] [(0,[])] []) false 23317933495
theorem qJQ:RK 199 qhh:=rO Tryz.func199 (an [] [] [(5,1,0),(5,2,1),(0,1,0),(0,2,1)] [(1,[0,16,17]),(0,[])] [(0,[0,16,17])]) false 511
theorem qMO:RK 200 qiw:=rO Tryz.func200 (an [] [] [(1,0,0),(1,2,0)] [] []) false 1
theorem qOn:RK 201 qhi:=rO Tryz.func201 (an [] [] [(0,0,0),(0,2,0)] [] []) false 0
theorem qO9:RK 202 qh8:=rO Tryz.func202 (an [] [] [(1,1,0),(1,4,1),(1,0,0),(1,4,0),(0,14,1),(0,11,7)] [] []) false 1
theorem qOI:RK 203 qif:=rO Tryz.func203 (an [] [] [(2,0,0),(2,2,0),(1,2,0)] [] []) true 15
theorem qNR:RK 204 qkw:=rO Tryz.func204 (an [] [] [(2,0,0),(2,2,0)] [] []) false 7
theorem qNp:RK 205 qhc:=rO Tryz.func205 (an [] [] [(3,0,0),(3,2,0)] [] []) false 7
theorem qMr:RK 206 qg1:=rO Tryz.func206 (an [] [] [(6,0,0),(6,1,0),(0,0,7)] [(1,[0,5,6,7]),(0,[0])] [(0,[0,5,6,7])]) false 511
theorem qLr:RK 207 qip:=rO Tryz.func207 (an [] [] [(2,1,0),(2,2,1),(2,0,0),(2,2,0),(1,1,0),(1,2,1)] [] []) false 3
theorem qM7:RK 215 qoF:=rO Tryz.func215 (an [] [] [] [] []) true 3
theorem qLZ:RK 216 qoC:=rO Tryz.func216 (an [] [] [] [] []) true 3
theorem qNQ:RK 217 qvt:=rO Tryz.func217 (an [5] [(5,5),(21,5)] [(6,4,1),(6,0,9),(6,3,0),(5,3,1),(2,3,1)] [(1,[2,3,4]),(0,[2,3])] [(0,[2,3,4])]) false 23
theorem qOr:RK 218 qgY:=rO Tryz.func218 (an [3] [(3,3),(17,3)] [(5,5,1)] [] []) false 447
theorem qNK:RK 219 qb6:=rO Tryz.func219 (an [] [] [(19,6,0),(19,7,0),(15,1,0),(15,2,1),(14,6,1),(5,6,1),(5,2,0),(5,3,1),(4,12,0),(4,13,2),(2,6,1)] [(1,[0,5]),(0,[0,5])] [(0,[0,5])]) false 201306111
theorem qPg:RK 220 qpZ:=rO Tryz.func220 (an [1,2] [(1,1),(3,1),(5,1),(8,1),(11,1),(14,1),(17,1),(20,1),(23,1),(2,2)] [] [] []) true 3
theorem qKS:RK 221 kC:=rO Tryz.func221 (an [] [] [] [(1,[0,1,7,8]),(0,[])] [(0,[0,1,7,8])]) true 207
theorem qL2:RK 222 qoL:=rO Tryz.func222 (an [1] [(1,1)] [(4,0,0),(4,1,1)] [] []) false 111
theorem qKw:RK 223 qq2:=rO Tryz.func223 (an [] [] [(5,5,0),(5,0,0),(5,4,0),(3,6,0),(3,0,0),(3,5,0),(1,2,0),(1,0,0),(1,1,0)] [(1,[1,5]),(0,[1,5])] [(0,[1,5])]) true 215
theorem qPk:RK 224 qvC:=rO Tryz.func224 (an [] [] [(5,5,0),(5,1,0),(5,2,0),(5,4,0),(4,3,0),(4,0,0),(4,2,0),(3,9,0),(3,4,0),(5,0,10),(3,1,11),(3,0,7)] [] []) false 247
theorem qLV:RK 225 qvE:=rO Tryz.func225 (an [] [] [(15,9,0)] [(0,[0,5,6,7]),(1,[0,9,10])] []) false 14413295
theorem qOx:RK 226 qor:=rO Tryz.func226 (an [] [] [] [(1,[5,12,13,14]),(0,[])] [(0,[5,12,13,14])]) false 257659
theorem qK0:RK 227 qox:=rO Tryz.func227 (an [2] [(2,2)] [(8,2,0),(1,0,0),(1,1,0)] [(0,[2,5])] []) false 3653487
theorem qKe:RK 228 qiq:=rO Tryz.func228 (an [] [] [(10,4,0),(10,0,0),(10,3,0)] [(3,[0,3,4,13,14,15]),(2,[0,3,4]),(1,[0,3]),(0,[3])] [(0,[0,3]),(2,[0,3,4,13,14,15])]) true 262143
theorem qPx:RK 229 qos:=rO Tryz.func229 (an [1] [(1,1),(6,1)] [(6,4,0),(6,0,0),(6,3,0)] [(1,[3,7,8,9]),(0,[3])] [(0,[3,7,8,9])]) true 14335
theorem qNF:RK 230 qeQ:=rO Tryz.func230 (an [] [] [(12,10,1),(12,4,9),(12,7,0),(1,6,0)] [(0,[0,1]),(2,[0,1,35,36,37]),(1,[0,1])] [(1,[0,1,35,36,37])]) true 118711
theorem qKl:RK 231 qg6:=rO Tryz.func231 (an [2] [(2,2),(15,2)] [] [] []) false 11
theorem qL0:RK 232 qmu:=rO Tryz.func232 (an [] [] [] [] []) false 5
theorem qLx:RK 233 qrs:=rO Tryz.func233 (an [1] [(1,1),(7,1),(12,1),(18,1),(24,1),(32,1),(38,1),(44,1),(50,1),(56,1),(61,1),(64,1),(67,1),(81,1)] [(6,3,0),(5,3,0),(4,3,0),(1,4,0)] [] []) true 1007
theorem qJM:RK 234 qmH:=rO Tryz.func234 {an [10] [(10,10),(47,10)] [] [(3,[4,5,6,22,23,24]),(2,[4,5,6,22,23,24]),(1,[4,5,6,22,23,24]),(0,[5])] [(0,[4,5,6,22,23,24])] with rl:=[(2,[4,5,6,8,22,23,24])],rk:=[(2,197)]} true 831
theorem qNg:RK 235 qbm:=rO Tryz.func235 (an [2,8,10,12,14,16] [(2,2),(21,2),(25,2),(30,2),(37,2),(48,2),(60,2),(72,2),(84,2),(96,2),(108,2),(8,8),(68,8),(10,10),(80,10),(12,12),(92,12),(14,14),(104,14),(16,16),(116,16)] [(9,4,0),(9,5,1),(1,3,0)] [(1,[0,2,4,38,39,40]),(0,[2,4]),(3,[2,4,61,62,63]),(2,[2,4]),(5,[2,4,73,74,75]),(4,[2,4]),(7,[2,4,85,86,87]),(6,[2,4]),(9,[2,4,97,98,99]),(8,[2,4]),(11,[4,109,110,111]),(10,[])] [(0,[0,2,4,38,39,40]),(2,[2,4,61,62,63]),(4,[2,4,73,74,75]),(6,[2,4,85,86,87]),(8,[2,4,97,98,99]),(10,[4,109,110,111])]) false 5392842751999
theorem qNh:RK 236 qay:=rO Tryz.func236 (an [3,5,10,12] [(3,3),(31,3),(43,3),(5,5),(57,5),(68,5),(75,5),(107,5),(125,5),(10,10),(98,10),(104,10),(12,12),(114,12),(119,12)] [(11,0,0),(11,1,0)] [(1,[0,17,18,19]),(0,[0]),(5,[0,5,8,51,52,53,91,92,93]),(4,[0,5,51,52,53]),(7,[0,5,51,52,53,108,109,110]),(6,[0,5,51,52,53]),(3,[0,51,52,53]),(2,[])] [(0,[0,17,18,19]),(2,[0,51,52,53]),(4,[0,5,8,51,52,53,91,92,93]),(6,[0,5,51,52,53,108,109,110])]) false 1255
theorem qNV:RK 237 yW:=rO Tryz.func237 (an [3,5,8,10] [(3,3),(22,3),(25,3),(26,3),(30,3),(31,3),(32,3),(5,5),(49,5),(8,8),(65,8),(80,8),(83,8),(10,10),(104,10)] [] [(1,[0,15,16,17]),(0,[0]),(3,[0,42,43,44]),(2,[0]),(5,[0,6,57,58,59]),(4,[0]),(7,[0,90,91,92]),(6,[])] [(0,[0,15,16,17]),(2,[0,42,43,44]),(4,[0,6,57,58,59]),(6,[0,90,91,92])]) false 10287591
theorem qJZ:RK 239 qbs:=rO Tryz.func239 (an [5] [(5,5),(17,5)] [(7,1,0),(7,2,1)] [(3,[0,8,9,10,18,19,20]),(2,[0,8,9,10]),(1,[0,8,9,10]),(0,[])] [(0,[0,8,9,10]),(2,[0,8,9,10,18,19,20])]) false 5119
theorem qM0:RK 242 qoH:=rO Tryz.func242 (an [2,4] [(2,2),(4,4),(29,4),(38,4),(39,4),(40,4),(42,4),(52,4),(53,4),(54,4),(56,4),(63,4),(64,4),(66,4),(70,4),(26,4),(27,4)] [(2,8,1),(2,6,1),(10,3,1),(8,7,1),(8,5,1),(6,12,1),(6,10,1),(6,8,1),(4,11,1),(4,9,1),(4,7,1)] [(0,[0,2,4])] []) false 1835007
theorem qPo:RK 243 qaK:=rO Tryz.func243 (an [3] [(3,3),(13,3),(20,3),(26,3),(29,3),(32,3),(36,3),(41,3),(44,3),(48,3),(52,3),(145,3)] [(40,3,0),(40,4,2),(40,0,0),(40,4,0),(39,8,1),(39,5,0),(33,5,0),(33,3,0),(33,4,3),(33,2,0),(33,4,2),(31,5,0),(31,3,0),(31,4,3),(31,2,0),(31,4,2),(20,6,0),(18,6,0),(16,6,0),(3,3,0)] [(0,[0,3,7])] []) true 15850413862210633727
theorem qLi:RK 244 qcb:=rO Tryz.func244 (an [3] [(3,3),(11,3),(17,3),(37,3),(42,3),(51,3),(61,3),(76,3),(85,3),(122,3),(131,3),(142,3)] [(23,3,0),(23,4,2),(23,0,0),(23,4,0),(18,3,0),(18,4,2),(18,0,0),(18,4,0),(16,7,0),(12,17,1),(12,4,9),(12,14,0),(2,3,0)] [(0,[])] []) true 393151
theorem qO3:RK 245 qbk:=rO Tryz.func245 (an [3] [(3,3),(14,3),(20,3),(24,3),(28,3),(36,3),(40,3),(44,3),(51,3),(56,3),(73,3)] [(15,6,1),(10,10,1),(6,8,0)] [(0,[7])] []) false 528220159
theorem qNX:RK 246 j0:=rO Tryz.func246 (an [] [] [(3,3,0),(3,2,0),(3,2,6)] [] []) true 29
theorem qNW:RK 248 qaE:=rO Tryz.func248 (an [2,3,7] [(2,2),(3,3),(10,3),(11,3),(55,3),(7,7),(46,7),(47,7)] [(18,9,1),(16,3,1),(12,2,0),(10,2,0),(8,2,0),(6,2,0),(5,3,0),(4,2,0),(1,3,1)] [(2,[0,2,3,4,5,6]),(1,[0,2,3]),(0,[2])] [(0,[0,2,3])]) true 15429055
theorem qOV:RK 251 qfA:=rO Tryz.func251 (an [2] [(2,2)] [] [] []) true 3
theorem qKG:RK 252 qaf:=rO Tryz.func252 (an [4,5] [(4,4),(5,5)] [] [] []) true 111
theorem qO0:RK 253 qat:=rO Tryz.func253 (an [6,7] [(6,6),(7,7),(21,7),(27,7),(36,7),(43,7),(51,7),(57,7),(66,7),(73,7),(81,7),(87,7),(96,7),(110,7),(116,7),(125,7),(132,7),(140,7),(146,7),(155,7),(162,7)] [(1,0,0),(1,2,0)] [(1,[1,2,6,7,9]),(0,[1,2,6,7]),(3,[1,2,6,7,10]),(2,[1,2,6,7]),(5,[1,2,6,7,11]),(4,[2,6,7]),(7,[2,6,7,12]),(6,[2,6,7]),(9,[2,6,7,13]),(8,[6])] [(0,[1,2,6,7,9]),(2,[1,2,6,7,10]),(4,[1,2,6,7,11]),(6,[2,6,7,12]),(8,[2,6,7,13])]) true 7226452911
theorem qKv:RK 257 qaP:=rO Tryz.func257 (an [2,5] [(2,2),(5,5),(12,5),(29,5),(33,5)] [(6,8,1),(6,0,0),(6,3,0),(5,2,0),(2,4,1),(1,2,0)] [] []) false 503
theorem qN1:RK 259 yQ:=rO Tryz.func259 (an [2,3] [(2,2),(3,3),(7,3),(8,3)] [(2,0,0),(2,5,0),(1,3,1)] [] []) true 15
theorem qO6:RK 264 yP:=rO Tryz.func264 (an [4,5,7] [(4,4),(5,5),(15,5),(79,5),(80,5),(86,5),(87,5),(93,5),(94,5),(72,5),(73,5),(7,7),(41,7),(45,7),(46,7),(54,7),(55,7),(60,7),(61,7)] [(21,0,0),(21,1,0),(14,5,1),(13,13,0),(12,3,1),(20,6,1),(18,6,1),(16,6,1),(4,0,0),(4,1,0)] [(0,[0,4,5])] []) true 3636719
theorem qM8:RK 265 qkA:=rO Tryz.func265 (an [2,5] [(2,2),(9,2),(5,5)] [] [(1,[1,10,11,12]),(0,[])] [(0,[1,10,11,12])]) false 79
theorem qKX:RK 266 zy:=rO Tryz.func266 (an [] [] [(5,5,7),(5,8,7)] [] []) true 1527
theorem qPp:RK 273 qfp:=rO Tryz.func273 (an [3,4] [(3,3),(5,3),(9,3),(17,3),(50,3),(60,3),(71,3),(86,3),(104,3),(4,4),(33,4)] [(25,0,0),(25,5,0),(23,0,0),(23,2,0),(20,0,0),(20,2,0),(14,0,0),(14,2,0),(11,0,0),(11,1,0),(8,0,0),(8,2,0)] [(0,[])] []) false 15799
theorem qO5:RK 283 qqY:=rO Tryz.func283 (an [3] [(3,3),(16,3)] [(5,4,1)] [] []) false 11
theorem qPE:RK 284 qd1:=rO Tryz.func284 (an [2,4] [(2,2),(4,4),(61,4),(62,4)] [(4,2,1),(12,2,1),(11,2,0),(10,2,1),(9,10,0),(8,2,1),(7,10,0)] [(0,[0,2,3,4])] []) true 491519
theorem qLJ:RK 285 qdT:=rO Tryz.func285 (an [] [] [(1,0,0),(1,1,0),(0,1,0),(0,2,1)] [] []) false 7
theorem qPa:RK 286 qeT:=rO Tryz.func286 (an [2] [(2,2)] [] [] []) true 3
theorem qOT:RK 287 qc4:=rO Tryz.func287 (an [3] [(3,3),(6,3),(18,3)] [(1,3,1)] [] []) true 239
theorem qOX:RK 288 qd7:=rO Tryz.func288 (an [] [] [(1,2,0),(1,3,2),(1,1,0),(1,3,1),(1,0,0),(1,3,0)] [] []) false 5
theorem qMi:RK 289 qh5:=rO Tryz.func289 (an [] [] [(1,3,0),(1,1,0),(1,2,1)] [] []) true 3
theorem qLO:RK 290 qfD:=rO Tryz.func290 (an [] [] [(1,3,0),(1,1,0),(1,2,1)] [] []) true 127
theorem qOA:RK 291 qbp:=rO Tryz.func291 (an [] [] [(5,12,1),(5,5,9),(5,8,0),(4,7,0),(4,8,2),(1,2,0)] [] []) false 31
theorem qKp:RK 292 qcH:=rO Tryz.func292 (an [] [] [] [(1,[0]),(0,[0]),(3,[0]),(2,[0]),(5,[0]),(4,[])] [(0,[0]),(2,[0]),(4,[0])]) false 43963
theorem qKt:RK 293 qd6:=rO Tryz.func293 (an [] [] [(3,5,0),(3,0,0),(3,4,0)] [(1,[0,3]),(0,[2])] [(0,[0,3])]) true 479
theorem qO1:RK 294 qfq:=rO Tryz.func294 (an [] [] [(2,5,0),(2,6,2),(2,1,0),(2,2,0)] [] []) false 3
theorem qLC:RK 295 qdV:=rO Tryz.func295 (an [] [] [(0,4,0),(0,5,2),(0,1,0),(0,2,0)] [] []) false 0
theorem qNf:RK 296 jz:=rO Tryz.func296 (an [] [] [(3,3,0),(3,2,0),(3,2,6)] [] []) true 55
theorem qLT:RK 297 qbr:=rO Tryz.func297 (an [7] [(7,7)] [(5,6,0),(5,0,0),(5,5,0)] [(1,[1,5,8,9,10]),(0,[5])] [(0,[1,5,8,9,10])]) true 415
theorem qMK:RK 299 qdf:=rO Tryz.func299 (an [7] [(7,7)] [(5,6,0),(5,0,0),(5,5,0)] [(1,[1,5,8,9,10]),(0,[5])] [(0,[1,5,8,9,10])]) true 415
theorem qLc:RK 301 qcQ:=rO Tryz.func301 (an [7] [(7,7)] [(5,6,0),(5,0,0),(5,5,0)] [(1,[1,5,8,9,10]),(0,[5])] [(0,[1,5,8,9,10])]) true 415
theorem qKF:RK 303 qb2:=rO Tryz.func303 (an [7] [(7,7)] [(5,6,0),(5,0,0),(5,5,0)] [(1,[1,5,8,9,10]),(0,[5])] [(0,[1,5,8,9,10])]) true 415
theorem qMS:RK 305 qiV:=rO Tryz.func305 (an [] [] [(1,2,0),(1,0,0),(1,1,0)] [] []) true 3
theorem qLn:RK 306 qlX:=rO Tryz.func306 (an [] [] [(4,2,0)] [] []) false 3575
theorem qMl:RK 307 qrt:=rO Tryz.func307 (an [] [] [(1,12,0)] [] []) true 3
theorem qPD:RK 308 qw3:=rO Tryz.func308 (an [] [] [] [(1,[3,4,7,8,9]),(0,[3,4])] [(0,[3,4,7,8,9])]) true 4095
theorem qK5:RK 309 qp9:=rO Tryz.func309 (an [0] [(0,0)] [] [] []) true 3
theorem qOH:RK 310 qvp:=rO Tryz.func310 (an [] [] [] [] []) true 1
theorem qMn:RK 311 qkl:=rO Tryz.func311 (an [] [] [(0,2,1)] [] []) false 3
theorem qNT:RK 312 qcW:=rO Tryz.func312 (an [2,3,4] [(2,2),(3,3),(12,3),(18,3),(24,3),(35,3),(39,3),(54,3),(59,3),(63,3),(68,3),(74,3),(78,3),(4,4),(53,4)] [(22,3,1),(22,0,0),(22,1,0),(20,7,1),(20,1,9),(20,5,0),(17,3,1),(15,6,1),(15,1,9),(15,4,0),(14,3,1),(10,3,1),(8,12,1),(8,1,9),(8,10,0),(4,7,1),(4,1,9),(4,5,0)] [(1,[0,2,3,9,10]),(0,[0,2,3]),(3,[0,2,3,21,22]),(2,[0,2,3]),(5,[0,2,3,41,42]),(4,[0,2,3]),(7,[0,2,3,65,66]),(6,[0,2,3])] [(0,[0,2,3,9,10]),(2,[0,2,3,21,22]),(4,[0,2,3,41,42]),(6,[0,2,3,65,66])]) true 1944571903
theorem qOo:RK 313 qge:=rO Tryz.func313 (an [] [] [(0,0,0),(0,1,0)] [] []) false 0
theorem qOm:RK 314 yy:=rO Tryz.func314 (an [] [] [(1,1,0),(1,2,1),(1,0,0),(1,2,0)] [] []) true 3
theorem qMq:RK 315 qsP:=rO Tryz.func315 (an [] [] [] [] []) true 3
theorem qMX:RK 316 qsS:=rO Tryz.func316 (an [] [] [] [] []) true 3
theorem qLX:RK 317 qhY:=rO Tryz.func317 (an [] [] [(1,3,0)] [] []) true 3
theorem qNl:RK 318 qsL:=rO Tryz.func318 (an [5] [(5,5),(16,5)] [(9,1,0),(9,2,0)] [(3,[3,8,9,10,17,18,19]),(2,[3,8,9,10]),(1,[3,8,9,10]),(0,[3])] [(0,[3,8,9,10]),(2,[3,8,9,10,17,18,19])]) true 106495
theorem qKJ:RK 319 qiL:=rO Tryz.func319 (an [4] [(4,4),(15,4),(21,4),(28,4),(35,4),(40,4)] [] [(1,[9,10,11]),(0,[])] [(0,[9,10,11])]) true 114679
theorem qNO:RK 320 zw:=rO Tryz.func320 (an [] [] [(1,1,0),(1,2,1),(1,0,0),(1,2,0)] [] []) true 3
theorem qOp:RK 321 ql2:=rO Tryz.func321 (an [] [] [(1,0,0),(1,1,0)] [] []) true 3
theorem qMB:RK 322 kz:=rO Tryz.func322 (an [] [] [(1,1,0),(1,2,1),(1,0,0),(1,2,0)] [] []) true 3
theorem qNM:RK 324 qmT:=rO Tryz.func324 (an [1] [(1,1)] [] [] []) true 3
theorem qOf:RK 325 zh:=rO Tryz.func325 (an [] [] [(1,1,0),(1,2,1),(1,0,0),(1,2,0)] [] []) true 3
theorem qOO:RK 327 kS:=rO Tryz.func327 (an [] [] [(1,1,0),(1,2,1),(1,0,0),(1,2,0)] [] []) true 3
theorem qKg:RK 330 ql0:=rO Tryz.func330 (an [] [] [(0,0,0),(0,1,0)] [] []) false 0
theorem qNN:RK 331 qku:=rO Tryz.func331 (an [] [] [] [] []) true 7
theorem qKi:RK 332 qav:=rO Tryz.func332 (an [] [] [(0,2,0)] [] []) false 1
theorem qMF:RK 333 qf6:=rO Tryz.func333 {an [10,12] [(10,10),(61,10),(69,10),(72,10),(12,12),(79,12),(87,12)] [] [(1,[2,3,4,5,6,26,27,28]),(0,[2,3,4,5,6]),(3,[2,3,4,5,6]),(2,[2,3,4,5,6]),(5,[6]),(4,[6])] [(0,[2,3,4,5,6,26,27,28])] with rl:=[(2,[2,3,4,5,6]),(4,[2,3,4,6])],rk:=[(2,544),(4,545)]} true 29
theorem qMs:RK 337 qbV:=rO Tryz.func337 (an [3,5,7,8] [(3,3),(10,3),(13,3),(22,3),(33,3),(44,3),(93,3),(94,3),(100,3),(109,3),(114,3),(119,3),(138,3),(143,3),(51,3),(53,3),(60,3),(5,5),(7,7),(8,8)] [(26,0,0),(26,2,0),(24,0,0),(24,2,0),(19,0,0),(19,2,0),(17,0,0),(17,2,0),(2,4,0)] [(1,[0,23,24,25]),(0,[]),(3,[0,3,34,35,36]),(2,[0,3]),(4,[])] [(0,[0,23,24,25]),(2,[0,3,34,35,36])]) false 15607
theorem qLH:RK 338 qkp:=rO Tryz.func338 (an [] [] [(0,0,0),(0,1,0)] [] []) false 0
theorem qPj:RK 341 qnb:=rO Tryz.func341 (an [2,3] [(2,2),(3,3)] [(1,5,0)] [] []) true 3
theorem qLP:RK 343 qbK:=rO Tryz.func343 (an [3,4,6] [(3,3),(7,3),(17,3),(23,3),(28,3),(38,3),(49,3),(54,3),(65,3),(98,3),(101,3),(106,3),(109,3),(116,3),(128,3),(131,3),(4,4),(69,4),(73,4),(74,4),(79,4),(6,6)] [(2,0,0),(2,2,0),(30,0,0),(30,2,0),(28,0,0),(28,2,0),(26,0,0),(26,2,0),(22,0,0),(22,2,0),(19,0,0),(19,2,0),(17,0,0),(17,2,0),(7,5,0)] [(2,[0,4,80,81,82]),(1,[0,4]),(0,[])] [(1,[0,4,80,81,82])]) false 5991863
theorem qOk:RK 346 qrr:=rO Tryz.func346 (an [] [] [(1,5,0)] [] []) true 3
theorem qJ6:RK 347 qoE:=rO Tryz.func347 (an [] [] [] [] []) true 3
theorem qJR:RK 348 qsB:=rO Tryz.func348 (an [] [] [(1,1,0),(1,2,0)] [] []) true 3
theorem qL7:RK 351 qdb:=rO Tryz.func351 (an [5] [(5,5),(26,5)] [(5,2,0),(5,3,2),(5,1,0),(5,3,1),(5,0,0),(5,3,0),(1,3,0)] [] []) true 2047
theorem qK8:RK 353 qs2:=rO Tryz.func353 (an [] [] [] [] []) false 1783
theorem qMj:RK 354 qsH:=rO Tryz.func354 (an [] [] [] [] []) false 1783
theorem qK1:RK 355 qb3:=rO Tryz.func355 (an [] [] [] [] []) false 1
theorem qLk:RK 356 qbt:=rO Tryz.func356 (an [] [] [] [(0,[1,5])] []) true 58570719
theorem qNH:RK 363 qab:=rO Tryz.func363 (an [2,3,4,5] [(2,2),(3,3),(9,3),(14,3),(18,3),(23,3),(27,3),(33,3),(103,3),(4,4),(55,4),(56,4),(5,5)] [(33,0,0),(33,1,0),(32,2,1),(32,0,0),(32,1,0),(30,2,1),(30,0,0),(30,1,0),(29,2,0),(27,1,0),(27,2,0),(25,3,1),(21,2,0),(20,6,1),(20,0,0),(20,5,0),(18,3,1),(17,2,0),(16,1,1),(15,2,0),(14,1,1),(13,2,0),(11,2,0),(9,0,0),(9,1,0),(7,3,1),(6,0,0),(6,1,0),(4,3,1),(3,0,0),(3,1,0),(1,3,1)] [(0,[0,2])] []) true 123
theorem qJ2:RK 367 qaL:=rO Tryz.func367 (an [] [] [(0,1,0),(0,2,0)] [] []) false 0
theorem qKn:RK 369 qaM:=rO Tryz.func369 (an [] [] [(0,1,0),(0,2,0)] [] []) false 0
theorem qJP:RK 381 qea:=rO Tryz.func381 (an [] [] [(13,0,0),(13,1,0),(2,2,0)] [(2,[0,2,3]),(1,[0,2,3]),(0,[2,3])] [(0,[0,2,3])]) false 195455
theorem qLG:RK 382 qot:=rO Tryz.func382 (an [] [] [] [] []) true 3
theorem qME:RK 383 qd9:=rO Tryz.func383 (an [2] [(2,2)] [(5,3,0),(4,0,0),(4,1,0),(2,2,0),(2,0,0),(2,1,0)] [(0,[2,4])] []) true 4063
theorem qKZ:RK 384 qq7:=rO Tryz.func384 (an [] [] [] [] []) true 3
theorem qKu:RK 385 qcg:=rO Tryz.func385 (an [2] [(2,2)] [(12,0,0),(12,1,0),(10,2,0),(10,3,2),(10,1,0),(10,3,1),(10,0,0),(10,3,0),(7,2,0),(4,2,0),(2,2,0)] [(0,[2,3,4,5,6,7])] []) true 114111
theorem qKU:RK 386 qgf:=rO Tryz.func386 (an [] [] [(1,11,0),(1,9,0),(1,10,1)] [] []) true 3
theorem qMJ:RK 388 qd4:=rO Tryz.func388 {an [2] [(2,2)] [] [(1,[0,2,5,6,7]),(0,[0,2])] [(0,[0,2,5,6,7])] with cp:=[9]} true 244735
theorem qPG:RK 389 qb9:=rO Tryz.func389 (an [] [] [] [] []) false 0
theorem qL5:RK 390 zV:=rO Tryz.func390 (an [] [] [(1,1,0),(1,2,1),(1,0,0),(1,2,0)] [] []) true 3
theorem qOq:RK 391 qiu:=rO Tryz.func391 (an [] [] [(14,2,0),(13,2,0),(13,0,0),(13,1,0),(9,4,0)] [(1,[0,3,4,5,6]),(0,[0,3,5]),(3,[0,9,10,12]),(2,[0,9,10,12]),(7,[0,9,10,12]),(6,[0,9,10,12]),(5,[0,9,10,11,12]),(4,[0,9,10,11])] [(0,[0,3,4,5,6]),(2,[0,9,10,12]),(4,[0,9,10,11,12]),(6,[0,9,10,12])]) true 3333719171399679
theorem qNy:RK 392 qg8:=rO Tryz.func392 (an [5] [(5,5),(8,5),(12,5),(17,5)] [(1,3,1),(1,0,0),(1,1,0)] [] []) true 7
theorem qMQ:RK 393 qbJ:=rO Tryz.func393 (an [] [] [(0,4,0),(0,5,2)] [] []) false 1
theorem qMI:RK 394 qbM:=rO Tryz.func394 (an [] [] [(1,0,0),(1,1,0)] [] []) true 3
theorem qPv:RK 400 qeg:=rO Tryz.func400 (an [] [] [(1,2,0)] [] []) true 3
theorem qN9:RK 401 qed:=rO Tryz.func401 (an [2] [(2,2)] [(15,0,0),(15,1,0),(14,2,1),(14,0,0),(14,1,0),(13,2,0),(12,2,1),(12,0,0),(12,1,0),(11,2,0),(10,0,0),(10,1,0),(8,2,0),(7,2,0),(6,2,1),(6,0,0),(6,1,0),(5,2,0),(4,2,1),(4,0,0),(4,1,0),(3,2,0),(2,2,1),(2,0,0),(2,1,0),(1,2,0)] [(0,[0,2])] []) true 29
theorem qMy:RK 402 qji:=rO Tryz.func402 (an [1,2] [(1,1),(3,1),(6,1),(7,1),(10,1),(2,2)] [(2,4,1),(1,4,1)] [] []) true 15
theorem qMz:RK 403 qoq:=rO Tryz.func403 (an [1,2,3,5] [(1,1),(8,1),(2,2),(3,3),(7,3),(15,3),(21,3),(5,5)] [(6,7,1),(6,1,9),(6,5,0)] [(1,[2,3,9,10,11]),(0,[2,3])] [(0,[2,3,9,10,11])]) true 831
theorem qOi:RK 406 qch:=rO Tryz.func406 (an [7] [(7,7)] [(5,6,0),(5,0,0),(5,5,0)] [(1,[1,5,8,9,10]),(0,[5])] [(0,[1,5,8,9,10])]) true 2047
theorem qMe:RK 407 qcc:=rO Tryz.func407 (an [7] [(7,7)] [(5,6,0),(5,0,0),(5,5,0)] [(1,[1,5,8,9,10]),(0,[5])] [(0,[1,5,8,9,10])]) true 2047
theorem qPB:RK 408 qjl:=rO Tryz.func408 (an [1,2] [(1,1),(3,1),(6,1),(7,1),(10,1),(11,1),(14,1),(2,2)] [(3,4,1),(2,4,1),(1,4,1)] [] []) true 31
theorem qN4:RK 409 qiO:=rO Tryz.func409 (an [] [] [] [] []) false 0
theorem qLD:RK 410 qc2:=rO Tryz.func410 (an [3,7,9,11] [(3,3),(13,3),(17,3),(21,3),(33,3),(37,3),(58,3),(62,3),(66,3),(91,3),(95,3),(99,3),(111,3),(7,7),(45,7),(49,7),(53,7),(9,9),(74,9),(78,9),(82,9),(86,9),(11,11)] [(33,0,0),(33,3,0),(6,1,0),(6,2,1)] [(1,[0,3,22,23,24]),(0,[0,3]),(3,[0,3,38,39,40]),(2,[0,3]),(5,[0,3,67,68,69]),(4,[0,3]),(7,[0,3,100,101,102]),(6,[0,3])] [(0,[0,3,22,23,24]),(2,[0,3,38,39,40]),(4,[0,3,67,68,69]),(6,[0,3,100,101,102])]) false 10712154111
theorem qNa:RK 411 qt7:=rO Tryz.func411 (an [] [] [(5,1,0),(5,2,1)] [(1,[5,14,15,16]),(0,[5])] [(0,[5,14,15,16])]) true 2047
theorem qNS:RK 412 qw1:=rO Tryz.func412 (an [] [] [(5,10,1),(5,7,7)] [(1,[3,9,10]),(0,[3])] [(0,[3,9,10])]) true 2047
theorem qOK:RK 413 qqz:=rO Tryz.func413 (an [2] [(2,2),(15,2)] [] [] []) false 11
theorem qKz:RK 414 qe4:=rO Tryz.func414 (an [] [] [(7,7,0),(5,2,0),(1,2,0)] [] []) true 16383
theorem qMp:RK 415 qdR:=rO Tryz.func415 (an [] [] [(2,0,0),(2,3,0),(1,2,0)] [] []) true 15
theorem qOB:RK 417 qfL:=rO Tryz.func417 (an [4,5] [(4,4),(5,5),(30,5),(36,5),(42,5),(50,5)] [(12,5,1),(12,0,0),(12,3,0),(10,3,1),(8,3,1),(6,3,1),(3,2,0)] [] []) true 3632895
theorem qOw:RK 418 qgd:=rO Tryz.func418 (an [] [] [(4,10,0),(4,0,0),(4,9,0)] [(1,[0,3,5,6]),(0,[3])] [(0,[0,3,5,6])]) true 415
theorem qM3:RK 420 qe8:=rO Tryz.func420 (an [6] [(6,6),(29,6),(37,6),(43,6),(49,6)] [(14,4,0),(14,0,0),(14,3,0),(12,7,1),(12,1,9),(12,5,0),(8,9,1),(8,1,9),(8,7,0)] [(3,[0,1,5,6,8,9,26,27]),(2,[0,1,5,6,8,9]),(5,[0,1,5,6,8,9,40,41]),(4,[0,1,5,6,8,9]),(1,[0,1,5,8,9]),(0,[5])] [(0,[0,1,5,8,9]),(2,[0,1,5,6,8,9,26,27]),(4,[0,1,5,6,8,9,40,41])]) true 13582335
theorem qMa:RK 421 qsU:=rO Tryz.func421 (an [] [] [] [] []) false 5
theorem qKD:RK 422 qax:=rO Tryz.func422 (an [] [] [] [(1,[0,1,7,8]),(0,[])] [(0,[0,1,7,8])]) true 16383
theorem qK6:RK 423 zf:=rO Tryz.func423 (an [] [] [(1,1,0),(1,2,1),(1,0,0),(1,2,0)] [] []) true 3
theorem qPd:RK 425 qh4:=rO Tryz.func425 (an [2] [(2,2),(8,2),(13,2),(19,2)] [] [] []) true 3
theorem qMt:RK 426 kH:=rO Tryz.func426 (an [] [] [(1,1,0),(1,2,1),(1,0,0),(1,2,0)] [] []) true 3
theorem qLM:RK 427 qga:=rO Tryz.func427 (an [1] [(1,1)] [] [] []) true 3
theorem qMP:RK 428 kj:=rO Tryz.func428 (an [] [] [(1,1,0),(1,2,1),(1,0,0),(1,2,0)] [] []) true 3
theorem qJ1:RK 430 zQ:=rO Tryz.func430 (an [] [] [] [(1,[0,1,7,8]),(0,[])] [(0,[0,1,7,8])]) true 7167
theorem qOR:RK 431 kY:=rO Tryz.func431 (an [] [] [] [(1,[0,1,7,8]),(0,[])] [(0,[0,1,7,8])]) true 207
theorem qO2:RK 432 qq0:=rO Tryz.func432 (an [1,5] [(1,1),(6,1),(5,5)] [] [(1,[3,7,8,9]),(0,[3])] [(0,[3,7,8,9])]) true 415
theorem qMo:RK 433 qjc:=rO Tryz.func433 (an [1] [(1,1),(3,1),(8,1),(13,1),(19,1)] [] [] []) true 3
theorem qNq:RK 434 zC:=rO Tryz.func434 (an [] [] [] [(1,[0,1,7,8]),(0,[])] [(0,[0,1,7,8])]) true 207
theorem qK7:RK 435 zn:=rO Tryz.func435 (an [] [] [] [(1,[0,1,7,8]),(0,[])] [(0,[0,1,7,8])]) true 207
theorem qLY:RK 444 qoG:=rO Tryz.func444 (an [2] [(2,2)] [] [] []) true 3
theorem qLK:RK 445 qmN:=rO Tryz.func445 (an [3] [(3,3),(9,3),(16,3)] [] [] []) true 3
theorem qMd:RK 447 qb5:=rO Tryz.func447 (an [3] [(3,3),(6,3),(7,3),(9,3),(15,3),(41,3),(45,3),(52,3),(56,3),(63,3),(69,3),(75,3)] [(2,5,0)] [(2,[3,65,66]),(1,[]),(0,[])] [(1,[3,65,66])]) false 767
theorem qKK:RK 454 qkt:=rO Tryz.func454 (an [2,3] [(2,2),(5,2),(11,2),(18,2),(25,2),(32,2),(3,3),(7,3),(13,3),(20,3),(27,3),(34,3)] [] [] []) true 3
theorem qLs:RK 465 qai:=rO Tryz.func465 (an [3,5] [(3,3),(6,3),(10,3),(15,3),(21,3),(28,3),(39,3),(49,3),(5,5)] [] [(0,[0,3]),(2,[0,3,50,51,52]),(1,[0,3])] [(1,[0,3,50,51,52])]) false 261871
theorem qKA:RK 472 qt5:=rO Tryz.func472 (an [] [] [] [] []) true 3
theorem qM1:RK 474 qbX:=rO Tryz.func474 (an [3] [(3,3),(5,3)] [] [] []) true 55
theorem qNz:RK 475 qhq:=rO Tryz.func475 (an [] [] [(3,3,0),(2,2,0)] [] []) false 15
theorem qOb:RK 476 qg2:=rO Tryz.func476 (an [] [] [] [] []) false 7
theorem qM5:RK 492 qec:=rO Tryz.func492 (an [] [] [(1,3,0),(1,1,0),(1,2,1),(1,0,0),(1,2,0)] [] []) true 3
theorem qNI:RK 494 qcU:=rO Tryz.func494 (an [] [] [] [(1,[0,1,5]),(0,[0,5])] [(0,[0,1,5])]) true 255
theorem qMN:RK 495 qp0:=rO Tryz.func495 (an [] [] [(1,2,0)] [] []) true 3
theorem qL8:RK 496 qkH:=rO Tryz.func496 (an [] [] [(1,1,0)] [] []) true 3
theorem qKR:RK 497 qt6:=rO Tryz.func497 (an [] [] [(1,2,0)] [] []) true 3
theorem qNd:RK 498 qd8:=rO Tryz.func498 (an [] [] [(3,7,0),(3,4,0),(3,5,4),(3,3,0),(3,5,3),(3,2,0),(3,5,2),(3,1,0),(3,5,1)] [] []) false 111
theorem qMV:RK 499 qdW:=rO Tryz.func499 (an [] [] [(1,3,0),(1,1,0),(1,2,1),(1,0,0),(1,2,0)] [] []) true 3
theorem qPA:RK 501 jv:=rO Tryz.func501 (an [] [] [] [(1,[0,1,7,8]),(0,[])] [(0,[0,1,7,8])]) true 16383
theorem qLw:RK 504 qcX:=rO Tryz.func504 (an [] [] [] [] []) true 3
theorem qMT:RK 506 qd3:=rO Tryz.func506 {an [2,3,7] [(2,2),(3,3),(40,3),(7,7),(36,7)] [(11,7,1),(11,2,0),(11,6,2),(11,1,0),(11,6,1),(11,0,0),(11,6,0),(10,9,1),(10,8,1),(9,3,1),(4,4,1),(4,2,0),(4,3,2),(4,0,0),(4,3,0),(1,3,1)] [] [] with pm:=[(10,[0,1,2,4,5,6,3,7,8,9])],ck:=[(10,6,4),(10,6,5)]} true 3807
theorem qN3:RK 515 qau:=rO Tryz.func515 {an [2,3,6,9] [(2,2),(3,3),(23,3),(37,3),(41,3),(56,3),(68,3),(85,3),(6,6),(93,6),(103,6),(9,9)] [(20,8,0),(20,10,2),(19,6,1),(16,5,0),(15,3,1),(14,5,1),(14,1,0),(14,4,1),(14,0,0),(14,4,0),(11,5,1),(11,1,0),(11,4,1),(11,0,0),(11,4,0),(7,4,1),(7,0,0),(7,3,0),(5,2,0),(4,4,1),(4,0,0),(4,3,0),(2,2,0),(1,3,1)] [(0,[0,2,3])] [] with pm:=[(16,[0,1,11,12,2,3,4,5,6,7,8,9,10,13]),(19,[0,1,2,5,3,4,6]),(20,[0,1,2,3,4,5,6,7,9,8,10])],ck:=[(16,4,3),(16,11,3),(19,4,1)]} true 1003
theorem qMf:RK 520 qbb:=rO Tryz.func520 (an [] [] [(5,6,0),(5,2,0),(5,3,0),(5,0,0),(5,5,0)] [(1,[1,5,8,9,10]),(0,[5])] [(0,[1,5,8,9,10])]) true 415
theorem qNA:RK 521 qe7:=rO Tryz.func521 (an [] [] [(6,5,0),(6,6,1),(5,9,1),(5,4,9),(5,6,0),(2,1,0),(2,2,1),(2,0,0),(2,2,0)] [] []) false 511
theorem qLj:RK 522 qgT:=rO Tryz.func522 (an [] [] [(1,11,1),(1,4,9),(1,8,0),(1,7,63)] [] []) false 1
theorem qOD:RK 524 qgl:=rO Tryz.func524 (an [3] [(3,3),(11,3),(23,3),(34,3),(45,3),(52,3)] [(11,0,0),(11,3,0),(7,12,1),(7,4,9),(7,9,0),(2,2,0),(7,8,63)] [] []) false 749311
theorem qMH:RK 525 qfm:=rO Tryz.func525 (an [5] [(5,5),(17,5),(21,5),(25,5)] [] [(1,[0,10,11,12]),(0,[])] [(0,[0,10,11,12])]) false 39
theorem qJ4:RK 527 qf5:=rO Tryz.func527 (an [5] [(5,5),(26,5),(30,5),(34,5),(38,5),(50,5),(54,5)] [(16,11,1),(16,4,9),(16,8,0),(10,1,0),(10,2,1),(16,7,63)] [(3,[0,5,14,15,16,39,40,41]),(2,[0,5,14,15,16]),(5,[0,14,15,16,55,56,57]),(4,[0,14,15,16]),(1,[0,14,15,16]),(0,[])] [(0,[0,14,15,16]),(2,[0,5,14,15,16,39,40,41]),(4,[0,14,15,16,55,56,57])]) false 10387455
theorem qKk:RK 528 qkE:=rO Tryz.func528 (an [] [] [(7,10,1),(7,4,9),(7,7,0)] [] []) false 16111
theorem qLF:RK 529 qgN:=rO Tryz.func529 (an [] [] [(4,2,0)] [] []) true 31
theorem qO8:RK 530 qkB:=rO Tryz.func530 (an [] [] [] [] []) false 127
theorem qPn:RK 531 qks:=rO Tryz.func531 (an [] [] [] [] []) true 3
theorem qKV:RK 532 qeR:=rO Tryz.func532 (an [] [] [(6,2,0),(6,0,0),(6,1,0),(2,0,0),(2,2,0),(1,2,0)] [] []) true 123
theorem qNY:RK 533 qg3:=rO Tryz.func533 (an [4,5] [(4,4),(5,5),(21,5),(29,5)] [(5,9,1),(5,1,9),(5,7,0)] [(1,[0,1,4,5,18,19]),(0,[4,5])] [(0,[0,1,4,5,18,19])]) true 831
theorem qOE:RK 534 qb7:=rO Tryz.func534 (an [] [] [(4,2,0)] [] []) true 31
theorem qM2:RK 535 qfw:=rO Tryz.func535 (an [] [] [(4,6,0),(4,0,0),(4,5,0)] [(1,[0,1,5,7,8]),(0,[5])] [(0,[0,1,5,7,8])]) true 1023
theorem qMY:RK 536 zA:=rO Tryz.func536 (an [] [] [] [(1,[0,1,7,8]),(0,[])] [(0,[0,1,7,8])]) true 207
theorem qJY:RK 537 kR:=rO Tryz.func537 (an [] [] [(1,1,0),(1,2,1),(1,0,0),(1,2,0)] [] []) true 3
theorem qNL:RK 539 zm:=rO Tryz.func539 (an [] [] [] [(1,[0,1,7,8]),(0,[])] [(0,[0,1,7,8])]) true 7167
theorem qOj:RK 540 kB:=rO Tryz.func540 (an [] [] [] [(1,[0,1,7,8]),(0,[])] [(0,[0,1,7,8])]) true 207
theorem qKO:RK 554 qkC:=rO Tryz.func554 (an [2,3] [(2,2),(5,2),(11,2),(18,2),(25,2),(3,3),(7,3),(13,3),(20,3),(27,3)] [] [] []) true 3
theorem qLb:RK 555 qD:=rO Tryz.func555 (an [8,9] [(8,8),(9,9)] [] [(1,[1,2,15,16,17]),(0,[])] [(0,[1,2,15,16,17])]) true 3319
theorem qMW:RK 556 qC:=rO Tryz.func556 (an [8,9] [(8,8),(9,9)] [] [(1,[1,2,15,16,17]),(0,[])] [(0,[1,2,15,16,17])]) true 3319
theorem qPz:RK 557 qhf:=rO Tryz.func557 (an [3] [(3,3),(9,3),(12,3),(17,3),(24,3),(33,3),(41,3),(46,3),(55,3),(62,3),(78,3)] [(4,14,0)] [(1,[3,71,72,73]),(0,[])] [(0,[3,71,72,73])]) true 3669751
theorem qPy:RK 576 jd:=rO Tryz.func576 (an [] [] [(1,1,0),(1,2,1),(1,0,0),(1,2,0)] [] []) true 3
theorem qOs:RK 577 yu:=rO Tryz.func577 (an [] [] [(45,0,0),(45,1,0)] [(1,[0,1,2,8,9]),(0,[0,1,2,8,9]),(2,[0,1,2,8,9,10]),(5,[1,8,9,10,11,12,13,16,99,100,101]),(4,[1,8,9,10,11,12,13,99,100,101]),(3,[9,12,13])] [(3,[1,8,9,10,11,12,13,99,100,101])]) false 3998593661846608887
theorem qMw:RK 579 jb:=rO Tryz.func579 (an [] [] [] [] []) true 3
theorem qKT:RK 581 qce:=rO Tryz.func581 {an [2,6] [(2,2),(6,6),(39,6),(40,6)] [(18,8,1),(18,2,0),(18,7,2),(18,1,0),(18,7,1),(14,2,0),(12,2,0),(9,5,0),(9,6,2),(7,5,1),(7,1,0),(7,4,2),(5,3,1),(2,5,0),(2,4,0)] [(0,[0,2,6]),(3,[0,2,3,6,7]),(2,[0,2,6]),(1,[2])] [(1,[0,2,6])] with ck:=[(18,5,3)]} true 129358815
theorem qOl:RK 583 qbe:=rO Tryz.func583 {an [5] [(5,5),(20,5),(23,5)] [] [(1,[0,13,14,15]),(0,[])] [(0,[0,13,14,15])] with cp:=[17]} false 7167
theorem qNs:RK 589 qcM:=rO Tryz.func589 (an [5] [(5,5)] [] [] []) true 7
theorem qKc:RK 592 qdS:=rO Tryz.func592 (an [] [] [] [] []) true 3
theorem qNv:RK 594 qb8:=rO Tryz.func594 {an [4,5] [(4,4),(5,5),(14,5),(17,5),(20,5),(23,5),(24,5),(33,5),(34,5),(38,5),(43,5),(46,5)] [(16,6,0),(16,8,2),(15,9,1),(13,3,1)] [(0,[0,1,4,5])] [] with fz:=[(13,2,32)],pm:=[(15,[0,1,3,4,5,6,2,7,8,9]),(16,[0,1,2,3,4,5,7,6,8])],ck:=[(15,6,1),(15,6,3),(15,6,5),(15,7,1)]} true 252863
theorem qND:RK 602 qje:=rO Tryz.func602 (an [] [] [] [] []) false 7
theorem qK3:RK 603 qeV:=rO Tryz.func603 (an [] [] [(4,1,0),(4,2,1),(4,0,0),(4,2,0),(2,1,0),(2,2,1),(2,0,0),(2,2,0),(0,0,0),(0,2,0)] [] []) false 30
theorem qL9:RK 604 qsX:=rO Tryz.func604 (an [1] [(1,1),(4,1),(5,1),(9,1),(10,1),(15,1),(16,1),(21,1),(22,1),(29,1),(34,1),(39,1)] [] [] []) true 454111
theorem qMb:RK 605 qg0:=rO Tryz.func605 (an [3,5] [(3,3),(7,3),(11,3),(15,3),(19,3),(23,3),(5,5)] [] [(1,[0,24,25,26]),(0,[])] [(0,[0,24,25,26])]) false 639
theorem qOv:RK 606 qkr:=rO Tryz.func606 (an [] [] [(1,9,0),(1,0,0),(1,8,0)] [] []) true 3
theorem qNn:RK 607 qfo:=rO Tryz.func607 (an [5] [(5,5)] [] [(1,[0,10,11,12]),(0,[])] [(0,[0,10,11,12])]) false 255
theorem qMx:RK 608 qoR:=rO Tryz.func608 (an [] [] [] [] []) false 503
theorem qN2:RK 609 qiI:=rO Tryz.func609 (an [] [] [(1,0,0),(1,1,0)] [] []) false 7
theorem qL4:RK 610 zo:=rO Tryz.func610 (an [] [] [] [(1,[0,1,7,8]),(0,[])] [(0,[0,1,7,8])]) true 207
theorem qMm:RK 615 qoJ:=rO Tryz.func615 (an [] [] [(17,1,0),(15,1,0),(13,1,0),(11,1,0),(9,1,0),(7,1,0),(4,1,0)] [(0,[])] []) false 129423197
theorem qPr:RK 632 qd2:=rO Tryz.func632 {an [2,3] [(2,2),(3,3),(33,3),(34,3)] [(15,8,1),(15,2,0),(15,7,2),(15,1,0),(15,7,1),(10,2,0),(8,2,0),(6,2,0),(4,2,0),(1,3,1)] [(2,[0,2,3,4,5,6]),(1,[0,2,3]),(0,[2])] [(0,[0,2,3])] with ck:=[(15,5,3)]} true 1011119
theorem qNi:RK 636 qsJ:=rO Tryz.func636 (an [4] [(4,4)] [(1,3,1),(1,1,0),(1,2,1),(1,0,0),(1,2,0)] [] []) true 3
theorem qK2:RK 637 qcd:=rO Tryz.func637 (an [5] [(5,5),(28,5),(32,5)] [] [] []) true 119
theorem qKr:RK 638 qdX:=rO Tryz.func638 (an [] [] [(7,0,0),(7,1,0),(6,5,0),(6,0,0),(4,5,0),(4,0,0),(4,4,7),(6,4,7)] [(1,[0,3]),(0,[0,3])] [(0,[0,3])]) true 13695
theorem qJ9:RK 646 qkm:=rO Tryz.func646 (an [] [] [(4,0,0),(4,2,0),(1,6,0),(1,4,0),(1,5,1)] [] []) false 239
theorem qNw:RK 654 qb4:=rO Tryz.func654 {an [2,3] [(2,2),(3,3),(7,3),(17,3),(21,3),(31,3),(35,3),(46,3),(50,3),(72,3),(79,3),(89,3)] [(25,0,0),(25,1,0),(24,4,1),(24,0,0),(24,3,0),(23,2,0),(22,7,1),(22,4,0),(21,2,0),(20,4,1),(20,0,0),(20,3,0),(19,2,0),(18,1,1),(17,2,0),(16,1,1),(15,2,0),(13,2,0),(12,2,1),(12,0,0),(12,1,0),(7,3,1),(4,3,1),(1,3,1)] [(0,[0,2])] [] with pm:=[(10,[1,2,0,3,4])],ck:=[(10,2,1),(22,4,2)]} true 123
theorem qPt:RK 656 quv:=rO Tryz.func656 (an [4] [(4,4)] [(1,0,0),(1,1,0)] [] []) true 3
theorem tabR:RowsOk Tryz.prog maps W.qF9:=
 .cons qSH <| .cons qSp <| .cons qSF <| .cons qSn <| .cons qSm <| .cons qQ5 <| .cons qQg <| .cons qR2 <| .cons qRS <| .cons qRC <| .cons qRR <| .cons qQe <| .cons qPV <| .cons qQr <| .cons qRH <| .cons qRU <| .cons qRm <| .cons qQd <| .cons qQ4 <| .cons qP3 <| .cons qRZ <| .cons qPX <| .cons qQJ <| .cons qRk <| .cons qQ6 <| .cons qQa <| .cons qRz <| .cons qRP <| .cons qRe <| .cons qPI <| .cons qRs <| .cons qQh <| .cons qPW <| .cons qRQ <| .cons qQ0 <| .cons qQW <| .cons qPN <| .cons qRq <| .cons qRK <| .cons qQR <| .cons qP8 <| .cons qQx <| .cons qQb <| .cons qQt <| .cons qRT <| .cons qP4 <| .cons qPU <| .cons qP2 <| .cons qQ7 <| .cons qR5 <| .cons qQ9 <| .cons qRi <| .cons qQU <| .cons qQS <| .cons qR0 <| .cons qRA <| .cons qP9 <| .cons qQH <| .cons qQn <| .cons qRg <| .cons qRr <| .cons qPO <| .cons qQA <| .cons qR4 <| .cons qRJ <| .cons qRh <| .cons qPJ <| .cons qRF <| .cons qRX <| .cons qPY <| .cons qQw <| .cons qQO <| .cons qRG <| .cons qR8 <| .cons qRL <| .cons qRE <| .cons qQQ <| .cons qP7 <| .cons qQp <| .cons qNb <| .cons qJ7 <| .cons qMu <| .cons qLq <| .cons qNe <| .cons qPi <| .cons qJS <| .cons qPm <| .cons qNZ <| .cons qOu <| .cons qOc <| .cons qKL <| .cons qJN <| .cons qLv <| .cons qN0 <| .cons qOa <| .cons qKq <| .cons qOS <| .cons qOe <| .cons qLR <| .cons qOU <| .cons qNj <| .cons qOy <| .cons qOC <| .cons qKY <| .cons qLt <| .cons qLE <| .cons qNx <| .cons qJ8 <| .cons qKs <| .cons qKM <| .cons qOP <| .cons qPC <| .cons qMg <| .cons qOF <| .cons qKj <| .cons qLA <| .cons qN8 <| .cons qKW <| .cons qOY <| .cons qLQ <| .cons qPe <| .cons qO7 <| .cons qLB <| .cons qKm <| .cons qPh <| .cons qMD <| .cons qOz <| .cons qPw <| .cons qKB <| .cons qLe <| .cons qKa <| .cons qNG <| .cons qLz <| .cons qMU <| .cons qMk <| .cons qMh <| .cons qJU <| .cons qOW <| .cons qJX <| .cons qPc <| .cons qLL <| .cons qNB <| .cons qL1 <| .cons qNU <| .cons qJQ <| .cons qMO <| .cons qOn <| .cons qO9 <| .cons qOI <| .cons qNR <| .cons qNp <| .cons qMr <| .cons qLr <| .cons qM7 <| .cons qLZ <| .cons qNQ <| .cons qOr <| .cons qNK <| .cons qPg <| .cons qKS <| .cons qL2 <| .cons qKw <| .cons qPk <| .cons qLV <| .cons qOx <| .cons qK0 <| .cons qKe <| .cons qPx <| .cons qNF <| .cons qKl <| .cons qL0 <| .cons qLx <| .cons qJM <| .cons qNg <| .cons qNh <| .cons qNV <| .cons qJZ <| .cons qM0 <| .cons qPo <| .cons qLi <| .cons qO3 <| .cons qNX <| .cons qNW <| .cons qOV <| .cons qKG <| .cons qO0 <| .cons qKv <| .cons qN1 <| .cons qO6 <| .cons qM8 <| .cons qKX <| .cons qPp <| .cons qO5 <| .cons qPE <| .cons qLJ <| .cons qPa <| .cons qOT <| .cons qOX <| .cons qMi <| .cons qLO <| .cons qOA <| .cons qKp <| .cons qKt <| .cons qO1 <| .cons qLC <| .cons qNf <| .cons qLT <| .cons qMK <| .cons qLc <| .cons qKF <| .cons qMS <| .cons qLn <| .cons qMl <| .cons qPD <| .cons qK5 <| .cons qOH <| .cons qMn <| .cons qNT <| .cons qOo <| .cons qOm <| .cons qMq <| .cons qMX <| .cons qLX <| .cons qNl <| .cons qKJ <| .cons qNO <| .cons qOp <| .cons qMB <| .cons qNM <| .cons qOf <| .cons qOO <| .cons qKg <| .cons qNN <| .cons qKi <| .cons qMF <| .cons qMs <| .cons qLH <| .cons qPj <| .cons qLP <| .cons qOk <| .cons qJ6 <| .cons qJR <| .cons qL7 <| .cons qK8 <| .cons qMj <| .cons qK1 <| .cons qLk <| .cons qNH <| .cons qJ2 <| .cons qKn <| .cons qJP <| .cons qLG <| .cons qME <| .cons qKZ <| .cons qKu <| .cons qKU <| .cons qMJ <| .cons qPG <| .cons qL5 <| .cons qOq <| .cons qNy <| .cons qMQ <| .cons qMI <| .cons qPv <| .cons qN9 <| .cons qMy <| .cons qMz <| .cons qOi <| .cons qMe <| .cons qPB <| .cons qN4 <| .cons qLD <| .cons qNa <| .cons qNS <| .cons qOK <| .cons qKz <| .cons qMp <| .cons qOB <| .cons qOw <| .cons qM3 <| .cons qMa <| .cons qKD <| .cons qK6 <| .cons qPd <| .cons qMt <| .cons qLM <| .cons qMP <| .cons qJ1 <| .cons qOR <| .cons qO2 <| .cons qMo <| .cons qNq <| .cons qK7 <| .cons qLY <| .cons qLK <| .cons qMd <| .cons qKK <| .cons qLs <| .cons qKA <| .cons qM1 <| .cons qNz <| .cons qOb <| .cons qM5 <| .cons qNI <| .cons qMN <| .cons qL8 <| .cons qKR <| .cons qNd <| .cons qMV <| .cons qPA <| .cons qLw <| .cons qMT <| .cons qN3 <| .cons qMf <| .cons qNA <| .cons qLj <| .cons qOD <| .cons qMH <| .cons qJ4 <| .cons qKk <| .cons qLF <| .cons qO8 <| .cons qPn <| .cons qKV <| .cons qNY <| .cons qOE <| .cons qM2 <| .cons qMY <| .cons qJY <| .cons qNL <| .cons qOj <| .cons qKO <| .cons qLb <| .cons qMW <| .cons qPz <| .cons qPy <| .cons qOs <| .cons qMw <| .cons qKT <| .cons qOl <| .cons qNs <| .cons qKc <| .cons qNv <| .cons qND <| .cons qK3 <| .cons qL9 <| .cons qMb <| .cons qOv <| .cons qNn <| .cons qMx <| .cons qN2 <| .cons qL4 <| .cons qMm <| .cons qPr <| .cons qNi <| .cons qK2 <| .cons qKr <| .cons qJ9 <| .cons qNw <| .cons qPt <| .nil
theorem qC8:∀p ∈ W.qF9,kA Tryz.prog maps p.1 p.2:=tabR.all
theorem qpa:qxW Tryz.prog maps:=by
 intro f' k l hl hk
 have e:f'=k:=zz hl
 subst e
 simp only [maps,W.look,Bool.cond_eq_ite] at hk
 by_cases h197:f'=197
 ·subst h197
  simp at hk
  subst hk
  exact ⟨38,113,257,3,4,0,Tryz.f197,Tryz.func197,by decide +kernel,by kernel_rfl,by kernel_rfl,by kernel_rfl,Tryz.underlying38,by kernel_rfl,by kernel_rfl,Tryz.underlying3,Tryz.underlying4⟩
 rw [if_neg (by simpa using h197)] at hk
 by_cases h544:f'=544
 ·subst h544
  simp at hk
  subst hk
  exact ⟨37,181,479,3,4,0,Tryz.f544,Tryz.func544,by decide +kernel,by kernel_rfl,by kernel_rfl,by kernel_rfl,Tryz.underlying37,by kernel_rfl,by kernel_rfl,Tryz.underlying3,Tryz.underlying4⟩
 rw [if_neg (by simpa using h544)] at hk
 by_cases h545:f'=545
 ·subst h545
  simp at hk
  subst hk
  exact ⟨39,117,480,3,4,0,Tryz.f545,Tryz.func545,by decide +kernel,by kernel_rfl,by kernel_rfl,by kernel_rfl,Tryz.underlying39,by kernel_rfl,by kernel_rfl,Tryz.underlying3,Tryz.underlying4⟩
 rw [if_neg (by simpa using h545)] at hk
 cases hk
end Go.Proofs.YtdimnhbfkogllaaGreatDoor
