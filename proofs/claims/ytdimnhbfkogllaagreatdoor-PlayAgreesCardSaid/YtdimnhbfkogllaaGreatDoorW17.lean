/-
  PlayAgrees, part 17.
-/
import Derived.Test.YtdimnhbfkogllaaGreatDoorCards
import Derived.KernelRfl
import Derived.Test.YtdimnhbfkogllaaGreatDoorW16
set_option linter.unusedSimpArgs false
set_option linter.unusedVariables false
namespace Go.Proofs.YtdimnhbfkogllaaGreatDoor
open Go
set_option maxRecDepth 100000
theorem qSA:(List.range' 0 64).all (fun t=>decide (609<=t) || rowFine Tryz.prog t)=true:=by kernel_rfl
theorem qSu:(List.range' 64 64).all (fun t=>decide (609<=t) || rowFine Tryz.prog t)=true:=by kernel_rfl
theorem qS3:(List.range' 128 64).all (fun t=>decide (609<=t) || rowFine Tryz.prog t)=true:=by kernel_rfl
theorem qSr:(List.range' 192 64).all (fun t=>decide (609<=t) || rowFine Tryz.prog t)=true:=by kernel_rfl
theorem qSq:(List.range' 256 64).all (fun t=>decide (609<=t) || rowFine Tryz.prog t)=true:=by kernel_rfl
theorem qSj:(List.range' 320 64).all (fun t=>decide (609<=t) || rowFine Tryz.prog t)=true:=by kernel_rfl
theorem qSQ:(List.range' 384 64).all (fun t=>decide (609<=t) || rowFine Tryz.prog t)=true:=by kernel_rfl
theorem qSt:(List.range' 448 64).all (fun t=>decide (609<=t) || rowFine Tryz.prog t)=true:=by kernel_rfl
theorem qSv:(List.range' 512 64).all (fun t=>decide (609<=t) || rowFine Tryz.prog t)=true:=by kernel_rfl
theorem qSs:(List.range' 576 64).all (fun t=>decide (609<=t) || rowFine Tryz.prog t)=true:=by kernel_rfl
theorem jf1:laidOutB Tryz.prog=true:=qvV (n:=609) (K:=10) (by kernel_rfl) (by decide) (fun k hk=>by
 rcases (show k=0\/k=1\/k=2\/k=3\/k=4\/k=5\/k=6\/k=7\/k=8\/k=9 by omega) with rfl|rfl|rfl|rfl|rfl|rfl|rfl|rfl|rfl|rfl
 ·exact qSA
 ·exact qSu
 ·exact qS3
 ·exact qSr
 ·exact qSq
 ·exact qSj
 ·exact qSQ
 ·exact qSt
 ·exact qSv
 ·exact qSs) (by kernel_rfl) (by kernel_rfl)
theorem lk:Tryz.prog.looks []=true:=qE2 Tryz.func218 (by kernel_rfl)
end Go.Proofs.YtdimnhbfkogllaaGreatDoor
