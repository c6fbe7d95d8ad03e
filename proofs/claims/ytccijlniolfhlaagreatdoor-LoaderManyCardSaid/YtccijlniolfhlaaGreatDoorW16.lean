/-
  LoaderMany, part 16.
-/
import Derived.Test.YtccijlniolfhlaaGreatDoorCards
import Derived.KernelRfl
import Derived.Test.YtccijlniolfhlaaGreatDoorW15
set_option linter.unusedSimpArgs false
set_option linter.unusedVariables false
namespace Go.Proofs.YtccijlniolfhlaaGreatDoor
open Go
set_option maxRecDepth 100000
theorem qIW:(List.range' 0 64).all (fun t=>decide (556<=t) || rowFine Tryz.prog t)=true:=by kernel_rfl
theorem qIG:(List.range' 64 64).all (fun t=>decide (556<=t) || rowFine Tryz.prog t)=true:=by kernel_rfl
theorem qJf:(List.range' 128 64).all (fun t=>decide (556<=t) || rowFine Tryz.prog t)=true:=by kernel_rfl
theorem qJj:(List.range' 192 64).all (fun t=>decide (556<=t) || rowFine Tryz.prog t)=true:=by kernel_rfl
theorem qIC:(List.range' 256 64).all (fun t=>decide (556<=t) || rowFine Tryz.prog t)=true:=by kernel_rfl
theorem qIL:(List.range' 320 64).all (fun t=>decide (556<=t) || rowFine Tryz.prog t)=true:=by kernel_rfl
theorem qIT:(List.range' 384 64).all (fun t=>decide (556<=t) || rowFine Tryz.prog t)=true:=by kernel_rfl
theorem qIB:(List.range' 448 64).all (fun t=>decide (556<=t) || rowFine Tryz.prog t)=true:=by kernel_rfl
theorem qIJ:(List.range' 512 64).all (fun t=>decide (556<=t) || rowFine Tryz.prog t)=true:=by kernel_rfl
theorem jf1:laidOutB Tryz.prog=true:=qqm (n:=556) (K:=9) (by kernel_rfl) (by decide) (fun k hk=>by
 rcases (show k=0\/k=1\/k=2\/k=3\/k=4\/k=5\/k=6\/k=7\/k=8 by omega) with rfl|rfl|rfl|rfl|rfl|rfl|rfl|rfl|rfl
 ·exact qIW
 ·exact qIG
 ·exact qJf
 ·exact qJj
 ·exact qIC
 ·exact qIL
 ·exact qIT
 ·exact qIB
 ·exact qIJ) (by kernel_rfl) (by kernel_rfl)
theorem lk:Tryz.prog.looks []=true:=qzp Tryz.func41 (by kernel_rfl)
end Go.Proofs.YtccijlniolfhlaaGreatDoor
