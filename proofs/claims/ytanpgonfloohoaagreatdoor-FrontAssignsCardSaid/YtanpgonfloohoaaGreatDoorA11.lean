/-
  FrontAssigns, part 11.
-/
import Derived.Test.YtanpgonfloohoaaGreatDoorCards
import Derived.KernelRfl
import Derived.Test.YtanpgonfloohoaaGreatDoorA10
set_option linter.unusedSimpArgs false
set_option linter.unusedVariables false
namespace Go.Proofs.YtanpgonfloohoaaGreatDoor
open Go
set_option maxRecDepth 100000
theorem qOk:(List.range' 0 64).all (fun t=>decide (386<=t) || rowFine Tryz.prog t)=true:=by kernel_rfl
theorem qN2:(List.range' 64 64).all (fun t=>decide (386<=t) || rowFine Tryz.prog t)=true:=by kernel_rfl
theorem qOg:(List.range' 128 64).all (fun t=>decide (386<=t) || rowFine Tryz.prog t)=true:=by kernel_rfl
theorem qNW:(List.range' 192 64).all (fun t=>decide (386<=t) || rowFine Tryz.prog t)=true:=by kernel_rfl
theorem qOs:(List.range' 256 64).all (fun t=>decide (386<=t) || rowFine Tryz.prog t)=true:=by kernel_rfl
theorem qNX:(List.range' 320 64).all (fun t=>decide (386<=t) || rowFine Tryz.prog t)=true:=by kernel_rfl
theorem qOj:(List.range' 384 64).all (fun t=>decide (386<=t) || rowFine Tryz.prog t)=true:=by kernel_rfl
theorem jf1:laidOutB Tryz.prog=true:=qrW (n:=386) (K:=7) (by kernel_rfl) (by decide) (fun k hk=>by
 rcases (show k=0\/k=1\/k=2\/k=3\/k=4\/k=5\/k=6 by omega) with rfl|rfl|rfl|rfl|rfl|rfl|rfl
 ·exact qOk
 ·exact qN2
 ·exact qOg
 ·exact qNW
 ·exact qOs
 ·exact qNX
 ·exact qOj) (by kernel_rfl) (by kernel_rfl)
theorem lk:Tryz.prog.looks []=true:=qCp Tryz.func17 (by kernel_rfl)
end Go.Proofs.YtanpgonfloohoaaGreatDoor
