/-
  PlayEchoes, part 17.
-/
import Derived.Test.YtdimnhbfkogllaaGreatDoorCards
import Derived.KernelRfl
import Derived.Test.YtdimnhbfkogllaaGreatDoorX16
set_option linter.unusedSimpArgs false
set_option linter.unusedVariables false
namespace Go.Proofs.YtdimnhbfkogllaaGreatDoor
open Go
set_option maxRecDepth 100000
theorem qSb:(List.range' 0 64).all (fun t=>decide (609<=t) || rowFine Tryz.prog t)=true:=by kernel_rfl
theorem qRQ:(List.range' 64 64).all (fun t=>decide (609<=t) || rowFine Tryz.prog t)=true:=by kernel_rfl
theorem qSk:(List.range' 128 64).all (fun t=>decide (609<=t) || rowFine Tryz.prog t)=true:=by kernel_rfl
theorem qR0:(List.range' 192 64).all (fun t=>decide (609<=t) || rowFine Tryz.prog t)=true:=by kernel_rfl
theorem qSz:(List.range' 256 64).all (fun t=>decide (609<=t) || rowFine Tryz.prog t)=true:=by kernel_rfl
theorem qSo:(List.range' 320 64).all (fun t=>decide (609<=t) || rowFine Tryz.prog t)=true:=by kernel_rfl
theorem qSi:(List.range' 384 64).all (fun t=>decide (609<=t) || rowFine Tryz.prog t)=true:=by kernel_rfl
theorem qSw:(List.range' 448 64).all (fun t=>decide (609<=t) || rowFine Tryz.prog t)=true:=by kernel_rfl
theorem qSE:(List.range' 512 64).all (fun t=>decide (609<=t) || rowFine Tryz.prog t)=true:=by kernel_rfl
theorem qSh:(List.range' 576 64).all (fun t=>decide (609<=t) || rowFine Tryz.prog t)=true:=by kernel_rfl
theorem jf1:laidOutB Tryz.prog=true:=qwa (n:=609) (K:=10) (by kernel_rfl) (by decide) (fun k hk=>by
 rcases (show k=0\/k=1\/k=2\/k=3\/k=4\/k=5\/k=6\/k=7\/k=8\/k=9 by omega) with rfl|rfl|rfl|rfl|rfl|rfl|rfl|rfl|rfl|rfl
 ·exact qSb
 ·exact qRQ
 ·exact qSk
 ·exact qR0
 ·exact qSz
 ·exact qSo
 ·exact qSi
 ·exact qSw
 ·exact qSE
 ·exact qSh) (by kernel_rfl) (by kernel_rfl)
theorem lk:Tryz.prog.looks []=true:=qG2 Tryz.func218 (by kernel_rfl)
end Go.Proofs.YtdimnhbfkogllaaGreatDoor
