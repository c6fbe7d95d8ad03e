/-
  FrontAssigns, part 24.
-/
import Derived.KernelRfl
import Derived.Test.YtanpgonfloohoaaGreatDoorA23
set_option linter.unusedSimpArgs false
set_option linter.unusedVariables false
open Bool renaming cond_eq_ite->qOx,and_eq_true->qOy,false_eq_true->qOF
open Nat renaming eq_of_beq_eq_true->qOz,le_refl->qOB,beq->qOC,le_of_ble_eq_true->qOH
open Option renaming bind_eq_some_iff->qOA,bind_eq_bind->qOD,pure_def->qOE,map_some->qOG
namespace W
set_option maxRecDepth 100000
theorem qMA:kv 5 58 qt1 qt5 2 7
 | [c0,c1,c2,c3,c4,c5,c6],_=>by kernel_rfl
 | [],h | [_],h | [_,_],h | [_,_,_],h | [_,_,_,_],h | [_,_,_,_,_],h | [_,_,_,_,_,_],h=>by simp at h
 | _::_::_::_::_::_::_::_::_,h=>by simp at h
theorem qMP:kv 5 58 qt1 qt5 2 8
 | [c0,c1,c2,c3,c4,c5,c6,c7],_=>by kernel_rfl
 | [],h | [_],h | [_,_],h | [_,_,_],h | [_,_,_,_],h | [_,_,_,_,_],h | [_,_,_,_,_,_],h | [_,_,_,_,_,_,_],h=>by simp at h
 | _::_::_::_::_::_::_::_::_::_,h=>by simp at h
theorem qNM:kv 5 58 qt1 qt5 2 9
 | [c0,c1,c2,c3,c4,c5,c6,c7,c8],_=>by kernel_rfl
 | [],h | [_],h | [_,_],h | [_,_,_],h | [_,_,_,_],h | [_,_,_,_,_],h | [_,_,_,_,_,_],h | [_,_,_,_,_,_,_],h | [_,_,_,_,_,_,_,_],h=>by simp at h
 | _::_::_::_::_::_::_::_::_::_::_,h=>by simp at h
theorem qLl:kv 5 58 qt1 qt5 2 10
 | [c0,c1,c2,c3,c4,c5,c6,c7,c8,c9],_=>by kernel_rfl
 | [],h | [_],h | [_,_],h | [_,_,_],h | [_,_,_,_],h | [_,_,_,_,_],h | [_,_,_,_,_,_],h | [_,_,_,_,_,_,_],h | [_,_,_,_,_,_,_,_],h | [_,_,_,_,_,_,_,_,_],h=>by simp at h
 | _::_::_::_::_::_::_::_::_::_::_::_,h=>by simp at h
theorem qJf:kv 5 58 qt1 qt5 2 11
 | [c0,c1,c2,c3,c4,c5,c6,c7,c8,c9,c10],_=>by kernel_rfl
 | [],h | [_],h | [_,_],h | [_,_,_],h | [_,_,_,_],h | [_,_,_,_,_],h | [_,_,_,_,_,_],h | [_,_,_,_,_,_,_],h | [_,_,_,_,_,_,_,_],h | [_,_,_,_,_,_,_,_,_],h | [_,_,_,_,_,_,_,_,_,_],h=>by simp at h
 | _::_::_::_::_::_::_::_::_::_::_::_::_,h=>by simp at h
theorem qK2:kv 5 58 qt1 qt5 2 12
 | [c0,c1,c2,c3,c4,c5,c6,c7,c8,c9,c10,c11],_=>by kernel_rfl
 | [],h | [_],h | [_,_],h | [_,_,_],h | [_,_,_,_],h | [_,_,_,_,_],h | [_,_,_,_,_,_],h | [_,_,_,_,_,_,_],h | [_,_,_,_,_,_,_,_],h | [_,_,_,_,_,_,_,_,_],h | [_,_,_,_,_,_,_,_,_,_],h | [_,_,_,_,_,_,_,_,_,_,_],h=>by simp at h
 | _::_::_::_::_::_::_::_::_::_::_::_::_::_,h=>by simp at h
theorem qH2:kv 5 58 qt1 qt5 2 13
 | [c0,c1,c2,c3,c4,c5,c6,c7,c8,c9,c10,c11,c12],_=>by kernel_rfl
 | [],h | [_],h | [_,_],h | [_,_,_],h | [_,_,_,_],h | [_,_,_,_,_],h | [_,_,_,_,_,_],h | [_,_,_,_,_,_,_],h | [_,_,_,_,_,_,_,_],h | [_,_,_,_,_,_,_,_,_],h | [_,_,_,_,_,_,_,_,_,_],h | [_,_,_,_,_,_,_,_,_,_,_],h | [_,_,_,_,_,_,_,_,_,_,_,_],h=>by simp at h
 | _::_::_::_::_::_::_::_::_::_::_::_::_::_::_,h=>by simp at h
theorem qKB {vs:List V} {H:List Obj} {r:Cr} (h:qlP 5 qt1 qt5 2 vs H=some r):qh pg1 58 vs H=some r:=qon (fun m h1 h2=>by
 rcases (show m=7\/m=8\/m=9\/m=10\/m=11\/m=12\/m=13 by omega) with rfl|rfl|rfl|rfl|rfl|rfl|rfl
 ·exact qMA
 ·exact qMP
 ·exact qNM
 ·exact qLl
 ·exact qJf
 ·exact qK2
 ·exact qH2) h
end W
