/-
  FrontAssigns, part 25.
-/
import Derived.KernelRfl
import Derived.Test.YtanpgonfloohoaaGreatDoorA23
set_option linter.unusedSimpArgs false
set_option linter.unusedVariables false
open Bool renaming cond_eq_ite->qOx,and_eq_true->qOy,false_eq_true->qOF
open Nat renaming eq_of_beq_eq_true->qOz,le_refl->qOB,beq->qOC,le_of_ble_eq_true->qOH
open Option renaming bind_eq_some_iff->qOA,bind_eq_bind->qOD,pure_def->qOE,map_some->qOG
namespace W
set_option maxRecDepth 100000
theorem qM4:kv 1 36 qtY qtj 0 7
 | [c0,c1,c2,c3,c4,c5,c6],_=>by kernel_rfl
 | [],h | [_],h | [_,_],h | [_,_,_],h | [_,_,_,_],h | [_,_,_,_,_],h | [_,_,_,_,_,_],h=>by simp at h
 | _::_::_::_::_::_::_::_::_,h=>by simp at h
theorem qL9:kv 1 36 qtY qtj 0 8
 | [c0,c1,c2,c3,c4,c5,c6,c7],_=>by kernel_rfl
 | [],h | [_],h | [_,_],h | [_,_,_],h | [_,_,_,_],h | [_,_,_,_,_],h | [_,_,_,_,_,_],h | [_,_,_,_,_,_,_],h=>by simp at h
 | _::_::_::_::_::_::_::_::_::_,h=>by simp at h
theorem qNw:kv 1 36 qtY qtj 0 9
 | [c0,c1,c2,c3,c4,c5,c6,c7,c8],_=>by kernel_rfl
 | [],h | [_],h | [_,_],h | [_,_,_],h | [_,_,_,_],h | [_,_,_,_,_],h | [_,_,_,_,_,_],h | [_,_,_,_,_,_,_],h | [_,_,_,_,_,_,_,_],h=>by simp at h
 | _::_::_::_::_::_::_::_::_::_::_,h=>by simp at h
theorem qJ0:kv 1 36 qtY qtj 0 10
 | [c0,c1,c2,c3,c4,c5,c6,c7,c8,c9],_=>by kernel_rfl
 | [],h | [_],h | [_,_],h | [_,_,_],h | [_,_,_,_],h | [_,_,_,_,_],h | [_,_,_,_,_,_],h | [_,_,_,_,_,_,_],h | [_,_,_,_,_,_,_,_],h | [_,_,_,_,_,_,_,_,_],h=>by simp at h
 | _::_::_::_::_::_::_::_::_::_::_::_,h=>by simp at h
theorem qGe:kv 1 36 qtY qtj 0 11
 | [c0,c1,c2,c3,c4,c5,c6,c7,c8,c9,c10],_=>by kernel_rfl
 | [],h | [_],h | [_,_],h | [_,_,_],h | [_,_,_,_],h | [_,_,_,_,_],h | [_,_,_,_,_,_],h | [_,_,_,_,_,_,_],h | [_,_,_,_,_,_,_,_],h | [_,_,_,_,_,_,_,_,_],h | [_,_,_,_,_,_,_,_,_,_],h=>by simp at h
 | _::_::_::_::_::_::_::_::_::_::_::_::_,h=>by simp at h
theorem qII:kv 1 36 qtY qtj 0 12
 | [c0,c1,c2,c3,c4,c5,c6,c7,c8,c9,c10,c11],_=>by kernel_rfl
 | [],h | [_],h | [_,_],h | [_,_,_],h | [_,_,_,_],h | [_,_,_,_,_],h | [_,_,_,_,_,_],h | [_,_,_,_,_,_,_],h | [_,_,_,_,_,_,_,_],h | [_,_,_,_,_,_,_,_,_],h | [_,_,_,_,_,_,_,_,_,_],h | [_,_,_,_,_,_,_,_,_,_,_],h=>by simp at h
 | _::_::_::_::_::_::_::_::_::_::_::_::_::_,h=>by simp at h
theorem qJB:kv 1 36 qtY qtj 0 13
 | [c0,c1,c2,c3,c4,c5,c6,c7,c8,c9,c10,c11,c12],_=>by kernel_rfl
 | [],h | [_],h | [_,_],h | [_,_,_],h | [_,_,_,_],h | [_,_,_,_,_],h | [_,_,_,_,_,_],h | [_,_,_,_,_,_,_],h | [_,_,_,_,_,_,_,_],h | [_,_,_,_,_,_,_,_,_],h | [_,_,_,_,_,_,_,_,_,_],h | [_,_,_,_,_,_,_,_,_,_,_],h | [_,_,_,_,_,_,_,_,_,_,_,_],h=>by simp at h
 | _::_::_::_::_::_::_::_::_::_::_::_::_::_::_,h=>by simp at h
theorem qGD {vs:List V} {H:List Obj} {r:Cr} (h:qlP 1 qtY qtj 0 vs H=some r):qh pg1 36 vs H=some r:=qon (fun m h1 h2=>by
 rcases (show m=7\/m=8\/m=9\/m=10\/m=11\/m=12\/m=13 by omega) with rfl|rfl|rfl|rfl|rfl|rfl|rfl
 ·exact qM4
 ·exact qL9
 ·exact qNw
 ·exact qJ0
 ·exact qGe
 ·exact qII
 ·exact qJB) h
end W
