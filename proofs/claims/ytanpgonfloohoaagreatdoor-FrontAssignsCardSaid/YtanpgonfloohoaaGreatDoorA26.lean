/-
  FrontAssigns, part 26.
-/
import Derived.KernelRfl
import Derived.Test.YtanpgonfloohoaaGreatDoorA23
set_option linter.unusedSimpArgs false
set_option linter.unusedVariables false
open Bool renaming cond_eq_ite->qOx,and_eq_true->qOy,false_eq_true->qOF
open Nat renaming eq_of_beq_eq_true->qOz,le_refl->qOB,beq->qOC,le_of_ble_eq_true->qOH
open Option renaming bind_eq_some_iff->qOA,bind_eq_bind->qOD,pure_def->qOE,map_some->qOG
namespace W
set_option maxRecDepth 100000
theorem qL7:kv 1 37 qub qrM 0 7
 | [c0,c1,c2,c3,c4,c5,c6],_=>by kernel_rfl
 | [],h | [_],h | [_,_],h | [_,_,_],h | [_,_,_,_],h | [_,_,_,_,_],h | [_,_,_,_,_,_],h=>by simp at h
 | _::_::_::_::_::_::_::_::_,h=>by simp at h
theorem qML:kv 1 37 qub qrM 0 8
 | [c0,c1,c2,c3,c4,c5,c6,c7],_=>by kernel_rfl
 | [],h | [_],h | [_,_],h | [_,_,_],h | [_,_,_,_],h | [_,_,_,_,_],h | [_,_,_,_,_,_],h | [_,_,_,_,_,_,_],h=>by simp at h
 | _::_::_::_::_::_::_::_::_::_,h=>by simp at h
theorem qNy:kv 1 37 qub qrM 0 9
 | [c0,c1,c2,c3,c4,c5,c6,c7,c8],_=>by kernel_rfl
 | [],h | [_],h | [_,_],h | [_,_,_],h | [_,_,_,_],h | [_,_,_,_,_],h | [_,_,_,_,_,_],h | [_,_,_,_,_,_,_],h | [_,_,_,_,_,_,_,_],h=>by simp at h
 | _::_::_::_::_::_::_::_::_::_::_,h=>by simp at h
theorem qKs:kv 1 37 qub qrM 0 10
 | [c0,c1,c2,c3,c4,c5,c6,c7,c8,c9],_=>by kernel_rfl
 | [],h | [_],h | [_,_],h | [_,_,_],h | [_,_,_,_],h | [_,_,_,_,_],h | [_,_,_,_,_,_],h | [_,_,_,_,_,_,_],h | [_,_,_,_,_,_,_,_],h | [_,_,_,_,_,_,_,_,_],h=>by simp at h
 | _::_::_::_::_::_::_::_::_::_::_::_,h=>by simp at h
theorem qK4:kv 1 37 qub qrM 0 11
 | [c0,c1,c2,c3,c4,c5,c6,c7,c8,c9,c10],_=>by kernel_rfl
 | [],h | [_],h | [_,_],h | [_,_,_],h | [_,_,_,_],h | [_,_,_,_,_],h | [_,_,_,_,_,_],h | [_,_,_,_,_,_,_],h | [_,_,_,_,_,_,_,_],h | [_,_,_,_,_,_,_,_,_],h | [_,_,_,_,_,_,_,_,_,_],h=>by simp at h
 | _::_::_::_::_::_::_::_::_::_::_::_::_,h=>by simp at h
theorem qIT:kv 1 37 qub qrM 0 12
 | [c0,c1,c2,c3,c4,c5,c6,c7,c8,c9,c10,c11],_=>by kernel_rfl
 | [],h | [_],h | [_,_],h | [_,_,_],h | [_,_,_,_],h | [_,_,_,_,_],h | [_,_,_,_,_,_],h | [_,_,_,_,_,_,_],h | [_,_,_,_,_,_,_,_],h | [_,_,_,_,_,_,_,_,_],h | [_,_,_,_,_,_,_,_,_,_],h | [_,_,_,_,_,_,_,_,_,_,_],h=>by simp at h
 | _::_::_::_::_::_::_::_::_::_::_::_::_::_,h=>by simp at h
theorem qGa:kv 1 37 qub qrM 0 13
 | [c0,c1,c2,c3,c4,c5,c6,c7,c8,c9,c10,c11,c12],_=>by kernel_rfl
 | [],h | [_],h | [_,_],h | [_,_,_],h | [_,_,_,_],h | [_,_,_,_,_],h | [_,_,_,_,_,_],h | [_,_,_,_,_,_,_],h | [_,_,_,_,_,_,_,_],h | [_,_,_,_,_,_,_,_,_],h | [_,_,_,_,_,_,_,_,_,_],h | [_,_,_,_,_,_,_,_,_,_,_],h | [_,_,_,_,_,_,_,_,_,_,_,_],h=>by simp at h
 | _::_::_::_::_::_::_::_::_::_::_::_::_::_::_,h=>by simp at h
theorem qJz {vs:List V} {H:List Obj} {r:Cr} (h:qlP 1 qub qrM 0 vs H=some r):qh pg1 37 vs H=some r:=qon (fun m h1 h2=>by
 rcases (show m=7\/m=8\/m=9\/m=10\/m=11\/m=12\/m=13 by omega) with rfl|rfl|rfl|rfl|rfl|rfl|rfl
 ·exact qL7
 ·exact qML
 ·exact qNy
 ·exact qKs
 ·exact qK4
 ·exact qIT
 ·exact qGa) h
end W
