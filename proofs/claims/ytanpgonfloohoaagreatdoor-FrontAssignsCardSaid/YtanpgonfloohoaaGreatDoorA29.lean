/-
  FrontAssigns, part 29.
-/
import Derived.KernelRfl
import Derived.Test.YtanpgonfloohoaaGreatDoorA28
set_option linter.unusedSimpArgs false
set_option linter.unusedVariables false
open Bool renaming cond_eq_ite->qOx,and_eq_true->qOy,false_eq_true->qOF
open Nat renaming eq_of_beq_eq_true->qOz,le_refl->qOB,beq->qOC,le_of_ble_eq_true->qOH
open Option renaming bind_eq_some_iff->qOA,bind_eq_bind->qOD,pure_def->qOE,map_some->qOG
namespace W
set_option maxRecDepth 100000
theorem qKk:∀c:List Nat,c.length=13->ShF (tlF c)
 | [c0,c1,c2,c3,c4,c5,c6,c7,c8,c9,c10,c11,c12],_=>⟨by kernel_rfl,by kernel_rfl,by kernel_rfl,by kernel_rfl,by kernel_rfl⟩
 | [],h | [_],h | [_,_],h | [_,_,_],h | [_,_,_,_],h | [_,_,_,_,_],h | [_,_,_,_,_,_],h | [_,_,_,_,_,_,_],h | [_,_,_,_,_,_,_,_],h | [_,_,_,_,_,_,_,_,_],h | [_,_,_,_,_,_,_,_,_,_],h | [_,_,_,_,_,_,_,_,_,_,_],h | [_,_,_,_,_,_,_,_,_,_,_,_],h=>by simp at h
 | _::_::_::_::_::_::_::_::_::_::_::_::_::_::_,h=>by simp at h
theorem qGV:∀c:List Nat,c.length=14->ShF (tlF c)
 | [c0,c1,c2,c3,c4,c5,c6,c7,c8,c9,c10,c11,c12,c13],_=>⟨by kernel_rfl,by kernel_rfl,by kernel_rfl,by kernel_rfl,by kernel_rfl⟩
 | [],h | [_],h | [_,_],h | [_,_,_],h | [_,_,_,_],h | [_,_,_,_,_],h | [_,_,_,_,_,_],h | [_,_,_,_,_,_,_],h | [_,_,_,_,_,_,_,_],h | [_,_,_,_,_,_,_,_,_],h | [_,_,_,_,_,_,_,_,_,_],h | [_,_,_,_,_,_,_,_,_,_,_],h | [_,_,_,_,_,_,_,_,_,_,_,_],h | [_,_,_,_,_,_,_,_,_,_,_,_,_],h=>by simp at h
 | _::_::_::_::_::_::_::_::_::_::_::_::_::_::_::_,h=>by simp at h
theorem qIi:∀c:List Nat,c.length=15->ShF (tlF c)
 | [c0,c1,c2,c3,c4,c5,c6,c7,c8,c9,c10,c11,c12,c13,c14],_=>⟨by kernel_rfl,by kernel_rfl,by kernel_rfl,by kernel_rfl,by kernel_rfl⟩
 | [],h | [_],h | [_,_],h | [_,_,_],h | [_,_,_,_],h | [_,_,_,_,_],h | [_,_,_,_,_,_],h | [_,_,_,_,_,_,_],h | [_,_,_,_,_,_,_,_],h | [_,_,_,_,_,_,_,_,_],h | [_,_,_,_,_,_,_,_,_,_],h | [_,_,_,_,_,_,_,_,_,_,_],h | [_,_,_,_,_,_,_,_,_,_,_,_],h | [_,_,_,_,_,_,_,_,_,_,_,_,_],h | [_,_,_,_,_,_,_,_,_,_,_,_,_,_],h=>by simp at h
 | _::_::_::_::_::_::_::_::_::_::_::_::_::_::_::_::_,h=>by simp at h
theorem qJK:∀c:List Nat,c.length=16->ShF (tlF c)
 | [c0,c1,c2,c3,c4,c5,c6,c7,c8,c9,c10,c11,c12,c13,c14,c15],_=>⟨by kernel_rfl,by kernel_rfl,by kernel_rfl,by kernel_rfl,by kernel_rfl⟩
 | [],h | [_],h | [_,_],h | [_,_,_],h | [_,_,_,_],h | [_,_,_,_,_],h | [_,_,_,_,_,_],h | [_,_,_,_,_,_,_],h | [_,_,_,_,_,_,_,_],h | [_,_,_,_,_,_,_,_,_],h | [_,_,_,_,_,_,_,_,_,_],h | [_,_,_,_,_,_,_,_,_,_,_],h | [_,_,_,_,_,_,_,_,_,_,_,_],h | [_,_,_,_,_,_,_,_,_,_,_,_,_],h | [_,_,_,_,_,_,_,_,_,_,_,_,_,_],h | [_,_,_,_,_,_,_,_,_,_,_,_,_,_,_],h=>by simp at h
 | _::_::_::_::_::_::_::_::_::_::_::_::_::_::_::_::_::_,h=>by simp at h
theorem qKv:∀c:List Nat,c.length=17->ShF (tlF c)
 | [c0,c1,c2,c3,c4,c5,c6,c7,c8,c9,c10,c11,c12,c13,c14,c15,c16],_=>⟨by kernel_rfl,by kernel_rfl,by kernel_rfl,by kernel_rfl,by kernel_rfl⟩
 | [],h | [_],h | [_,_],h | [_,_,_],h | [_,_,_,_],h | [_,_,_,_,_],h | [_,_,_,_,_,_],h | [_,_,_,_,_,_,_],h | [_,_,_,_,_,_,_,_],h | [_,_,_,_,_,_,_,_,_],h | [_,_,_,_,_,_,_,_,_,_],h | [_,_,_,_,_,_,_,_,_,_,_],h | [_,_,_,_,_,_,_,_,_,_,_,_],h | [_,_,_,_,_,_,_,_,_,_,_,_,_],h | [_,_,_,_,_,_,_,_,_,_,_,_,_,_],h | [_,_,_,_,_,_,_,_,_,_,_,_,_,_,_],h | [_,_,_,_,_,_,_,_,_,_,_,_,_,_,_,_],h=>by simp at h
 | _::_::_::_::_::_::_::_::_::_::_::_::_::_::_::_::_::_::_,h=>by simp at h
theorem qKb:∀c:List Nat,c.length=18->ShF (tlF c)
 | [c0,c1,c2,c3,c4,c5,c6,c7,c8,c9,c10,c11,c12,c13,c14,c15,c16,c17],_=>⟨by kernel_rfl,by kernel_rfl,by kernel_rfl,by kernel_rfl,by kernel_rfl⟩
 | [],h | [_],h | [_,_],h | [_,_,_],h | [_,_,_,_],h | [_,_,_,_,_],h | [_,_,_,_,_,_],h | [_,_,_,_,_,_,_],h | [_,_,_,_,_,_,_,_],h | [_,_,_,_,_,_,_,_,_],h | [_,_,_,_,_,_,_,_,_,_],h | [_,_,_,_,_,_,_,_,_,_,_],h | [_,_,_,_,_,_,_,_,_,_,_,_],h | [_,_,_,_,_,_,_,_,_,_,_,_,_],h | [_,_,_,_,_,_,_,_,_,_,_,_,_,_],h | [_,_,_,_,_,_,_,_,_,_,_,_,_,_,_],h | [_,_,_,_,_,_,_,_,_,_,_,_,_,_,_,_],h | [_,_,_,_,_,_,_,_,_,_,_,_,_,_,_,_,_],h=>by simp at h
 | _::_::_::_::_::_::_::_::_::_::_::_::_::_::_::_::_::_::_::_,h=>by simp at h
theorem qJI:∀c:List Nat,c.length=19->ShF (tlF c)
 | [c0,c1,c2,c3,c4,c5,c6,c7,c8,c9,c10,c11,c12,c13,c14,c15,c16,c17,c18],_=>⟨by kernel_rfl,by kernel_rfl,by kernel_rfl,by kernel_rfl,by kernel_rfl⟩
 | [],h | [_],h | [_,_],h | [_,_,_],h | [_,_,_,_],h | [_,_,_,_,_],h | [_,_,_,_,_,_],h | [_,_,_,_,_,_,_],h | [_,_,_,_,_,_,_,_],h | [_,_,_,_,_,_,_,_,_],h | [_,_,_,_,_,_,_,_,_,_],h | [_,_,_,_,_,_,_,_,_,_,_],h | [_,_,_,_,_,_,_,_,_,_,_,_],h | [_,_,_,_,_,_,_,_,_,_,_,_,_],h | [_,_,_,_,_,_,_,_,_,_,_,_,_,_],h | [_,_,_,_,_,_,_,_,_,_,_,_,_,_,_],h | [_,_,_,_,_,_,_,_,_,_,_,_,_,_,_,_],h | [_,_,_,_,_,_,_,_,_,_,_,_,_,_,_,_,_],h | [_,_,_,_,_,_,_,_,_,_,_,_,_,_,_,_,_,_],h=>by simp at h
 | _::_::_::_::_::_::_::_::_::_::_::_::_::_::_::_::_::_::_::_::_,h=>by simp at h
theorem qGC:∀c:List Nat,c.length=20->ShF (tlF c)
 | [c0,c1,c2,c3,c4,c5,c6,c7,c8,c9,c10,c11,c12,c13,c14,c15,c16,c17,c18,c19],_=>⟨by kernel_rfl,by kernel_rfl,by kernel_rfl,by kernel_rfl,by kernel_rfl⟩
 | [],h | [_],h | [_,_],h | [_,_,_],h | [_,_,_,_],h | [_,_,_,_,_],h | [_,_,_,_,_,_],h | [_,_,_,_,_,_,_],h | [_,_,_,_,_,_,_,_],h | [_,_,_,_,_,_,_,_,_],h | [_,_,_,_,_,_,_,_,_,_],h | [_,_,_,_,_,_,_,_,_,_,_],h | [_,_,_,_,_,_,_,_,_,_,_,_],h | [_,_,_,_,_,_,_,_,_,_,_,_,_],h | [_,_,_,_,_,_,_,_,_,_,_,_,_,_],h | [_,_,_,_,_,_,_,_,_,_,_,_,_,_,_],h | [_,_,_,_,_,_,_,_,_,_,_,_,_,_,_,_],h | [_,_,_,_,_,_,_,_,_,_,_,_,_,_,_,_,_],h | [_,_,_,_,_,_,_,_,_,_,_,_,_,_,_,_,_,_],h | [_,_,_,_,_,_,_,_,_,_,_,_,_,_,_,_,_,_,_],h=>by simp at h
 | _::_::_::_::_::_::_::_::_::_::_::_::_::_::_::_::_::_::_::_::_::_,h=>by simp at h
theorem qJv {c:List Nat} (h1:13<=c.length) (h2:c.length<=20):ShF (tlF c):=by
 rcases (show c.length=13\/c.length=14\/c.length=15\/c.length=16\/c.length=17\/c.length=18\/c.length=19\/c.length=20 by omega) with h|h|h|h|h|h|h|h
 ·exact qKk c h
 ·exact qGV c h
 ·exact qIi c h
 ·exact qJK c h
 ·exact qKv c h
 ·exact qKb c h
 ·exact qJI c h
 ·exact qGC c h
end W
