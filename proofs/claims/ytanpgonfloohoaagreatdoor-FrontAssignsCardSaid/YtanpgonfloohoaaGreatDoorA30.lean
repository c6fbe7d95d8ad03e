/-
  FrontAssigns, part 30.
-/
import Derived.KernelRfl
import Derived.Test.YtanpgonfloohoaaGreatDoorA28
set_option linter.unusedSimpArgs false
set_option linter.unusedVariables false
open Bool renaming cond_eq_ite->qOx,and_eq_true->qOy,false_eq_true->qOF
open Nat renaming eq_of_beq_eq_true->qOz,le_refl->qOB,beq->qOC,le_of_ble_eq_true->qOH
open Option renaming bind_eq_some_iff->qOA,bind_eq_bind->qOD,pure_def->qOE,map_some->qOG
namespace W
set_option maxRecDepth 100000
theorem qFT:∀c:List Nat,c.length=13->ShR (tlF c)
 | [c0,c1,c2,c3,c4,c5,c6,c7,c8,c9,c10,c11,c12],_=>⟨by kernel_rfl,by kernel_rfl,by kernel_rfl,by kernel_rfl⟩
 | [],h | [_],h | [_,_],h | [_,_,_],h | [_,_,_,_],h | [_,_,_,_,_],h | [_,_,_,_,_,_],h | [_,_,_,_,_,_,_],h | [_,_,_,_,_,_,_,_],h | [_,_,_,_,_,_,_,_,_],h | [_,_,_,_,_,_,_,_,_,_],h | [_,_,_,_,_,_,_,_,_,_,_],h | [_,_,_,_,_,_,_,_,_,_,_,_],h=>by simp at h
 | _::_::_::_::_::_::_::_::_::_::_::_::_::_::_,h=>by simp at h
theorem qHt:∀c:List Nat,c.length=14->ShR (tlF c)
 | [c0,c1,c2,c3,c4,c5,c6,c7,c8,c9,c10,c11,c12,c13],_=>⟨by kernel_rfl,by kernel_rfl,by kernel_rfl,by kernel_rfl⟩
 | [],h | [_],h | [_,_],h | [_,_,_],h | [_,_,_,_],h | [_,_,_,_,_],h | [_,_,_,_,_,_],h | [_,_,_,_,_,_,_],h | [_,_,_,_,_,_,_,_],h | [_,_,_,_,_,_,_,_,_],h | [_,_,_,_,_,_,_,_,_,_],h | [_,_,_,_,_,_,_,_,_,_,_],h | [_,_,_,_,_,_,_,_,_,_,_,_],h | [_,_,_,_,_,_,_,_,_,_,_,_,_],h=>by simp at h
 | _::_::_::_::_::_::_::_::_::_::_::_::_::_::_::_,h=>by simp at h
theorem qF8:∀c:List Nat,c.length=15->ShR (tlF c)
 | [c0,c1,c2,c3,c4,c5,c6,c7,c8,c9,c10,c11,c12,c13,c14],_=>⟨by kernel_rfl,by kernel_rfl,by kernel_rfl,by kernel_rfl⟩
 | [],h | [_],h | [_,_],h | [_,_,_],h | [_,_,_,_],h | [_,_,_,_,_],h | [_,_,_,_,_,_],h | [_,_,_,_,_,_,_],h | [_,_,_,_,_,_,_,_],h | [_,_,_,_,_,_,_,_,_],h | [_,_,_,_,_,_,_,_,_,_],h | [_,_,_,_,_,_,_,_,_,_,_],h | [_,_,_,_,_,_,_,_,_,_,_,_],h | [_,_,_,_,_,_,_,_,_,_,_,_,_],h | [_,_,_,_,_,_,_,_,_,_,_,_,_,_],h=>by simp at h
 | _::_::_::_::_::_::_::_::_::_::_::_::_::_::_::_::_,h=>by simp at h
theorem qKE:∀c:List Nat,c.length=16->ShR (tlF c)
 | [c0,c1,c2,c3,c4,c5,c6,c7,c8,c9,c10,c11,c12,c13,c14,c15],_=>⟨by kernel_rfl,by kernel_rfl,by kernel_rfl,by kernel_rfl⟩
 | [],h | [_],h | [_,_],h | [_,_,_],h | [_,_,_,_],h | [_,_,_,_,_],h | [_,_,_,_,_,_],h | [_,_,_,_,_,_,_],h | [_,_,_,_,_,_,_,_],h | [_,_,_,_,_,_,_,_,_],h | [_,_,_,_,_,_,_,_,_,_],h | [_,_,_,_,_,_,_,_,_,_,_],h | [_,_,_,_,_,_,_,_,_,_,_,_],h | [_,_,_,_,_,_,_,_,_,_,_,_,_],h | [_,_,_,_,_,_,_,_,_,_,_,_,_,_],h | [_,_,_,_,_,_,_,_,_,_,_,_,_,_,_],h=>by simp at h
 | _::_::_::_::_::_::_::_::_::_::_::_::_::_::_::_::_::_,h=>by simp at h
theorem qGn:∀c:List Nat,c.length=17->ShR (tlF c)
 | [c0,c1,c2,c3,c4,c5,c6,c7,c8,c9,c10,c11,c12,c13,c14,c15,c16],_=>⟨by kernel_rfl,by kernel_rfl,by kernel_rfl,by kernel_rfl⟩
 | [],h | [_],h | [_,_],h | [_,_,_],h | [_,_,_,_],h | [_,_,_,_,_],h | [_,_,_,_,_,_],h | [_,_,_,_,_,_,_],h | [_,_,_,_,_,_,_,_],h | [_,_,_,_,_,_,_,_,_],h | [_,_,_,_,_,_,_,_,_,_],h | [_,_,_,_,_,_,_,_,_,_,_],h | [_,_,_,_,_,_,_,_,_,_,_,_],h | [_,_,_,_,_,_,_,_,_,_,_,_,_],h | [_,_,_,_,_,_,_,_,_,_,_,_,_,_],h | [_,_,_,_,_,_,_,_,_,_,_,_,_,_,_],h | [_,_,_,_,_,_,_,_,_,_,_,_,_,_,_,_],h=>by simp at h
 | _::_::_::_::_::_::_::_::_::_::_::_::_::_::_::_::_::_::_,h=>by simp at h
theorem qI7:∀c:List Nat,c.length=18->ShR (tlF c)
 | [c0,c1,c2,c3,c4,c5,c6,c7,c8,c9,c10,c11,c12,c13,c14,c15,c16,c17],_=>⟨by kernel_rfl,by kernel_rfl,by kernel_rfl,by kernel_rfl⟩
 | [],h | [_],h | [_,_],h | [_,_,_],h | [_,_,_,_],h | [_,_,_,_,_],h | [_,_,_,_,_,_],h | [_,_,_,_,_,_,_],h | [_,_,_,_,_,_,_,_],h | [_,_,_,_,_,_,_,_,_],h | [_,_,_,_,_,_,_,_,_,_],h | [_,_,_,_,_,_,_,_,_,_,_],h | [_,_,_,_,_,_,_,_,_,_,_,_],h | [_,_,_,_,_,_,_,_,_,_,_,_,_],h | [_,_,_,_,_,_,_,_,_,_,_,_,_,_],h | [_,_,_,_,_,_,_,_,_,_,_,_,_,_,_],h | [_,_,_,_,_,_,_,_,_,_,_,_,_,_,_,_],h | [_,_,_,_,_,_,_,_,_,_,_,_,_,_,_,_,_],h=>by simp at h
 | _::_::_::_::_::_::_::_::_::_::_::_::_::_::_::_::_::_::_::_,h=>by simp at h
theorem qJq:∀c:List Nat,c.length=19->ShR (tlF c)
 | [c0,c1,c2,c3,c4,c5,c6,c7,c8,c9,c10,c11,c12,c13,c14,c15,c16,c17,c18],_=>⟨by kernel_rfl,by kernel_rfl,by kernel_rfl,by kernel_rfl⟩
 | [],h | [_],h | [_,_],h | [_,_,_],h | [_,_,_,_],h | [_,_,_,_,_],h | [_,_,_,_,_,_],h | [_,_,_,_,_,_,_],h | [_,_,_,_,_,_,_,_],h | [_,_,_,_,_,_,_,_,_],h | [_,_,_,_,_,_,_,_,_,_],h | [_,_,_,_,_,_,_,_,_,_,_],h | [_,_,_,_,_,_,_,_,_,_,_,_],h | [_,_,_,_,_,_,_,_,_,_,_,_,_],h | [_,_,_,_,_,_,_,_,_,_,_,_,_,_],h | [_,_,_,_,_,_,_,_,_,_,_,_,_,_,_],h | [_,_,_,_,_,_,_,_,_,_,_,_,_,_,_,_],h | [_,_,_,_,_,_,_,_,_,_,_,_,_,_,_,_,_],h | [_,_,_,_,_,_,_,_,_,_,_,_,_,_,_,_,_,_],h=>by simp at h
 | _::_::_::_::_::_::_::_::_::_::_::_::_::_::_::_::_::_::_::_::_,h=>by simp at h
theorem qHT:∀c:List Nat,c.length=20->ShR (tlF c)
 | [c0,c1,c2,c3,c4,c5,c6,c7,c8,c9,c10,c11,c12,c13,c14,c15,c16,c17,c18,c19],_=>⟨by kernel_rfl,by kernel_rfl,by kernel_rfl,by kernel_rfl⟩
 | [],h | [_],h | [_,_],h | [_,_,_],h | [_,_,_,_],h | [_,_,_,_,_],h | [_,_,_,_,_,_],h | [_,_,_,_,_,_,_],h | [_,_,_,_,_,_,_,_],h | [_,_,_,_,_,_,_,_,_],h | [_,_,_,_,_,_,_,_,_,_],h | [_,_,_,_,_,_,_,_,_,_,_],h | [_,_,_,_,_,_,_,_,_,_,_,_],h | [_,_,_,_,_,_,_,_,_,_,_,_,_],h | [_,_,_,_,_,_,_,_,_,_,_,_,_,_],h | [_,_,_,_,_,_,_,_,_,_,_,_,_,_,_],h | [_,_,_,_,_,_,_,_,_,_,_,_,_,_,_,_],h | [_,_,_,_,_,_,_,_,_,_,_,_,_,_,_,_,_],h | [_,_,_,_,_,_,_,_,_,_,_,_,_,_,_,_,_,_],h | [_,_,_,_,_,_,_,_,_,_,_,_,_,_,_,_,_,_,_],h=>by simp at h
 | _::_::_::_::_::_::_::_::_::_::_::_::_::_::_::_::_::_::_::_::_::_,h=>by simp at h
theorem qF6 {c:List Nat} (h1:13<=c.length) (h2:c.length<=20):ShR (tlF c):=by
 rcases (show c.length=13\/c.length=14\/c.length=15\/c.length=16\/c.length=17\/c.length=18\/c.length=19\/c.length=20 by omega) with h|h|h|h|h|h|h|h
 ·exact qFT c h
 ·exact qHt c h
 ·exact qF8 c h
 ·exact qKE c h
 ·exact qGn c h
 ·exact qI7 c h
 ·exact qJq c h
 ·exact qHT c h
end W
