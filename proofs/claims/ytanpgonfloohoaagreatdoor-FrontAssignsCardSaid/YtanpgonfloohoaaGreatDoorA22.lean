/-
  FrontAssigns, part 22.
-/
import Derived.Test.YtanpgonfloohoaaGreatDoorA21
open Bool renaming cond_eq_ite->qOx,and_eq_true->qOy,false_eq_true->qOF
open Nat renaming eq_of_beq_eq_true->qOz,le_refl->qOB,beq->qOC,le_of_ble_eq_true->qOH
open Option renaming bind_eq_some_iff->qOA,bind_eq_bind->qOD,pure_def->qOE,map_some->qOG
namespace W
set_option maxRecDepth 100000
theorem qDn {pg:Pg} (hx:qu pg.ext) {N:Nat} {T:List Ent} (h:(T.all fun e=>Ent.is (ji pg N e.f (e.a.map .d) []) e.r)=true):∀e ∈ T,e.Ok pg:=fun e he=>qqY hx (List.all_eq_true.1 h e he)
theorem qDw:∀e ∈ qvd,e.Ok pg:=qDn qt4 (N:=1000) (by decide +kernel)
theorem qC6:fn_k.Ok pg1:=qqY qpY (N:=1000) (by decide +kernel)
end W
