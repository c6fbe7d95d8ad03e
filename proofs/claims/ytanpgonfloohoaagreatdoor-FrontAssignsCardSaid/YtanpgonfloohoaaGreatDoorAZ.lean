/- FrontAssigns: what may be assigned to what. -/
import Derived.Test.YtanpgonfloohoaaGreatDoorA50
set_option linter.unusedVariables false
set_option linter.unusedSimpArgs false
namespace Go.Proofs.YtanpgonfloohoaaGreatDoor
open Go.ChangeShapes Go.WideShapes Go.ChangeAt Go.RowKit W
set_option maxRecDepth 100000
theorem qMI:Tryz.prog.funcs.any Func.goes=false:=by kernel_rfl
theorem qBr {P:Program} (h:P.funcs.any Func.goes=false) (f:FuncId):P.goes f=false:=by
 have h':∀g:FuncId,((P.funcs[g]?).any Func.goes)=false:=fun g=>by
  cases hg:P.funcs[g]? with
  | none=>rfl
  | some fn=>
   show Func.goes fn=false
   rw [Array.any_eq_false] at h
   obtain ⟨i,hi⟩:=Array.getElem?_eq_some_iff.1 hg
   have:=h g i
   rw [hi] at this
   simpa using this
 unfold Program.goes
 rw [h,Bool.and_false,Bool.or_false,List.any_eq_false]
 intro g _
 rw [h' g]
 simp
theorem qxb {P:Program} (h:P.funcs.any Func.goes=false) {c:OpenClaim} (hs:c.start=.entering):false=c.goesBy P:=by
 unfold OpenClaim.goesBy Program.goesAt Program.goesFrom
 rw [hs]
 cases P.funcNamed c.func with
 | none=>rfl
 | some f=>
  show false=(P.goes f || false)
  rw [qBr h];rfl
theorem frontAssigns_holds:Rows.FrontAssignsCardSaid:=
 Claim7.holds_tied_plain_at .later [] _ _ _ _ said (fun _ h=>by cases h) (by kernel_rfl) (fun _ h=>by cases h) qkR rfl ⟨rfl,rfl⟩ (by kernel_rfl) rfl plain (qxb qMI rfl)
end Go.Proofs.YtanpgonfloohoaaGreatDoor
