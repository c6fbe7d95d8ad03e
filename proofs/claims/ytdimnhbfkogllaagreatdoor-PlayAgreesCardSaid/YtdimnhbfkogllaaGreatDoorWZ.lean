/- PlayAgrees: when two results agree. -/
import Derived.Test.YtdimnhbfkogllaaGreatDoorW37
set_option linter.unusedVariables false
set_option linter.unusedSimpArgs false
namespace Go.Proofs.YtdimnhbfkogllaaGreatDoor
open Go.ChangeShapes Go.WideShapes Go.ChangeAt Go.RowKit W
set_option maxRecDepth 100000
theorem qRD:Tryz.prog.funcs.any Func.goes=false:=by kernel_rfl
theorem qFY {P:Program} (h:P.funcs.any Func.goes=false) (f:FuncId):P.goes f=false:=by
 have h':∀g:FuncId,((P.funcs[g]?).any Func.goes)=false:=fun g=>by
  cases hg:P.funcs[g]? with
  | none=>rfl
  | some fn=>
   show Func.goes fn=false
   rw [Array.any_eq_false] at h
   obtain ⟨i,hi⟩:=Array.getElem?_eq_some_iff.1 hg
   have:=h g i
   rw [hi] at this
   simpa using this
 unfold Program.goes
 rw [h,Bool.and_false,Bool.or_false,List.any_eq_false]
 intro g _
 rw [h' g]
 simp
theorem qBe {P:Program} (h:P.funcs.any Func.goes=false) {c:OpenClaim} (hs:c.start=.entering):false=c.goesBy P:=by
 unfold OpenClaim.goesBy Program.goesAt Program.goesFrom
 rw [hs]
 cases P.funcNamed c.func with
 | none=>rfl
 | some f=>
  show false=(P.goes f || false)
  rw [qFY h];rfl
theorem playAgrees_holds:Rows.PlayAgreesCardSaid:=
 Claim7.holds_tied_plain_at .later [] _ _ _ _ said (fun _ h=>by cases h) (by kernel_rfl) (fun _ h=>by cases h) qpt rfl ⟨rfl,rfl⟩ (by kernel_rfl) rfl plain (qBe qRD rfl)
end Go.Proofs.YtdimnhbfkogllaaGreatDoor
