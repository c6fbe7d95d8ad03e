/-
  FrontAssigns, part 9.
-/
import Derived.Test.YtanpgonfloohoaaGreatDoorCards
import Derived.LaidByTextLater
import Derived.SevenTiedAt
import Derived.WalkKit
import Derived.ProofKit
import Derived.OpenShut
import Derived.Deep.DeepHandedRow
import Derived.Deep.DeepWitnessRowRef
import Derived.Lib.LaidTab
import Derived.Lay
import Derived.Test.YtanpgonfloohoaaGreatDoorA5
set_option linter.unusedSimpArgs false
set_option linter.unusedVariables false
/- What the row lists is what the program says. -/
namespace Go.Proofs.YtanpgonfloohoaaGreatDoor
open Go.ChangeShapes Go.WideShapes Go.ChangeAt Go.RowKit W
set_option maxRecDepth 100000
theorem quB:Tryz.pinned.checked.prog.headLifts.contains "ownunsafe" =false:=by kernel_rfl
set_option maxHeartbeats 20000000 in
theorem tie:Tryz.prog.laidByTextLater [("strings.asciiSpace",Rows.laid_strings_asciiSpace),("unicode.White_Space",Rows.laid_unicode_White_Space),("strconv.ErrSyntax",Rows.laid_strconv_ErrSyntax),("strconv.ErrRange",Rows.laid_strconv_ErrRange),("internal/strconv.uint64pow10",Rows.laid_internal_strconv_uint64pow10),("math/bits.deBruijn32tab",Rows.laid_math_bits_deBruijn32tab),("math/bits.deBruijn64tab",Rows.laid_math_bits_deBruijn64tab)] [.data,.listed,.sentinel,.sentinel,.data,.data,.data] true:=
 Program.laidByTextLater_by_run 400 8 (by as_aux_lemma=>kernel_rfl) (by as_aux_lemma=>kernel_rfl) (by as_aux_lemma=>kernel_rfl) (by as_aux_lemma=>kernel_rfl) (by as_aux_lemma=>kernel_rfl) (by as_aux_lemma=>kernel_rfl) (fun _ _=>by as_aux_lemma=>kernel_rfl) (fun _ _=>by as_aux_lemma=>kernel_rfl) (fun _ _=>by as_aux_lemma=>kernel_rfl)
theorem qkR:Rows.frontAssignsRow.laidByTextAt .later Tryz.pinned [.data,.listed,.sentinel,.sentinel,.data,.data,.data] true:=
 OpenClaim.laidByTextAt_later rfl rfl tie quB
end Go.Proofs.YtanpgonfloohoaaGreatDoor
