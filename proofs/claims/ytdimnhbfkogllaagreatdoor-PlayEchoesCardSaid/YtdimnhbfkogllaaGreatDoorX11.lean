/-
  PlayEchoes, part 11.
-/
import Derived.Test.YtdimnhbfkogllaaGreatDoorCards
import Derived.LaidByTextLater
import Derived.SevenTiedAt
import Derived.WalkKit
import Derived.ProofKit
import Derived.OpenShut
import Derived.Deep.DeepHandedRow
import Derived.Deep.DeepWitnessRowRef
import Derived.Lib.LaidTab
import Derived.Lay
import Derived.Test.YtdimnhbfkogllaaGreatDoorX5
import Derived.Test.YtdimnhbfkogllaaGreatDoorX10
set_option linter.unusedSimpArgs false
set_option linter.unusedVariables false
/- What the row lists is what the program says. -/
namespace Go.Proofs.YtdimnhbfkogllaaGreatDoor
open Go.ChangeShapes Go.WideShapes Go.ChangeAt Go.RowKit W
set_option maxRecDepth 100000
open Go
set_option maxHeartbeats 20000000 in
theorem qQs:varsNamedLaterB Tryz.prog (varsId Tryz.prog) ([("strings.asciiSpace",Rows.laid_strings_asciiSpace),("unicode.White_Space",Rows.laid_unicode_White_Space),("strconv.ErrSyntax",Rows.laid_strconv_ErrSyntax),("strconv.ErrRange",Rows.laid_strconv_ErrRange),("internal/strconv.uint64pow10",Rows.laid_internal_strconv_uint64pow10),("math/bits.deBruijn32tab",Rows.laid_math_bits_deBruijn32tab),("math/bits.deBruijn64tab",Rows.laid_math_bits_deBruijn64tab),("unicode/utf8.acceptRanges",Rows.laid_unicode_utf8_acceptRanges)]:List (String × DataW Unit))=true:=by
 rw [qnB]
 kernel_rfl
end Go.Proofs.YtdimnhbfkogllaaGreatDoor
