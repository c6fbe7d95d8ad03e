/-
  PlayEchoes, part 15.
-/
import Derived.Test.YtdimnhbfkogllaaGreatDoorCards
import Derived.LaidByTextLater
import Derived.SevenTiedAt
import Derived.WalkKit
import Derived.ProofKit
import Derived.OpenShut
import Derived.Deep.DeepHandedRow
import Derived.Deep.DeepWitnessRowRef
import Derived.Lib.LaidTab
import Derived.Lay
import Derived.Test.YtdimnhbfkogllaaGreatDoorX5
import Derived.Test.YtdimnhbfkogllaaGreatDoorX9
import Derived.Test.YtdimnhbfkogllaaGreatDoorX11
import Derived.Test.YtdimnhbfkogllaaGreatDoorX12
import Derived.Test.YtdimnhbfkogllaaGreatDoorX14
set_option linter.unusedSimpArgs false
set_option linter.unusedVariables false
/- What the row lists is what the program says. -/
namespace Go.Proofs.YtdimnhbfkogllaaGreatDoor
open Go.ChangeShapes Go.WideShapes Go.ChangeAt Go.RowKit W
set_option maxRecDepth 100000
theorem qez:Tryz.pinned.checked.prog.pinnedFits "unicode/utf8.first" =true:=by kernel_rfl
theorem qfq:Tryz.pinned.checked.prog.pinnedFits "strconv.isPrint16" =true:=by kernel_rfl
theorem qc9:Tryz.pinned.checked.prog.pinnedFits "strconv.isNotPrint16" =true:=by kernel_rfl
theorem qfG:Tryz.pinned.checked.prog.pinnedFits "strconv.isPrint32" =true:=by kernel_rfl
theorem qcR:Tryz.pinned.checked.prog.pinnedFits "strconv.isNotPrint32" =true:=by kernel_rfl
theorem qfo:Tryz.pinned.checked.prog.pinnedFits "strconv.isGraphic" =true:=by kernel_rfl
theorem qzR:Tryz.pinned.checked.prog.headLifts.contains "ownunsafe" =false:=by kernel_rfl
theorem qQG:Tryz.pinned.checked.prog.listedFits [("strings.asciiSpace",Rows.laid_strings_asciiSpace),("unicode.White_Space",Rows.laid_unicode_White_Space),("strconv.ErrSyntax",Rows.laid_strconv_ErrSyntax),("strconv.ErrRange",Rows.laid_strconv_ErrRange),("internal/strconv.uint64pow10",Rows.laid_internal_strconv_uint64pow10),("math/bits.deBruijn32tab",Rows.laid_math_bits_deBruijn32tab),("math/bits.deBruijn64tab",Rows.laid_math_bits_deBruijn64tab),("unicode/utf8.first",Rows.laid_unicode_utf8_first),("unicode/utf8.acceptRanges",Rows.laid_unicode_utf8_acceptRanges),("strconv.isPrint16",Rows.laid_strconv_isPrint16),("strconv.isNotPrint16",Rows.laid_strconv_isNotPrint16),("strconv.isPrint32",Rows.laid_strconv_isPrint32),("strconv.isNotPrint32",Rows.laid_strconv_isNotPrint32),("strconv.isGraphic",Rows.laid_strconv_isGraphic)]=true:=by
 unfold Program.listedFits
 rw [qzR]
 kernel_rfl
theorem tie:Tryz.prog.laidByTextLater [("strings.asciiSpace",Rows.laid_strings_asciiSpace),("unicode.White_Space",Rows.laid_unicode_White_Space),("strconv.ErrSyntax",Rows.laid_strconv_ErrSyntax),("strconv.ErrRange",Rows.laid_strconv_ErrRange),("internal/strconv.uint64pow10",Rows.laid_internal_strconv_uint64pow10),("math/bits.deBruijn32tab",Rows.laid_math_bits_deBruijn32tab),("math/bits.deBruijn64tab",Rows.laid_math_bits_deBruijn64tab),("unicode/utf8.acceptRanges",Rows.laid_unicode_utf8_acceptRanges)] [.data,.listed,.sentinel,.sentinel,.data,.data,.data,.data] true:=
 Program.laidByTextLater_by_run 400 8 qQQ qRa qP9 qRi qHq qQs qRc qP5 qPp qLq
theorem qpK:Rows.playEchoesRow.laidByTextAt .later Tryz.pinned [.data,.listed,.sentinel,.sentinel,.data,.data,.data,.pinned,.data,.pinned,.pinned,.pinned,.pinned,.pinned] true:=
 OpenClaim.laidByTextAt_pinned rfl rfl tie rfl rfl rfl rfl (fun y hy _e=>by
  simp only [Rows.playEchoesRow,List.zip_cons_cons,List.zip_nil_right,List.mem_cons,List.mem_nil_iff,or_false] at hy
  rcases hy with rfl|rfl|rfl|rfl|rfl|rfl|rfl|rfl|rfl|rfl|rfl|rfl|rfl|rfl
  ·cases _e
  ·cases _e
  ·cases _e
  ·cases _e
  ·cases _e
  ·cases _e
  ·cases _e
  ·exact ⟨qez,by kernel_rfl⟩
  ·cases _e
  ·exact ⟨qfq,by kernel_rfl⟩
  ·exact ⟨qc9,by kernel_rfl⟩
  ·exact ⟨qfG,by kernel_rfl⟩
  ·exact ⟨qcR,by kernel_rfl⟩
  ·exact ⟨qfo,by kernel_rfl⟩) qQG
end Go.Proofs.YtdimnhbfkogllaaGreatDoor
