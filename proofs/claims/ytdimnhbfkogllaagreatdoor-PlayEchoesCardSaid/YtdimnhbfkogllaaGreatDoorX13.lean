/-
  PlayEchoes, part 13.
-/
import Derived.Test.YtdimnhbfkogllaaGreatDoorCards
import Derived.LaidByTextLater
import Derived.SevenTiedAt
import Derived.WalkKit
import Derived.ProofKit
import Derived.OpenShut
import Derived.Deep.DeepHandedRow
import Derived.Deep.DeepWitnessRowRef
import Derived.Lib.LaidTab
import Derived.Lay
import Derived.Test.YtdimnhbfkogllaaGreatDoorX5
import Derived.Test.YtdimnhbfkogllaaGreatDoorX10
set_option linter.unusedSimpArgs false
set_option linter.unusedVariables false
/- What the row lists is what the program says. -/
namespace Go.Proofs.YtdimnhbfkogllaaGreatDoor
open Go.ChangeShapes Go.WideShapes Go.ChangeAt Go.RowKit W
set_option maxRecDepth 100000
open Go
set_option maxHeartbeats 20000000
theorem qSg:∀os tape,DataW.laidRun Tryz.prog (varsWorld Tryz.prog 400 742 os tape).memory 8 ["strings.asciiSpace"]=some ([("strings.asciiSpace",Rows.laid_strings_asciiSpace)],MemPlace.row ⟨0,0,none⟩ 256):=fun _ _=>by kernel_rfl
theorem qSm:∀os tape,DataW.laidRun Tryz.prog (varsWorld Tryz.prog 400 742 os tape).memory 8 ["unicode.White_Space"]=some ([("unicode.White_Space",Rows.laid_unicode_White_Space)],MemPlace.row ⟨1,0,none⟩ 1++MemPlace.row ⟨24,0,none⟩ 3++MemPlace.row ⟨23,0,none⟩ 21):=fun _ _=>by kernel_rfl
theorem qR9:∀os tape,DataW.laidRun Tryz.prog (varsWorld Tryz.prog 400 742 os tape).memory 8 ["strconv.ErrSyntax"]=some ([("strconv.ErrSyntax",Rows.laid_strconv_ErrSyntax)],MemPlace.row ⟨3,0,none⟩ 1++MemPlace.row ⟨22,0,none⟩ 1):=fun _ _=>by kernel_rfl
theorem qSd:∀os tape,DataW.laidRun Tryz.prog (varsWorld Tryz.prog 400 742 os tape).memory 8 ["strconv.ErrRange"]=some ([("strconv.ErrRange",Rows.laid_strconv_ErrRange)],MemPlace.row ⟨4,0,none⟩ 1++MemPlace.row ⟨21,0,none⟩ 1):=fun _ _=>by kernel_rfl
theorem qR6:∀os tape,DataW.laidRun Tryz.prog (varsWorld Tryz.prog 400 742 os tape).memory 8 ["internal/strconv.uint64pow10"]=some ([("internal/strconv.uint64pow10",Rows.laid_internal_strconv_uint64pow10)],MemPlace.row ⟨5,0,none⟩ 20):=fun _ _=>by kernel_rfl
theorem qSj:∀os tape,DataW.laidRun Tryz.prog (varsWorld Tryz.prog 400 742 os tape).memory 8 ["math/bits.deBruijn32tab"]=some ([("math/bits.deBruijn32tab",Rows.laid_math_bits_deBruijn32tab)],MemPlace.row ⟨13,0,none⟩ 32):=fun _ _=>by kernel_rfl
theorem qR2:∀os tape,DataW.laidRun Tryz.prog (varsWorld Tryz.prog 400 742 os tape).memory 8 ["math/bits.deBruijn64tab"]=some ([("math/bits.deBruijn64tab",Rows.laid_math_bits_deBruijn64tab)],MemPlace.row ⟨14,0,none⟩ 64):=fun _ _=>by kernel_rfl
theorem qSl:∀os tape,DataW.laidRun Tryz.prog (varsWorld Tryz.prog 400 742 os tape).memory 8 ["unicode/utf8.acceptRanges"]=some ([("unicode/utf8.acceptRanges",Rows.laid_unicode_utf8_acceptRanges)],MemPlace.row ⟨7,0,none⟩ 32):=fun _ _=>by kernel_rfl
end Go.Proofs.YtdimnhbfkogllaaGreatDoor
