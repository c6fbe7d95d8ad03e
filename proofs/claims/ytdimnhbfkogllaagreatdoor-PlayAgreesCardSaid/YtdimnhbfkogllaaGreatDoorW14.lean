/-
  PlayAgrees, part 14.
-/
import Derived.Test.YtdimnhbfkogllaaGreatDoorCards
import Derived.LaidByTextLater
import Derived.SevenTiedAt
import Derived.WalkKit
import Derived.ProofKit
import Derived.OpenShut
import Derived.Deep.DeepHandedRow
import Derived.Deep.DeepWitnessRowRef
import Derived.Lib.LaidTab
import Derived.Lay
import Derived.Test.YtdimnhbfkogllaaGreatDoorW5
import Derived.Test.YtdimnhbfkogllaaGreatDoorW13
set_option linter.unusedSimpArgs false
set_option linter.unusedVariables false
/- What the row lists is what the program says. -/
namespace Go.Proofs.YtdimnhbfkogllaaGreatDoor
open Go.ChangeShapes Go.WideShapes Go.ChangeAt Go.RowKit W
set_option maxRecDepth 100000
open Go
set_option maxHeartbeats 20000000
theorem qgQ {P:Program} {w:World} {f:Nat} {n:String} {ns:List String} {x y:List (String × DataW Unit) × List MemPlace} (h1:DataW.laidRun P w f [n]=some x) (h2:DataW.laidRun P w f ns=some y):DataW.laidRun P w f (n::ns)=some (x.1++y.1,x.2++y.2):=by
 simp only [DataW.laidRun] at h1 |-
 split at h1
 ·split at h1
  ·split at h1
   ·rename_i e1 e2
    simp only [Option.some.injEq,Prod.mk.injEq] at e2
    simp only [*]
    cases h1
    cases e2
    simp
   ·cases h1
  ·cases h1
 ·cases h1
theorem qyd:decide ((MemPlace.row ⟨0,0,none⟩ 256)++((MemPlace.row ⟨1,0,none⟩ 1++MemPlace.row ⟨24,0,none⟩ 3++MemPlace.row ⟨23,0,none⟩ 21)++((MemPlace.row ⟨3,0,none⟩ 1++MemPlace.row ⟨22,0,none⟩ 1)++((MemPlace.row ⟨4,0,none⟩ 1++MemPlace.row ⟨21,0,none⟩ 1)++((MemPlace.row ⟨5,0,none⟩ 20)++((MemPlace.row ⟨13,0,none⟩ 32)++((MemPlace.row ⟨14,0,none⟩ 64)++((MemPlace.row ⟨7,0,none⟩ 32)++[]))))))):List MemPlace).Nodup=true:=by kernel_rfl
theorem qzI:∀os tape,laidRowsB Tryz.prog (varsWorld Tryz.prog 400 742 os tape).memory ((MemPlace.row ⟨0,0,none⟩ 256)++((MemPlace.row ⟨1,0,none⟩ 1++MemPlace.row ⟨24,0,none⟩ 3++MemPlace.row ⟨23,0,none⟩ 21)++((MemPlace.row ⟨3,0,none⟩ 1++MemPlace.row ⟨22,0,none⟩ 1)++((MemPlace.row ⟨4,0,none⟩ 1++MemPlace.row ⟨21,0,none⟩ 1)++((MemPlace.row ⟨5,0,none⟩ 20)++((MemPlace.row ⟨13,0,none⟩ 32)++((MemPlace.row ⟨14,0,none⟩ 64)++((MemPlace.row ⟨7,0,none⟩ 32)++[]))))))))=true:=fun _ _=>by kernel_rfl
theorem qCk (os:Os) (tape:Tape):DataW.laidRun Tryz.prog (varsWorld Tryz.prog 400 742 os tape).memory 8 (([("strings.asciiSpace",Rows.laid_strings_asciiSpace),("unicode.White_Space",Rows.laid_unicode_White_Space),("strconv.ErrSyntax",Rows.laid_strconv_ErrSyntax),("strconv.ErrRange",Rows.laid_strconv_ErrRange),("internal/strconv.uint64pow10",Rows.laid_internal_strconv_uint64pow10),("math/bits.deBruijn32tab",Rows.laid_math_bits_deBruijn32tab),("math/bits.deBruijn64tab",Rows.laid_math_bits_deBruijn64tab),("unicode/utf8.acceptRanges",Rows.laid_unicode_utf8_acceptRanges)]:List (String × DataW Unit)).map (·.1))=some (([("strings.asciiSpace",Rows.laid_strings_asciiSpace),("unicode.White_Space",Rows.laid_unicode_White_Space),("strconv.ErrSyntax",Rows.laid_strconv_ErrSyntax),("strconv.ErrRange",Rows.laid_strconv_ErrRange),("internal/strconv.uint64pow10",Rows.laid_internal_strconv_uint64pow10),("math/bits.deBruijn32tab",Rows.laid_math_bits_deBruijn32tab),("math/bits.deBruijn64tab",Rows.laid_math_bits_deBruijn64tab),("unicode/utf8.acceptRanges",Rows.laid_unicode_utf8_acceptRanges)]:List (String × DataW Unit)),(MemPlace.row ⟨0,0,none⟩ 256)++((MemPlace.row ⟨1,0,none⟩ 1++MemPlace.row ⟨24,0,none⟩ 3++MemPlace.row ⟨23,0,none⟩ 21)++((MemPlace.row ⟨3,0,none⟩ 1++MemPlace.row ⟨22,0,none⟩ 1)++((MemPlace.row ⟨4,0,none⟩ 1++MemPlace.row ⟨21,0,none⟩ 1)++((MemPlace.row ⟨5,0,none⟩ 20)++((MemPlace.row ⟨13,0,none⟩ 32)++((MemPlace.row ⟨14,0,none⟩ 64)++((MemPlace.row ⟨7,0,none⟩ 32)++[])))))))):=
 (qgQ (qSB os tape) (qgQ (qSV os tape) (qgQ (qS0 os tape) (qgQ (qSO os tape) (qgQ (qSk os tape) (qgQ (qSM os tape) (qgQ (qSW os tape) (qgQ (qSg os tape) (show DataW.laidRun Tryz.prog (varsWorld Tryz.prog 400 742 os tape).memory 8 []=some ([],[]) from rfl)))))))))
theorem qRO:∀os tape,(DataW.laidRun Tryz.prog (varsWorld Tryz.prog 400 (varsId Tryz.prog) os tape).memory 8 (([("strings.asciiSpace",Rows.laid_strings_asciiSpace),("unicode.White_Space",Rows.laid_unicode_White_Space),("strconv.ErrSyntax",Rows.laid_strconv_ErrSyntax),("strconv.ErrRange",Rows.laid_strconv_ErrRange),("internal/strconv.uint64pow10",Rows.laid_internal_strconv_uint64pow10),("math/bits.deBruijn32tab",Rows.laid_math_bits_deBruijn32tab),("math/bits.deBruijn64tab",Rows.laid_math_bits_deBruijn64tab),("unicode/utf8.acceptRanges",Rows.laid_unicode_utf8_acceptRanges)]:List (String × DataW Unit)).map (·.1))).map (·.1)=some ([("strings.asciiSpace",Rows.laid_strings_asciiSpace),("unicode.White_Space",Rows.laid_unicode_White_Space),("strconv.ErrSyntax",Rows.laid_strconv_ErrSyntax),("strconv.ErrRange",Rows.laid_strconv_ErrRange),("internal/strconv.uint64pow10",Rows.laid_internal_strconv_uint64pow10),("math/bits.deBruijn32tab",Rows.laid_math_bits_deBruijn32tab),("math/bits.deBruijn64tab",Rows.laid_math_bits_deBruijn64tab),("unicode/utf8.acceptRanges",Rows.laid_unicode_utf8_acceptRanges)]:List (String × DataW Unit)):=by
 rw [qnB]
 exact fun os tape=>by rw [qCk];rfl
theorem qQP:∀os tape,(DataW.laidRun Tryz.prog (varsWorld Tryz.prog 400 (varsId Tryz.prog) os tape).memory 8 (([("strings.asciiSpace",Rows.laid_strings_asciiSpace),("unicode.White_Space",Rows.laid_unicode_White_Space),("strconv.ErrSyntax",Rows.laid_strconv_ErrSyntax),("strconv.ErrRange",Rows.laid_strconv_ErrRange),("internal/strconv.uint64pow10",Rows.laid_internal_strconv_uint64pow10),("math/bits.deBruijn32tab",Rows.laid_math_bits_deBruijn32tab),("math/bits.deBruijn64tab",Rows.laid_math_bits_deBruijn64tab),("unicode/utf8.acceptRanges",Rows.laid_unicode_utf8_acceptRanges)]:List (String × DataW Unit)).map (·.1))).map (fun x=>decide x.2.Nodup && laidRowsB Tryz.prog (varsWorld Tryz.prog 400 (varsId Tryz.prog) os tape).memory x.2)=some true:=by
 rw [qnB]
 intro os tape
 rw [qCk]
 simp only [Option.map_some,qyd,qzI,Bool.and_self]
end Go.Proofs.YtdimnhbfkogllaaGreatDoor
