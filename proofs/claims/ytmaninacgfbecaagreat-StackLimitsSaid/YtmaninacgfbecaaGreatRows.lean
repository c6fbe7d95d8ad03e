/-
  No cell of these rows narrows 'for every input' (looked for: loops, veiled, ifaces, maps, wideKeys, modest, calm, conditions, laid).
  DERIVED. THE GIVEN ROWS OF THIS SEAT. 4 by the template 'for every input the law returns true; each argument reads behind the call as it read before'; 0 by the template 'total and deterministic' (their statements: YtmaninacgfbecaaGreatTotals.lean).
  GIVEN WITH THE SEED: the statements are not yours to turn. If you find one false, say at which input.
  Laid BY PROGRAM, IN A SANDBOX (cutbox-rows.mjs): the forced cells as the released guide's own fill.sh prints them over the translation 6f1ab9721b89b38d… (all of the seat's roots in one cut). By AI agents, Wed Nov 11 2026. No macro, syntax, notation, axiom, sorry.
-/
import Derived.Test.YtmaninacgfbecaaGreatChecked
import GoSem.Claim
import GoSem.ClaimJoined
import GoSem.ClaimMapViews
import Derived.JoinedTies
import Derived.KernelRfl
namespace Go.Proofs.YtmaninacgfbecaaGreat
/- THE CELL 'sum', in the pinned program and in every row, IS THE sha256 OF THE DUMP (.gsa) THAT YtmaninacgfbecaaGreatProg.lean LOADS. Nothing in Lean hashes anything: it is a label: what it is worth is what the hold of that sum in a sandbox is worth. -/
noncomputable def Tryz.pinned : Pinned := { name := "ytmaninacgfbecaagreat", sum := "6f1ab9721b89b38d5114d48dbfad5580b7d5ecea52f7707ba66b85f679ba2dfd", checked := Tryz.checked }
namespace Rows
def none {H : Type} : Left H := { results := [], args := [] }

/-- 'waferlaw26.StackNumbers': WHATEVER THE INPUT: true; the input reads as it did. -/
def stackNumbersSpec : ChangeSpec := { name := "stackNumbers", fn := fun _ => fun
  | [d1, d2] => { results := [.lit (.bool true)], args := [d1, d2] }
  | _ => none }
def stackNumbersRow : OpenClaim := { program := "ytmaninacgfbecaagreat", sum := "6f1ab9721b89b38d5114d48dbfad5580b7d5ecea52f7707ba66b85f679ba2dfd", func := "wafer/waferlaw26.StackNumbers", spec := "stackNumbers", inPlace := ["internal/bytealg.IndexByteString", "internal/bytealg.IndexString"], unfollowed := true, recurses := true, named := ["internal/bytealg.MaxLen"], apart := false }
def StackNumbersSaid : Prop := stackNumbersRow.holds Tryz.pinned (OpenSpec.ofChange stackNumbersSpec)

/-- ITS FALSE NEIGHBOUR: 'it returns false'. Refute it at one input. -/
def stackNumbersWrong : ChangeSpec := { name := "stackNumbers", fn := fun _ => fun
  | [d1, d2] => { results := [.lit (.bool false)], args := [d1, d2] }
  | _ => none }
def StackNumbersWrongFalsely : Prop := stackNumbersRow.holds Tryz.pinned (OpenSpec.ofChange stackNumbersWrong)

/-- 'waferlaw26.StackLimits': WHATEVER THE INPUT: true; the input reads as it did. -/
def stackLimitsSpec : ChangeSpec := { name := "stackLimits", fn := fun _ => fun
  | [d1, d2] => { results := [.lit (.bool true)], args := [d1, d2] }
  | _ => none }
def stackLimitsRow : OpenClaim := { program := "ytmaninacgfbecaagreat", sum := "6f1ab9721b89b38d5114d48dbfad5580b7d5ecea52f7707ba66b85f679ba2dfd", func := "wafer/waferlaw26.StackLimits", spec := "stackLimits", inPlace := ["internal/bytealg.IndexByteString", "internal/bytealg.IndexString"], unfollowed := true, recurses := true, named := ["internal/bytealg.MaxLen"], apart := false }
def StackLimitsSaid : Prop := stackLimitsRow.holds Tryz.pinned (OpenSpec.ofChange stackLimitsSpec)

/-- ITS FALSE NEIGHBOUR: 'it returns false'. Refute it at one input. -/
def stackLimitsWrong : ChangeSpec := { name := "stackLimits", fn := fun _ => fun
  | [d1, d2] => { results := [.lit (.bool false)], args := [d1, d2] }
  | _ => none }
def StackLimitsWrongFalsely : Prop := stackLimitsRow.holds Tryz.pinned (OpenSpec.ofChange stackLimitsWrong)

/-- 'waferlaw26.StackLists': WHATEVER THE INPUT: true; the input reads as it did. -/
def stackListsSpec : ChangeSpec := { name := "stackLists", fn := fun _ => fun
  | [d1, d2] => { results := [.lit (.bool true)], args := [d1, d2] }
  | _ => none }
def stackListsRow : OpenClaim := { program := "ytmaninacgfbecaagreat", sum := "6f1ab9721b89b38d5114d48dbfad5580b7d5ecea52f7707ba66b85f679ba2dfd", func := "wafer/waferlaw26.StackLists", spec := "stackLists", inPlace := ["internal/bytealg.IndexByteString", "internal/bytealg.IndexString"], unfollowed := true, recurses := true, named := ["internal/bytealg.MaxLen"], apart := false }
def StackListsSaid : Prop := stackListsRow.holds Tryz.pinned (OpenSpec.ofChange stackListsSpec)

/-- ITS FALSE NEIGHBOUR: 'it returns false'. Refute it at one input. -/
def stackListsWrong : ChangeSpec := { name := "stackLists", fn := fun _ => fun
  | [d1, d2] => { results := [.lit (.bool false)], args := [d1, d2] }
  | _ => none }
def StackListsWrongFalsely : Prop := stackListsRow.holds Tryz.pinned (OpenSpec.ofChange stackListsWrong)

/-- 'waferlaw26.StackNests': WHATEVER THE INPUT: true; the input reads as it did. -/
def stackNestsSpec : ChangeSpec := { name := "stackNests", fn := fun _ => fun
  | [d1, d2, d3] => { results := [.lit (.bool true)], args := [d1, d2, d3] }
  | _ => none }
def stackNestsRow : OpenClaim := { program := "ytmaninacgfbecaagreat", sum := "6f1ab9721b89b38d5114d48dbfad5580b7d5ecea52f7707ba66b85f679ba2dfd", func := "wafer/waferlaw26.StackNests", spec := "stackNests", inPlace := ["internal/bytealg.IndexByteString", "internal/bytealg.IndexString"], unfollowed := true, recurses := true, named := ["internal/bytealg.MaxLen"], apart := false }
def StackNestsSaid : Prop := stackNestsRow.holds Tryz.pinned (OpenSpec.ofChange stackNestsSpec)

/-- ITS FALSE NEIGHBOUR: 'it returns false'. Refute it at one input. -/
def stackNestsWrong : ChangeSpec := { name := "stackNests", fn := fun _ => fun
  | [d1, d2, d3] => { results := [.lit (.bool false)], args := [d1, d2, d3] }
  | _ => none }
def StackNestsWrongFalsely : Prop := stackNestsRow.holds Tryz.pinned (OpenSpec.ofChange stackNestsWrong)

/- THE SECOND FORM. 'bulk': how many values and letters a reading holds, each counted each time it is reached (what is shared counts as often as it is met; a slice's spare places count too). A statement '..UptoSaid' is the law's where the arguments, and the package variables that the reading takes, are together of bulk at most 1048576: NARROWER than '..Said'. Prove '..Said' where nothing that the law and all that it calls make is longer than what came in: it says more and counts as full. Else prove '..UptoSaid'. A law counts once. -/
mutual
def uptoBulk {H : Type} : DataW H → Nat
  | .lit (.string bytes) => bytes.length + 1
  | .lit _ => 1
  | .nil => 1
  | .ptr d => uptoBulk d + 1
  | .slice elems spare => uptoBulkAll elems + uptoBulkAll spare + 1
  | .agg parts => uptoBulkAll parts + 1
  | .iface _ d => uptoBulk d + 1
  | .map entries => uptoBulkEntries entries + 1
  | .held _ => 1
def uptoBulkAll {H : Type} : List (DataW H) → Nat
  | [] => 0
  | d :: r => uptoBulk d + uptoBulkAll r
def uptoBulkEntries {H : Type} : List (Lit × DataW H) → Nat
  | [] => 0
  | x :: r => uptoBulkEntry x + uptoBulkEntries r
def uptoBulkEntry {H : Type} : Lit × DataW H → Nat
  | (.string bytes, d) => bytes.length + uptoBulk d + 1
  | (_, d) => uptoBulk d + 1
 end
def uptoSmall : (H : Type) → List (DataW H) → Bool := fun _ ds => decide (uptoBulkAll ds ≤ 1048576)
def OpenSpec.upto (s : _root_.Go.ChangeSpec) : _root_.Go.OpenSpec := { _root_.Go.OpenSpec.ofChange s with cond := some uptoSmall }

/-- 'waferlaw26.StackNumbers', WHERE WHAT IT READS IS OF BULK AT MOST 1048576: true; the input reads as it did. -/
def stackNumbersUptoRow : OpenClaim := { program := "ytmaninacgfbecaagreat", sum := "6f1ab9721b89b38d5114d48dbfad5580b7d5ecea52f7707ba66b85f679ba2dfd", func := "wafer/waferlaw26.StackNumbers", spec := "stackNumbers", inPlace := ["internal/bytealg.IndexByteString", "internal/bytealg.IndexString"], unfollowed := true, recurses := true, named := ["internal/bytealg.MaxLen"], apart := false, narrowed := true }
def StackNumbersUptoSaid : Prop := stackNumbersUptoRow.holds Tryz.pinned (OpenSpec.upto stackNumbersSpec)

/-- 'waferlaw26.StackLimits', WHERE WHAT IT READS IS OF BULK AT MOST 1048576: true; the input reads as it did. -/
def stackLimitsUptoRow : OpenClaim := { program := "ytmaninacgfbecaagreat", sum := "6f1ab9721b89b38d5114d48dbfad5580b7d5ecea52f7707ba66b85f679ba2dfd", func := "wafer/waferlaw26.StackLimits", spec := "stackLimits", inPlace := ["internal/bytealg.IndexByteString", "internal/bytealg.IndexString"], unfollowed := true, recurses := true, named := ["internal/bytealg.MaxLen"], apart := false, narrowed := true }
def StackLimitsUptoSaid : Prop := stackLimitsUptoRow.holds Tryz.pinned (OpenSpec.upto stackLimitsSpec)

/-- 'waferlaw26.StackLists', WHERE WHAT IT READS IS OF BULK AT MOST 1048576: true; the input reads as it did. -/
def stackListsUptoRow : OpenClaim := { program := "ytmaninacgfbecaagreat", sum := "6f1ab9721b89b38d5114d48dbfad5580b7d5ecea52f7707ba66b85f679ba2dfd", func := "wafer/waferlaw26.StackLists", spec := "stackLists", inPlace := ["internal/bytealg.IndexByteString", "internal/bytealg.IndexString"], unfollowed := true, recurses := true, named := ["internal/bytealg.MaxLen"], apart := false, narrowed := true }
def StackListsUptoSaid : Prop := stackListsUptoRow.holds Tryz.pinned (OpenSpec.upto stackListsSpec)

/-- 'waferlaw26.StackNests', WHERE WHAT IT READS IS OF BULK AT MOST 1048576: true; the input reads as it did. -/
def stackNestsUptoRow : OpenClaim := { program := "ytmaninacgfbecaagreat", sum := "6f1ab9721b89b38d5114d48dbfad5580b7d5ecea52f7707ba66b85f679ba2dfd", func := "wafer/waferlaw26.StackNests", spec := "stackNests", inPlace := ["internal/bytealg.IndexByteString", "internal/bytealg.IndexString"], unfollowed := true, recurses := true, named := ["internal/bytealg.MaxLen"], apart := false, narrowed := true }
def StackNestsUptoSaid : Prop := stackNestsUptoRow.holds Tryz.pinned (OpenSpec.upto stackNestsSpec)

end Rows
end Go.Proofs.YtmaninacgfbecaaGreat
