/-
  No cell of these rows narrows 'for every input' (looked for: loops, veiled, ifaces, maps, wideKeys, modest, calm, conditions, laid).
  DERIVED. THE GIVEN ROWS OF THIS SEAT. 4 by the template 'for every input the law returns true; each argument reads behind the call as it read before'; 0 by the template 'total and deterministic' (their statements: YtfgmbblhhmeefaaGreatTotals.lean).
  GIVEN WITH THE SEED: the statements are not yours to turn. If you find one false, say at which input.
  Laid BY PROGRAM, IN A SANDBOX (cutbox-rows.mjs): the forced cells as the released guide's own fill.sh prints them over the translation ffccedb52bab9932… (all of the seat's roots in one cut). By AI agents, Wed Nov 11 2026. No macro, syntax, notation, axiom, sorry.
-/
import Derived.Test.YtfgmbblhhmeefaaGreatChecked
import GoSem.Claim
import GoSem.ClaimJoined
import GoSem.ClaimMapViews
import Derived.JoinedTies
import Derived.KernelRfl
namespace Go.Proofs.YtfgmbblhhmeefaaGreat
/- THE CELL 'sum', in the pinned program and in every row, IS THE sha256 OF THE DUMP (.gsa) THAT YtfgmbblhhmeefaaGreatProg.lean LOADS. Nothing in Lean hashes anything: it is a label: what it is worth is what the hold of that sum in a sandbox is worth. -/
noncomputable def Tryz.pinned : Pinned := { name := "ytfgmbblhhmeefaagreat", sum := "ffccedb52bab99327a226cdf7298802fa3b5e7bc10fc985824c9251ca5ec5bda", checked := Tryz.checked }
namespace Rows
def none {H : Type} : Left H := { results := [], args := [] }

/-- 'waferlaw25.RiscNumbers': WHATEVER THE INPUT: true; the input reads as it did. -/
def riscNumbersSpec : ChangeSpec := { name := "riscNumbers", fn := fun _ => fun
  | [d1, d2] => { results := [.lit (.bool true)], args := [d1, d2] }
  | _ => none }
def riscNumbersRow : OpenClaim := { program := "ytfgmbblhhmeefaagreat", sum := "ffccedb52bab99327a226cdf7298802fa3b5e7bc10fc985824c9251ca5ec5bda", func := "wafer/waferlaw25.RiscNumbers", spec := "riscNumbers", inPlace := ["internal/bytealg.IndexByteString", "internal/bytealg.IndexString"], unfollowed := true, recurses := true, named := ["internal/bytealg.MaxLen"], apart := false }
def RiscNumbersSaid : Prop := riscNumbersRow.holds Tryz.pinned (OpenSpec.ofChange riscNumbersSpec)

/-- ITS FALSE NEIGHBOUR: 'it returns false'. Refute it at one input. -/
def riscNumbersWrong : ChangeSpec := { name := "riscNumbers", fn := fun _ => fun
  | [d1, d2] => { results := [.lit (.bool false)], args := [d1, d2] }
  | _ => none }
def RiscNumbersWrongFalsely : Prop := riscNumbersRow.holds Tryz.pinned (OpenSpec.ofChange riscNumbersWrong)

/-- 'waferlaw25.RiscLimits': WHATEVER THE INPUT: true; the input reads as it did. -/
def riscLimitsSpec : ChangeSpec := { name := "riscLimits", fn := fun _ => fun
  | [d1, d2] => { results := [.lit (.bool true)], args := [d1, d2] }
  | _ => none }
def riscLimitsRow : OpenClaim := { program := "ytfgmbblhhmeefaagreat", sum := "ffccedb52bab99327a226cdf7298802fa3b5e7bc10fc985824c9251ca5ec5bda", func := "wafer/waferlaw25.RiscLimits", spec := "riscLimits", inPlace := ["internal/bytealg.IndexByteString", "internal/bytealg.IndexString"], unfollowed := true, recurses := true, named := ["internal/bytealg.MaxLen"], apart := false }
def RiscLimitsSaid : Prop := riscLimitsRow.holds Tryz.pinned (OpenSpec.ofChange riscLimitsSpec)

/-- ITS FALSE NEIGHBOUR: 'it returns false'. Refute it at one input. -/
def riscLimitsWrong : ChangeSpec := { name := "riscLimits", fn := fun _ => fun
  | [d1, d2] => { results := [.lit (.bool false)], args := [d1, d2] }
  | _ => none }
def RiscLimitsWrongFalsely : Prop := riscLimitsRow.holds Tryz.pinned (OpenSpec.ofChange riscLimitsWrong)

/-- 'waferlaw25.RiscLists': WHATEVER THE INPUT: true; the input reads as it did. -/
def riscListsSpec : ChangeSpec := { name := "riscLists", fn := fun _ => fun
  | [d1, d2] => { results := [.lit (.bool true)], args := [d1, d2] }
  | _ => none }
def riscListsRow : OpenClaim := { program := "ytfgmbblhhmeefaagreat", sum := "ffccedb52bab99327a226cdf7298802fa3b5e7bc10fc985824c9251ca5ec5bda", func := "wafer/waferlaw25.RiscLists", spec := "riscLists", inPlace := ["internal/bytealg.IndexByteString", "internal/bytealg.IndexString"], unfollowed := true, recurses := true, named := ["internal/bytealg.MaxLen"], apart := false }
def RiscListsSaid : Prop := riscListsRow.holds Tryz.pinned (OpenSpec.ofChange riscListsSpec)

/-- ITS FALSE NEIGHBOUR: 'it returns false'. Refute it at one input. -/
def riscListsWrong : ChangeSpec := { name := "riscLists", fn := fun _ => fun
  | [d1, d2] => { results := [.lit (.bool false)], args := [d1, d2] }
  | _ => none }
def RiscListsWrongFalsely : Prop := riscListsRow.holds Tryz.pinned (OpenSpec.ofChange riscListsWrong)

/-- 'waferlaw25.RiscNests': WHATEVER THE INPUT: true; the input reads as it did. -/
def riscNestsSpec : ChangeSpec := { name := "riscNests", fn := fun _ => fun
  | [d1, d2, d3] => { results := [.lit (.bool true)], args := [d1, d2, d3] }
  | _ => none }
def riscNestsRow : OpenClaim := { program := "ytfgmbblhhmeefaagreat", sum := "ffccedb52bab99327a226cdf7298802fa3b5e7bc10fc985824c9251ca5ec5bda", func := "wafer/waferlaw25.RiscNests", spec := "riscNests", inPlace := ["internal/bytealg.IndexByteString", "internal/bytealg.IndexString"], unfollowed := true, recurses := true, named := ["internal/bytealg.MaxLen"], apart := false }
def RiscNestsSaid : Prop := riscNestsRow.holds Tryz.pinned (OpenSpec.ofChange riscNestsSpec)

/-- ITS FALSE NEIGHBOUR: 'it returns false'. Refute it at one input. -/
def riscNestsWrong : ChangeSpec := { name := "riscNests", fn := fun _ => fun
  | [d1, d2, d3] => { results := [.lit (.bool false)], args := [d1, d2, d3] }
  | _ => none }
def RiscNestsWrongFalsely : Prop := riscNestsRow.holds Tryz.pinned (OpenSpec.ofChange riscNestsWrong)

/- THE SECOND FORM. 'bulk': how many values and letters a reading holds, each counted each time it is reached (what is shared counts as often as it is met; a slice's spare places count too). A statement '..UptoSaid' is the law's where the arguments, and the package variables that the reading takes, are together of bulk at most 1048576: NARROWER than '..Said'. Prove '..Said' where nothing that the law and all that it calls make is longer than what came in: it says more and counts as full. Else prove '..UptoSaid'. A law counts once. -/
mutual
def uptoBulk {H : Type} : DataW H → Nat
  | .lit (.string bytes) => bytes.length + 1
  | .lit _ => 1
  | .nil => 1
  | .ptr d => uptoBulk d + 1
  | .slice elems spare => uptoBulkAll elems + uptoBulkAll spare + 1
  | .agg parts => uptoBulkAll parts + 1
  | .iface _ d => uptoBulk d + 1
  | .map entries => uptoBulkEntries entries + 1
  | .held _ => 1
def uptoBulkAll {H : Type} : List (DataW H) → Nat
  | [] => 0
  | d :: r => uptoBulk d + uptoBulkAll r
def uptoBulkEntries {H : Type} : List (Lit × DataW H) → Nat
  | [] => 0
  | x :: r => uptoBulkEntry x + uptoBulkEntries r
def uptoBulkEntry {H : Type} : Lit × DataW H → Nat
  | (.string bytes, d) => bytes.length + uptoBulk d + 1
  | (_, d) => uptoBulk d + 1
 end
def uptoSmall : (H : Type) → List (DataW H) → Bool := fun _ ds => decide (uptoBulkAll ds ≤ 1048576)
def OpenSpec.upto (s : _root_.Go.ChangeSpec) : _root_.Go.OpenSpec := { _root_.Go.OpenSpec.ofChange s with cond := some uptoSmall }

/-- 'waferlaw25.RiscNumbers', WHERE WHAT IT READS IS OF BULK AT MOST 1048576: true; the input reads as it did. -/
def riscNumbersUptoRow : OpenClaim := { program := "ytfgmbblhhmeefaagreat", sum := "ffccedb52bab99327a226cdf7298802fa3b5e7bc10fc985824c9251ca5ec5bda", func := "wafer/waferlaw25.RiscNumbers", spec := "riscNumbers", inPlace := ["internal/bytealg.IndexByteString", "internal/bytealg.IndexString"], unfollowed := true, recurses := true, named := ["internal/bytealg.MaxLen"], apart := false, narrowed := true }
def RiscNumbersUptoSaid : Prop := riscNumbersUptoRow.holds Tryz.pinned (OpenSpec.upto riscNumbersSpec)

/-- 'waferlaw25.RiscLimits', WHERE WHAT IT READS IS OF BULK AT MOST 1048576: true; the input reads as it did. -/
def riscLimitsUptoRow : OpenClaim := { program := "ytfgmbblhhmeefaagreat", sum := "ffccedb52bab99327a226cdf7298802fa3b5e7bc10fc985824c9251ca5ec5bda", func := "wafer/waferlaw25.RiscLimits", spec := "riscLimits", inPlace := ["internal/bytealg.IndexByteString", "internal/bytealg.IndexString"], unfollowed := true, recurses := true, named := ["internal/bytealg.MaxLen"], apart := false, narrowed := true }
def RiscLimitsUptoSaid : Prop := riscLimitsUptoRow.holds Tryz.pinned (OpenSpec.upto riscLimitsSpec)

/-- 'waferlaw25.RiscLists', WHERE WHAT IT READS IS OF BULK AT MOST 1048576: true; the input reads as it did. -/
def riscListsUptoRow : OpenClaim := { program := "ytfgmbblhhmeefaagreat", sum := "ffccedb52bab99327a226cdf7298802fa3b5e7bc10fc985824c9251ca5ec5bda", func := "wafer/waferlaw25.RiscLists", spec := "riscLists", inPlace := ["internal/bytealg.IndexByteString", "internal/bytealg.IndexString"], unfollowed := true, recurses := true, named := ["internal/bytealg.MaxLen"], apart := false, narrowed := true }
def RiscListsUptoSaid : Prop := riscListsUptoRow.holds Tryz.pinned (OpenSpec.upto riscListsSpec)

/-- 'waferlaw25.RiscNests', WHERE WHAT IT READS IS OF BULK AT MOST 1048576: true; the input reads as it did. -/
def riscNestsUptoRow : OpenClaim := { program := "ytfgmbblhhmeefaagreat", sum := "ffccedb52bab99327a226cdf7298802fa3b5e7bc10fc985824c9251ca5ec5bda", func := "wafer/waferlaw25.RiscNests", spec := "riscNests", inPlace := ["internal/bytealg.IndexByteString", "internal/bytealg.IndexString"], unfollowed := true, recurses := true, named := ["internal/bytealg.MaxLen"], apart := false, narrowed := true }
def RiscNestsUptoSaid : Prop := riscNestsUptoRow.holds Tryz.pinned (OpenSpec.upto riscNestsSpec)

end Rows
end Go.Proofs.YtfgmbblhhmeefaaGreat
