/-
  DERIVED. GIVEN WITH THE SEED: THE CARDS: each row of YtanpgonfloohoaaGreatDoorRows.lean that lists a variable, with what it lists TIED to the program's text (the seventh form; the later family's looks); each row that meets fmt, with fmt's text TOLD by the authors' own Lean function (tested against real Go, not proved from fmt's source: count such statements apart). THE CARD IS WHAT COUNTS. Prove the row's statement (the work); the ties are given (YtanpgonfloohoaaGreatDoorTie.lean); close each card by the builder's one call (the guide's Derived/Test/ToyasCard.lean, 'card_holds'). Laid BY PROGRAM, IN A SANDBOX (cutbox-door.mjs). By AI agents, Wed Nov 11 2026. No macro, syntax, notation, axiom, sorry.
-/
import Derived.Test.YtanpgonfloohoaaGreatDoorRows
import GoSem.ClaimSeven
namespace Go.Proofs.YtanpgonfloohoaaGreatDoor
namespace Rows

/-- THE TIED CARD OF 'waferlaw16.FrontNests'. -/
def frontNestsCard : Claim7 := { stood := { row := frontNestsRow, standIns := [], harness := (true, "a7e4a4da2b80d0177256ea7c07f94a7cfe3cd3c7f76fc2b2e6bcf3c51bcbf2c4"), looks := true }, kinds := [], alts := [], laidByText := true, laidKinds := [.data, .listed, .sentinel, .sentinel, .data, .data, .data], laidTests := true, laidLooks := .later }
def FrontNestsCardSaid : Prop := Claim7.holds Tryz.pinned (.plain (OpenSpec.ofChange frontNestsSpec)) frontNestsCard

/-- THE TIED CARD OF 'waferlaw16.FrontExports'. -/
def frontExportsCard : Claim7 := { stood := { row := frontExportsRow, standIns := [], harness := (true, "a7e4a4da2b80d0177256ea7c07f94a7cfe3cd3c7f76fc2b2e6bcf3c51bcbf2c4"), looks := true }, kinds := [], alts := [], laidByText := true, laidKinds := [.data, .listed, .sentinel, .sentinel, .data, .data, .data], laidTests := true, laidLooks := .later }
def FrontExportsCardSaid : Prop := Claim7.holds Tryz.pinned (.plain (OpenSpec.ofChange frontExportsSpec)) frontExportsCard

/-- THE TIED CARD OF 'waferlaw16.FrontScopes'. -/
def frontScopesCard : Claim7 := { stood := { row := frontScopesRow, standIns := [], harness := (true, "a7e4a4da2b80d0177256ea7c07f94a7cfe3cd3c7f76fc2b2e6bcf3c51bcbf2c4"), looks := true }, kinds := [], alts := [], laidByText := true, laidKinds := [.data, .listed, .sentinel, .sentinel, .data, .data, .data], laidTests := true, laidLooks := .later }
def FrontScopesCardSaid : Prop := Claim7.holds Tryz.pinned (.plain (OpenSpec.ofChange frontScopesSpec)) frontScopesCard

/-- THE TIED CARD OF 'waferlaw16.FrontAssigns'. -/
def frontAssignsCard : Claim7 := { stood := { row := frontAssignsRow, standIns := [], harness := (true, "a7e4a4da2b80d0177256ea7c07f94a7cfe3cd3c7f76fc2b2e6bcf3c51bcbf2c4"), looks := true }, kinds := [], alts := [], laidByText := true, laidKinds := [.data, .listed, .sentinel, .sentinel, .data, .data, .data], laidTests := true, laidLooks := .later }
def FrontAssignsCardSaid : Prop := Claim7.holds Tryz.pinned (.plain (OpenSpec.ofChange frontAssignsSpec)) frontAssignsCard

/-- THE SECOND FORM's CARD OF 'waferlaw16.FrontNests'. -/
def frontNestsUptoCard : Claim7 := { stood := { row := frontNestsUptoRow, standIns := [], harness := (true, "a7e4a4da2b80d0177256ea7c07f94a7cfe3cd3c7f76fc2b2e6bcf3c51bcbf2c4"), looks := true }, kinds := [], alts := [], laidByText := true, laidKinds := [.data, .listed, .sentinel, .sentinel, .data, .data, .data], laidTests := true, laidLooks := .later }
def FrontNestsUptoCardSaid : Prop := Claim7.holds Tryz.pinned (.plain (OpenSpec.upto frontNestsSpec)) frontNestsUptoCard

/-- THE SECOND FORM's CARD OF 'waferlaw16.FrontExports'. -/
def frontExportsUptoCard : Claim7 := { stood := { row := frontExportsUptoRow, standIns := [], harness := (true, "a7e4a4da2b80d0177256ea7c07f94a7cfe3cd3c7f76fc2b2e6bcf3c51bcbf2c4"), looks := true }, kinds := [], alts := [], laidByText := true, laidKinds := [.data, .listed, .sentinel, .sentinel, .data, .data, .data], laidTests := true, laidLooks := .later }
def FrontExportsUptoCardSaid : Prop := Claim7.holds Tryz.pinned (.plain (OpenSpec.upto frontExportsSpec)) frontExportsUptoCard

/-- THE SECOND FORM's CARD OF 'waferlaw16.FrontScopes'. -/
def frontScopesUptoCard : Claim7 := { stood := { row := frontScopesUptoRow, standIns := [], harness := (true, "a7e4a4da2b80d0177256ea7c07f94a7cfe3cd3c7f76fc2b2e6bcf3c51bcbf2c4"), looks := true }, kinds := [], alts := [], laidByText := true, laidKinds := [.data, .listed, .sentinel, .sentinel, .data, .data, .data], laidTests := true, laidLooks := .later }
def FrontScopesUptoCardSaid : Prop := Claim7.holds Tryz.pinned (.plain (OpenSpec.upto frontScopesSpec)) frontScopesUptoCard

/-- THE SECOND FORM's CARD OF 'waferlaw16.FrontAssigns'. -/
def frontAssignsUptoCard : Claim7 := { stood := { row := frontAssignsUptoRow, standIns := [], harness := (true, "a7e4a4da2b80d0177256ea7c07f94a7cfe3cd3c7f76fc2b2e6bcf3c51bcbf2c4"), looks := true }, kinds := [], alts := [], laidByText := true, laidKinds := [.data, .listed, .sentinel, .sentinel, .data, .data, .data], laidTests := true, laidLooks := .later }
def FrontAssignsUptoCardSaid : Prop := Claim7.holds Tryz.pinned (.plain (OpenSpec.upto frontAssignsSpec)) frontAssignsUptoCard
end Rows
end Go.Proofs.YtanpgonfloohoaaGreatDoor
