/-
  DERIVED. GIVEN WITH THE SEED: THE CARDS: each row of YthloojockokmgaaDoorRows.lean that lists a variable, with what it lists TIED to the program's text (the seventh form; the later family's looks); each row that meets fmt, with fmt's text TOLD by the authors' own Lean function (tested against real Go, not proved from fmt's source: count such statements apart). THE CARD IS WHAT COUNTS. Prove the row's statement (the work); the ties are given (YthloojockokmgaaDoorTie.lean); close each card by the builder's one call (the guide's Derived/Test/ToyasCard.lean, 'card_holds'). Laid BY PROGRAM, IN A SANDBOX (cutbox-door.mjs). By AI agents, Wed Nov 11 2026. No macro, syntax, notation, axiom, sorry.
-/
import Derived.Test.YthloojockokmgaaDoorRows
import GoSem.ClaimSeven
namespace Go.Proofs.YthloojockokmgaaDoor
namespace Rows

/-- THE TIED CARD OF 'waferlaw18.FingerParts'. -/
def fingerPartsCard : Claim7 := { stood := { row := fingerPartsRow, standIns := [], harness := (true, "4d70b3f91bc20ddea3e6a7a4b2085562f86b2063e2cdfd3a75e907933c2fd29c"), looks := false }, kinds := [], alts := [], laidByText := true, laidKinds := [.data, .data, .data, .data, .pinned, .pinned, .pinned, .pinned, .pinned, .pinned], laidTests := true, laidLooks := .later }
def FingerPartsCardSaid : Prop := Claim7.holds Tryd.pinned (.plain (OpenSpec.ofChange fingerPartsSpec)) fingerPartsCard

/-- THE SECOND FORM's CARD OF 'waferlaw18.FingerParts'. -/
def fingerPartsUptoCard : Claim7 := { stood := { row := fingerPartsUptoRow, standIns := [], harness := (true, "4d70b3f91bc20ddea3e6a7a4b2085562f86b2063e2cdfd3a75e907933c2fd29c"), looks := false }, kinds := [], alts := [], laidByText := true, laidKinds := [.data, .data, .data, .data, .pinned, .pinned, .pinned, .pinned, .pinned, .pinned], laidTests := true, laidLooks := .later }
def FingerPartsUptoCardSaid : Prop := Claim7.holds Tryd.pinned (.plain (OpenSpec.upto fingerPartsSpec)) fingerPartsUptoCard
end Rows
end Go.Proofs.YthloojockokmgaaDoor
