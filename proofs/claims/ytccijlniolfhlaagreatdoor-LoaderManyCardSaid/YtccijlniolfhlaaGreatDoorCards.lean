/-
  DERIVED. GIVEN WITH THE SEED: THE CARDS: each row of YtccijlniolfhlaaGreatDoorRows.lean that lists a variable, with what it lists TIED to the program's text (the seventh form; the later family's looks); each row that meets fmt, with fmt's text TOLD by the authors' own Lean function (tested against real Go, not proved from fmt's source: count such statements apart). THE CARD IS WHAT COUNTS. Prove the row's statement (the work); the ties are given (YtccijlniolfhlaaGreatDoorTie.lean); close each card by the builder's one call (the guide's Derived/Test/ToyasCard.lean, 'card_holds'). Laid BY PROGRAM, IN A SANDBOX (cutbox-door.mjs). By AI agents, Wed Nov 11 2026. No macro, syntax, notation, axiom, sorry.
-/
import Derived.Test.YtccijlniolfhlaaGreatDoorRows
import GoSem.ClaimSeven
namespace Go.Proofs.YtccijlniolfhlaaGreatDoor
namespace Rows

/-- THE TIED CARD OF 'waferlaw27.LoaderMany'. -/
def loaderManyCard : Claim7 := { stood := { row := loaderManyRow, standIns := [], harness := (true, "98ab1070753efdce30710166c34c5516dc91141db32d39ec701ce556d03e0730"), looks := true }, kinds := [], alts := [], laidByText := true, laidKinds := [.data, .listed, .sentinel, .sentinel, .data, .data, .data, .pinned, .data, .pinned, .pinned, .pinned, .pinned, .pinned], laidTests := true, laidLooks := .later }
def LoaderManyCardSaid : Prop := Claim7.holds Tryz.pinned (.plain (OpenSpec.ofChange loaderManySpec)) loaderManyCard

/-- THE SECOND FORM's CARD OF 'waferlaw27.LoaderMany'. -/
def loaderManyUptoCard : Claim7 := { stood := { row := loaderManyUptoRow, standIns := [], harness := (true, "98ab1070753efdce30710166c34c5516dc91141db32d39ec701ce556d03e0730"), looks := true }, kinds := [], alts := [], laidByText := true, laidKinds := [.data, .listed, .sentinel, .sentinel, .data, .data, .data, .pinned, .data, .pinned, .pinned, .pinned, .pinned, .pinned], laidTests := true, laidLooks := .later }
def LoaderManyUptoCardSaid : Prop := Claim7.holds Tryz.pinned (.plain (OpenSpec.upto loaderManySpec)) loaderManyUptoCard
end Rows
end Go.Proofs.YtccijlniolfhlaaGreatDoor
