/-
  DERIVED. GIVEN WITH THE SEED: THE CARDS: each row of YtdimnhbfkogllaaGreatDoorRows.lean that lists a variable, with what it lists TIED to the program's text (the seventh form; the later family's looks); each row that meets fmt, with fmt's text TOLD by the authors' own Lean function (tested against real Go, not proved from fmt's source: count such statements apart). THE CARD IS WHAT COUNTS. Prove the row's statement (the work); the ties are given (YtdimnhbfkogllaaGreatDoorTie.lean); close each card by the builder's one call (the guide's Derived/Test/ToyasCard.lean, 'card_holds'). Laid BY PROGRAM, IN A SANDBOX (cutbox-door.mjs). By AI agents, Wed Nov 11 2026. No macro, syntax, notation, axiom, sorry.
-/
import Derived.Test.YtdimnhbfkogllaaGreatDoorRows
import GoSem.ClaimSeven
namespace Go.Proofs.YtdimnhbfkogllaaGreatDoor
namespace Rows

/-- THE TIED CARD OF 'waferlaw28.PlayAgrees'. -/
def playAgreesCard : Claim7 := { stood := { row := playAgreesRow, standIns := [], harness := (true, "7978021059dc9cc3f58d3b30fcab9d9f85c8ab8258ab42eacf9bbedba7cb4b49"), looks := true }, kinds := [], alts := [], laidByText := true, laidKinds := [.data, .listed, .sentinel, .sentinel, .data, .data, .data, .pinned, .data, .pinned, .pinned, .pinned, .pinned, .pinned], laidTests := true, laidLooks := .later }
def PlayAgreesCardSaid : Prop := Claim7.holds Tryz.pinned (.plain (OpenSpec.ofChange playAgreesSpec)) playAgreesCard

/-- THE TIED CARD OF 'waferlaw28.PlayEchoes'. -/
def playEchoesCard : Claim7 := { stood := { row := playEchoesRow, standIns := [], harness := (true, "7978021059dc9cc3f58d3b30fcab9d9f85c8ab8258ab42eacf9bbedba7cb4b49"), looks := true }, kinds := [], alts := [], laidByText := true, laidKinds := [.data, .listed, .sentinel, .sentinel, .data, .data, .data, .pinned, .data, .pinned, .pinned, .pinned, .pinned, .pinned], laidTests := true, laidLooks := .later }
def PlayEchoesCardSaid : Prop := Claim7.holds Tryz.pinned (.plain (OpenSpec.ofChange playEchoesSpec)) playEchoesCard

/-- THE SECOND FORM's CARD OF 'waferlaw28.PlayAgrees'. -/
def playAgreesUptoCard : Claim7 := { stood := { row := playAgreesUptoRow, standIns := [], harness := (true, "7978021059dc9cc3f58d3b30fcab9d9f85c8ab8258ab42eacf9bbedba7cb4b49"), looks := true }, kinds := [], alts := [], laidByText := true, laidKinds := [.data, .listed, .sentinel, .sentinel, .data, .data, .data, .pinned, .data, .pinned, .pinned, .pinned, .pinned, .pinned], laidTests := true, laidLooks := .later }
def PlayAgreesUptoCardSaid : Prop := Claim7.holds Tryz.pinned (.plain (OpenSpec.upto playAgreesSpec)) playAgreesUptoCard

/-- THE SECOND FORM's CARD OF 'waferlaw28.PlayEchoes'. -/
def playEchoesUptoCard : Claim7 := { stood := { row := playEchoesUptoRow, standIns := [], harness := (true, "7978021059dc9cc3f58d3b30fcab9d9f85c8ab8258ab42eacf9bbedba7cb4b49"), looks := true }, kinds := [], alts := [], laidByText := true, laidKinds := [.data, .listed, .sentinel, .sentinel, .data, .data, .data, .pinned, .data, .pinned, .pinned, .pinned, .pinned, .pinned], laidTests := true, laidLooks := .later }
def PlayEchoesUptoCardSaid : Prop := Claim7.holds Tryz.pinned (.plain (OpenSpec.upto playEchoesSpec)) playEchoesUptoCard
end Rows
end Go.Proofs.YtdimnhbfkogllaaGreatDoor
