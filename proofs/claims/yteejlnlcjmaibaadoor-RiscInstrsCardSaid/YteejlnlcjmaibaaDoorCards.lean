/-
  DERIVED. GIVEN WITH THE SEED: THE CARDS: each row of YteejlnlcjmaibaaDoorRows.lean that lists a variable, with what it lists TIED to the program's text (the seventh form; the later family's looks); each row that meets fmt, with fmt's text TOLD by the authors' own Lean function (tested against real Go, not proved from fmt's source: count such statements apart). THE CARD IS WHAT COUNTS. Prove the row's statement (the work); the ties are given (YteejlnlcjmaibaaDoorTie.lean); close each card by the builder's one call (the guide's Derived/Test/ToyasCard.lean, 'card_holds'). Laid BY PROGRAM, IN A SANDBOX (cutbox-door.mjs). By AI agents, Wed Nov 11 2026. No macro, syntax, notation, axiom, sorry.
-/
import Derived.Test.YteejlnlcjmaibaaDoorRows
import GoSem.ClaimSeven
namespace Go.Proofs.YteejlnlcjmaibaaDoor
namespace Rows

/-- THE TIED CARD OF 'waferlaw5.RiscWords'. -/
def riscWordsCard : Claim7 := { stood := { row := riscWordsRow, standIns := [], harness := (true, "e34c008fb9372a902b23f40c5675e34c26ee42a7d0e56dd9cf81dc999c32ed25"), looks := false }, kinds := [], alts := [], laidByText := true, laidKinds := [.data, .data, .data, .listed, .data], laidTests := true, laidLooks := .later }
def RiscWordsCardSaid : Prop := Claim7.holds Tryd.pinned (.plain (OpenSpec.ofChange riscWordsSpec)) riscWordsCard

/-- THE TIED CARD OF 'waferlaw5.RiscInstrs'. -/
def riscInstrsCard : Claim7 := { stood := { row := riscInstrsRow, standIns := [], harness := (true, "e34c008fb9372a902b23f40c5675e34c26ee42a7d0e56dd9cf81dc999c32ed25"), looks := false }, kinds := [], alts := [], laidByText := true, laidKinds := [.data, .data, .data, .listed, .data], laidTests := true, laidLooks := .later }
def RiscInstrsCardSaid : Prop := Claim7.holds Tryd.pinned (.plain (OpenSpec.ofChange riscInstrsSpec)) riscInstrsCard

/-- THE SECOND FORM's CARD OF 'waferlaw5.RiscWords'. -/
def riscWordsUptoCard : Claim7 := { stood := { row := riscWordsUptoRow, standIns := [], harness := (true, "e34c008fb9372a902b23f40c5675e34c26ee42a7d0e56dd9cf81dc999c32ed25"), looks := false }, kinds := [], alts := [], laidByText := true, laidKinds := [.data, .data, .data, .listed, .data], laidTests := true, laidLooks := .later }
def RiscWordsUptoCardSaid : Prop := Claim7.holds Tryd.pinned (.plain (OpenSpec.upto riscWordsSpec)) riscWordsUptoCard

/-- THE SECOND FORM's CARD OF 'waferlaw5.RiscInstrs'. -/
def riscInstrsUptoCard : Claim7 := { stood := { row := riscInstrsUptoRow, standIns := [], harness := (true, "e34c008fb9372a902b23f40c5675e34c26ee42a7d0e56dd9cf81dc999c32ed25"), looks := false }, kinds := [], alts := [], laidByText := true, laidKinds := [.data, .data, .data, .listed, .data], laidTests := true, laidLooks := .later }
def RiscInstrsUptoCardSaid : Prop := Claim7.holds Tryd.pinned (.plain (OpenSpec.upto riscInstrsSpec)) riscInstrsUptoCard
end Rows
end Go.Proofs.YteejlnlcjmaibaaDoor
