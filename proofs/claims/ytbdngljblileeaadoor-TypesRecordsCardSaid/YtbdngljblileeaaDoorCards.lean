/-
  DERIVED. GIVEN WITH THE SEED: THE CARDS: each row of YtbdngljblileeaaDoorRows.lean that lists a variable, with what it lists TIED to the program's text (the seventh form; the later family's looks); each row that meets fmt, with fmt's text TOLD by the authors' own Lean function (tested against real Go, not proved from fmt's source: count such statements apart). THE CARD IS WHAT COUNTS. Prove the row's statement (the work); the ties are given (YtbdngljblileeaaDoorTie.lean); close each card by the builder's one call (the guide's Derived/Test/ToyasCard.lean, 'card_holds'). Laid BY PROGRAM, IN A SANDBOX (cutbox-door.mjs). By AI agents, Wed Nov 11 2026. No macro, syntax, notation, axiom, sorry.
-/
import Derived.Test.YtbdngljblileeaaDoorRows
import GoSem.ClaimSeven
namespace Go.Proofs.YtbdngljblileeaaDoor
namespace Rows

/-- THE TIED CARD OF 'waferlaw12.TypesRecords'. -/
def typesRecordsCard : Claim7 := { stood := { row := typesRecordsRow, standIns := [], harness := (true, "37d613130fb19a26ec21bb05b5555d75bd01524fffc68a182c72431600b71550"), looks := false }, kinds := [], alts := [], laidByText := true, laidKinds := [.data, .data, .data], laidTests := true, laidLooks := .later }
def TypesRecordsCardSaid : Prop := Claim7.holds Tryd.pinned (.plain (OpenSpec.ofChange typesRecordsSpec)) typesRecordsCard

/-- THE TIED CARD OF 'waferlaw12.TypesFit'. -/
def typesFitCard : Claim7 := { stood := { row := typesFitRow, standIns := [], harness := (true, "37d613130fb19a26ec21bb05b5555d75bd01524fffc68a182c72431600b71550"), looks := false }, kinds := [], alts := [], laidByText := true, laidKinds := [.data, .data, .data], laidTests := true, laidLooks := .later }
def TypesFitCardSaid : Prop := Claim7.holds Tryd.pinned (.plain (OpenSpec.ofChange typesFitSpec)) typesFitCard

/-- THE TIED CARD OF 'waferlaw12.TypesChain'. -/
def typesChainCard : Claim7 := { stood := { row := typesChainRow, standIns := [], harness := (true, "37d613130fb19a26ec21bb05b5555d75bd01524fffc68a182c72431600b71550"), looks := false }, kinds := [], alts := [], laidByText := true, laidKinds := [.data, .data, .data], laidTests := true, laidLooks := .later }
def TypesChainCardSaid : Prop := Claim7.holds Tryd.pinned (.plain (OpenSpec.ofChange typesChainSpec)) typesChainCard

/-- THE TIED CARD OF 'waferlaw12.TypesGreat'. -/
def typesGreatCard : Claim7 := { stood := { row := typesGreatRow, standIns := [], harness := (true, "37d613130fb19a26ec21bb05b5555d75bd01524fffc68a182c72431600b71550"), looks := false }, kinds := [], alts := [], laidByText := true, laidKinds := [.data, .data, .data], laidTests := true, laidLooks := .later }
def TypesGreatCardSaid : Prop := Claim7.holds Tryd.pinned (.plain (OpenSpec.ofChange typesGreatSpec)) typesGreatCard

/-- THE SECOND FORM's CARD OF 'waferlaw12.TypesRecords'. -/
def typesRecordsUptoCard : Claim7 := { stood := { row := typesRecordsUptoRow, standIns := [], harness := (true, "37d613130fb19a26ec21bb05b5555d75bd01524fffc68a182c72431600b71550"), looks := false }, kinds := [], alts := [], laidByText := true, laidKinds := [.data, .data, .data], laidTests := true, laidLooks := .later }
def TypesRecordsUptoCardSaid : Prop := Claim7.holds Tryd.pinned (.plain (OpenSpec.upto typesRecordsSpec)) typesRecordsUptoCard

/-- THE SECOND FORM's CARD OF 'waferlaw12.TypesFit'. -/
def typesFitUptoCard : Claim7 := { stood := { row := typesFitUptoRow, standIns := [], harness := (true, "37d613130fb19a26ec21bb05b5555d75bd01524fffc68a182c72431600b71550"), looks := false }, kinds := [], alts := [], laidByText := true, laidKinds := [.data, .data, .data], laidTests := true, laidLooks := .later }
def TypesFitUptoCardSaid : Prop := Claim7.holds Tryd.pinned (.plain (OpenSpec.upto typesFitSpec)) typesFitUptoCard

/-- THE SECOND FORM's CARD OF 'waferlaw12.TypesChain'. -/
def typesChainUptoCard : Claim7 := { stood := { row := typesChainUptoRow, standIns := [], harness := (true, "37d613130fb19a26ec21bb05b5555d75bd01524fffc68a182c72431600b71550"), looks := false }, kinds := [], alts := [], laidByText := true, laidKinds := [.data, .data, .data], laidTests := true, laidLooks := .later }
def TypesChainUptoCardSaid : Prop := Claim7.holds Tryd.pinned (.plain (OpenSpec.upto typesChainSpec)) typesChainUptoCard

/-- THE SECOND FORM's CARD OF 'waferlaw12.TypesGreat'. -/
def typesGreatUptoCard : Claim7 := { stood := { row := typesGreatUptoRow, standIns := [], harness := (true, "37d613130fb19a26ec21bb05b5555d75bd01524fffc68a182c72431600b71550"), looks := false }, kinds := [], alts := [], laidByText := true, laidKinds := [.data, .data, .data], laidTests := true, laidLooks := .later }
def TypesGreatUptoCardSaid : Prop := Claim7.holds Tryd.pinned (.plain (OpenSpec.upto typesGreatSpec)) typesGreatUptoCard
end Rows
end Go.Proofs.YtbdngljblileeaaDoor
