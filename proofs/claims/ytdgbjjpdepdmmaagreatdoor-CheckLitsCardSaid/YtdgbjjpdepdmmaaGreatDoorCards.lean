/-
  DERIVED. GIVEN WITH THE SEED: THE CARDS: each row of YtdgbjjpdepdmmaaGreatDoorRows.lean that lists a variable, with what it lists TIED to the program's text (the seventh form; the later family's looks); each row that meets fmt, with fmt's text TOLD by the authors' own Lean function (tested against real Go, not proved from fmt's source: count such statements apart). THE CARD IS WHAT COUNTS. Prove the row's statement (the work); the ties are given (YtdgbjjpdepdmmaaGreatDoorTie.lean); close each card by the builder's one call (the guide's Derived/Test/ToyasCard.lean, 'card_holds'). Laid BY PROGRAM, IN A SANDBOX (cutbox-door.mjs). By AI agents, Wed Nov 11 2026. No macro, syntax, notation, axiom, sorry.
-/
import Derived.Test.YtdgbjjpdepdmmaaGreatDoorRows
import GoSem.ClaimSeven
namespace Go.Proofs.YtdgbjjpdepdmmaaGreatDoor
namespace Rows

/-- THE TIED CARD OF 'waferlaw17.CheckTells'. -/
def checkTellsCard : Claim7 := { stood := { row := checkTellsRow, standIns := [], harness := (true, "066090d40b5ca4528f4e6c76a85cdc8280c092a729256a414a925df92bbe6997"), looks := true }, kinds := [], alts := [], laidByText := true, laidKinds := [.data, .data, .data, .sentinel, .sentinel, .listed, .data], laidTests := true, laidLooks := .later }
def CheckTellsCardSaid : Prop := Claim7.holds Tryz.pinned (.plain (OpenSpec.ofChange checkTellsSpec)) checkTellsCard

/-- THE TIED CARD OF 'waferlaw17.CheckIdents'. -/
def checkIdentsCard : Claim7 := { stood := { row := checkIdentsRow, standIns := [], harness := (true, "066090d40b5ca4528f4e6c76a85cdc8280c092a729256a414a925df92bbe6997"), looks := true }, kinds := [], alts := [], laidByText := true, laidKinds := [.data, .data, .data, .sentinel, .sentinel, .listed, .data], laidTests := true, laidLooks := .later }
def CheckIdentsCardSaid : Prop := Claim7.holds Tryz.pinned (.plain (OpenSpec.ofChange checkIdentsSpec)) checkIdentsCard

/-- THE TIED CARD OF 'waferlaw17.CheckLits'. -/
def checkLitsCard : Claim7 := { stood := { row := checkLitsRow, standIns := [], harness := (true, "066090d40b5ca4528f4e6c76a85cdc8280c092a729256a414a925df92bbe6997"), looks := true }, kinds := [], alts := [], laidByText := true, laidKinds := [.data, .data, .data, .sentinel, .sentinel, .listed, .data], laidTests := true, laidLooks := .later }
def CheckLitsCardSaid : Prop := Claim7.holds Tryz.pinned (.plain (OpenSpec.ofChange checkLitsSpec)) checkLitsCard

/-- THE TIED CARD OF 'waferlaw17.CheckNames'. -/
def checkNamesCard : Claim7 := { stood := { row := checkNamesRow, standIns := [], harness := (true, "066090d40b5ca4528f4e6c76a85cdc8280c092a729256a414a925df92bbe6997"), looks := true }, kinds := [], alts := [], laidByText := true, laidKinds := [.data, .data, .data, .sentinel, .sentinel, .listed, .data], laidTests := true, laidLooks := .later }
def CheckNamesCardSaid : Prop := Claim7.holds Tryz.pinned (.plain (OpenSpec.ofChange checkNamesSpec)) checkNamesCard

/-- THE TIED CARD OF 'waferlaw17.CheckMods'. -/
def checkModsCard : Claim7 := { stood := { row := checkModsRow, standIns := [], harness := (true, "066090d40b5ca4528f4e6c76a85cdc8280c092a729256a414a925df92bbe6997"), looks := true }, kinds := [], alts := [], laidByText := true, laidKinds := [.data, .data, .data, .sentinel, .sentinel, .listed, .data], laidTests := true, laidLooks := .later }
def CheckModsCardSaid : Prop := Claim7.holds Tryz.pinned (.plain (OpenSpec.ofChange checkModsSpec)) checkModsCard

/-- THE SECOND FORM's CARD OF 'waferlaw17.CheckTells'. -/
def checkTellsUptoCard : Claim7 := { stood := { row := checkTellsUptoRow, standIns := [], harness := (true, "066090d40b5ca4528f4e6c76a85cdc8280c092a729256a414a925df92bbe6997"), looks := true }, kinds := [], alts := [], laidByText := true, laidKinds := [.data, .data, .data, .sentinel, .sentinel, .listed, .data], laidTests := true, laidLooks := .later }
def CheckTellsUptoCardSaid : Prop := Claim7.holds Tryz.pinned (.plain (OpenSpec.upto checkTellsSpec)) checkTellsUptoCard

/-- THE SECOND FORM's CARD OF 'waferlaw17.CheckIdents'. -/
def checkIdentsUptoCard : Claim7 := { stood := { row := checkIdentsUptoRow, standIns := [], harness := (true, "066090d40b5ca4528f4e6c76a85cdc8280c092a729256a414a925df92bbe6997"), looks := true }, kinds := [], alts := [], laidByText := true, laidKinds := [.data, .data, .data, .sentinel, .sentinel, .listed, .data], laidTests := true, laidLooks := .later }
def CheckIdentsUptoCardSaid : Prop := Claim7.holds Tryz.pinned (.plain (OpenSpec.upto checkIdentsSpec)) checkIdentsUptoCard

/-- THE SECOND FORM's CARD OF 'waferlaw17.CheckLits'. -/
def checkLitsUptoCard : Claim7 := { stood := { row := checkLitsUptoRow, standIns := [], harness := (true, "066090d40b5ca4528f4e6c76a85cdc8280c092a729256a414a925df92bbe6997"), looks := true }, kinds := [], alts := [], laidByText := true, laidKinds := [.data, .data, .data, .sentinel, .sentinel, .listed, .data], laidTests := true, laidLooks := .later }
def CheckLitsUptoCardSaid : Prop := Claim7.holds Tryz.pinned (.plain (OpenSpec.upto checkLitsSpec)) checkLitsUptoCard

/-- THE SECOND FORM's CARD OF 'waferlaw17.CheckNames'. -/
def checkNamesUptoCard : Claim7 := { stood := { row := checkNamesUptoRow, standIns := [], harness := (true, "066090d40b5ca4528f4e6c76a85cdc8280c092a729256a414a925df92bbe6997"), looks := true }, kinds := [], alts := [], laidByText := true, laidKinds := [.data, .data, .data, .sentinel, .sentinel, .listed, .data], laidTests := true, laidLooks := .later }
def CheckNamesUptoCardSaid : Prop := Claim7.holds Tryz.pinned (.plain (OpenSpec.upto checkNamesSpec)) checkNamesUptoCard

/-- THE SECOND FORM's CARD OF 'waferlaw17.CheckMods'. -/
def checkModsUptoCard : Claim7 := { stood := { row := checkModsUptoRow, standIns := [], harness := (true, "066090d40b5ca4528f4e6c76a85cdc8280c092a729256a414a925df92bbe6997"), looks := true }, kinds := [], alts := [], laidByText := true, laidKinds := [.data, .data, .data, .sentinel, .sentinel, .listed, .data], laidTests := true, laidLooks := .later }
def CheckModsUptoCardSaid : Prop := Claim7.holds Tryz.pinned (.plain (OpenSpec.upto checkModsSpec)) checkModsUptoCard
end Rows
end Go.Proofs.YtdgbjjpdepdmmaaGreatDoor
