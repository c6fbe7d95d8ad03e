/-
  DERIVED. GIVEN WITH THE SEED: THE CARDS: each row of YthaolbkjkigllaaDoorRows.lean that lists a variable, with what it lists TIED to the program's text (the seventh form; the later family's looks); each row that meets fmt, with fmt's text TOLD by the authors' own Lean function (tested against real Go, not proved from fmt's source: count such statements apart). THE CARD IS WHAT COUNTS. Prove the row's statement (the work); the ties are given (YthaolbkjkigllaaDoorTie.lean); close each card by the builder's one call (the guide's Derived/Test/ToyasCard.lean, 'card_holds'). Laid BY PROGRAM, IN A SANDBOX (cutbox-door.mjs). By AI agents, Wed Nov 11 2026. No macro, syntax, notation, axiom, sorry.
-/
import Derived.Test.YthaolbkjkigllaaDoorRows
import GoSem.ClaimSeven
namespace Go.Proofs.YthaolbkjkigllaaDoor
namespace Rows

/-- THE TIED CARD OF 'waferlaw11.ScanTells'. -/
def scanTellsCard : Claim7 := { stood := { row := scanTellsRow, standIns := [], harness := (true, "e351c23868288d94165b0e87f56eb21fe56fca6b2d4d625c0c644e60d0a1fe4b"), looks := true }, kinds := [], alts := [], laidByText := true, laidKinds := [.data, .data, .data, .sentinel, .sentinel, .listed, .data], laidTests := true, laidLooks := .later }
def ScanTellsCardSaid : Prop := Claim7.holds Tryd.pinned (.plain (OpenSpec.ofChange scanTellsSpec)) scanTellsCard

/-- THE TIED CARD OF 'waferlaw11.ScanNumbers'. -/
def scanNumbersCard : Claim7 := { stood := { row := scanNumbersRow, standIns := [], harness := (true, "e351c23868288d94165b0e87f56eb21fe56fca6b2d4d625c0c644e60d0a1fe4b"), looks := true }, kinds := [], alts := [], laidByText := true, laidKinds := [.data, .data, .data, .sentinel, .sentinel, .listed, .data], laidTests := true, laidLooks := .later }
def ScanNumbersCardSaid : Prop := Claim7.holds Tryd.pinned (.plain (OpenSpec.ofChange scanNumbersSpec)) scanNumbersCard

/-- THE TIED CARD OF 'waferlaw11.ScanBlanks'. -/
def scanBlanksCard : Claim7 := { stood := { row := scanBlanksRow, standIns := [], harness := (true, "e351c23868288d94165b0e87f56eb21fe56fca6b2d4d625c0c644e60d0a1fe4b"), looks := true }, kinds := [], alts := [], laidByText := true, laidKinds := [.data, .data, .data, .sentinel, .sentinel, .listed, .data], laidTests := true, laidLooks := .later }
def ScanBlanksCardSaid : Prop := Claim7.holds Tryd.pinned (.plain (OpenSpec.ofChange scanBlanksSpec)) scanBlanksCard

/-- THE TIED CARD OF 'waferlaw11.ScanLimits'. -/
def scanLimitsCard : Claim7 := { stood := { row := scanLimitsRow, standIns := [], harness := (true, "e351c23868288d94165b0e87f56eb21fe56fca6b2d4d625c0c644e60d0a1fe4b"), looks := true }, kinds := [], alts := [], laidByText := true, laidKinds := [.data, .data, .data, .sentinel, .sentinel, .listed, .data], laidTests := true, laidLooks := .later }
def ScanLimitsCardSaid : Prop := Claim7.holds Tryd.pinned (.plain (OpenSpec.ofChange scanLimitsSpec)) scanLimitsCard

/-- THE TIED CARD OF 'waferlaw11.ScanKeys'. -/
def scanKeysCard : Claim7 := { stood := { row := scanKeysRow, standIns := [], harness := (true, "e351c23868288d94165b0e87f56eb21fe56fca6b2d4d625c0c644e60d0a1fe4b"), looks := true }, kinds := [], alts := [], laidByText := true, laidKinds := [.data, .data, .data, .sentinel, .sentinel, .listed, .data], laidTests := true, laidLooks := .later }
def ScanKeysCardSaid : Prop := Claim7.holds Tryd.pinned (.plain (OpenSpec.ofChange scanKeysSpec)) scanKeysCard

/-- THE TIED CARD OF 'waferlaw11.ScanComments'. -/
def scanCommentsCard : Claim7 := { stood := { row := scanCommentsRow, standIns := [], harness := (true, "e351c23868288d94165b0e87f56eb21fe56fca6b2d4d625c0c644e60d0a1fe4b"), looks := true }, kinds := [], alts := [], laidByText := true, laidKinds := [.data, .data, .data, .sentinel, .sentinel, .listed, .data], laidTests := true, laidLooks := .later }
def ScanCommentsCardSaid : Prop := Claim7.holds Tryd.pinned (.plain (OpenSpec.ofChange scanCommentsSpec)) scanCommentsCard

/-- THE TIED CARD OF 'waferlaw11.ScanSigns'. -/
def scanSignsCard : Claim7 := { stood := { row := scanSignsRow, standIns := [], harness := (true, "e351c23868288d94165b0e87f56eb21fe56fca6b2d4d625c0c644e60d0a1fe4b"), looks := true }, kinds := [], alts := [], laidByText := true, laidKinds := [.data, .data, .data, .sentinel, .sentinel, .listed, .data], laidTests := true, laidLooks := .later }
def ScanSignsCardSaid : Prop := Claim7.holds Tryd.pinned (.plain (OpenSpec.ofChange scanSignsSpec)) scanSignsCard

/-- THE TIED CARD OF 'waferlaw11.ScanLines'. -/
def scanLinesCard : Claim7 := { stood := { row := scanLinesRow, standIns := [], harness := (true, "e351c23868288d94165b0e87f56eb21fe56fca6b2d4d625c0c644e60d0a1fe4b"), looks := true }, kinds := [], alts := [], laidByText := true, laidKinds := [.data, .data, .data, .sentinel, .sentinel, .listed, .data], laidTests := true, laidLooks := .later }
def ScanLinesCardSaid : Prop := Claim7.holds Tryd.pinned (.plain (OpenSpec.ofChange scanLinesSpec)) scanLinesCard

/-- THE SECOND FORM's CARD OF 'waferlaw11.ScanTells'. -/
def scanTellsUptoCard : Claim7 := { stood := { row := scanTellsUptoRow, standIns := [], harness := (true, "e351c23868288d94165b0e87f56eb21fe56fca6b2d4d625c0c644e60d0a1fe4b"), looks := true }, kinds := [], alts := [], laidByText := true, laidKinds := [.data, .data, .data, .sentinel, .sentinel, .listed, .data], laidTests := true, laidLooks := .later }
def ScanTellsUptoCardSaid : Prop := Claim7.holds Tryd.pinned (.plain (OpenSpec.upto scanTellsSpec)) scanTellsUptoCard

/-- THE SECOND FORM's CARD OF 'waferlaw11.ScanNumbers'. -/
def scanNumbersUptoCard : Claim7 := { stood := { row := scanNumbersUptoRow, standIns := [], harness := (true, "e351c23868288d94165b0e87f56eb21fe56fca6b2d4d625c0c644e60d0a1fe4b"), looks := true }, kinds := [], alts := [], laidByText := true, laidKinds := [.data, .data, .data, .sentinel, .sentinel, .listed, .data], laidTests := true, laidLooks := .later }
def ScanNumbersUptoCardSaid : Prop := Claim7.holds Tryd.pinned (.plain (OpenSpec.upto scanNumbersSpec)) scanNumbersUptoCard

/-- THE SECOND FORM's CARD OF 'waferlaw11.ScanBlanks'. -/
def scanBlanksUptoCard : Claim7 := { stood := { row := scanBlanksUptoRow, standIns := [], harness := (true, "e351c23868288d94165b0e87f56eb21fe56fca6b2d4d625c0c644e60d0a1fe4b"), looks := true }, kinds := [], alts := [], laidByText := true, laidKinds := [.data, .data, .data, .sentinel, .sentinel, .listed, .data], laidTests := true, laidLooks := .later }
def ScanBlanksUptoCardSaid : Prop := Claim7.holds Tryd.pinned (.plain (OpenSpec.upto scanBlanksSpec)) scanBlanksUptoCard

/-- THE SECOND FORM's CARD OF 'waferlaw11.ScanLimits'. -/
def scanLimitsUptoCard : Claim7 := { stood := { row := scanLimitsUptoRow, standIns := [], harness := (true, "e351c23868288d94165b0e87f56eb21fe56fca6b2d4d625c0c644e60d0a1fe4b"), looks := true }, kinds := [], alts := [], laidByText := true, laidKinds := [.data, .data, .data, .sentinel, .sentinel, .listed, .data], laidTests := true, laidLooks := .later }
def ScanLimitsUptoCardSaid : Prop := Claim7.holds Tryd.pinned (.plain (OpenSpec.upto scanLimitsSpec)) scanLimitsUptoCard

/-- THE SECOND FORM's CARD OF 'waferlaw11.ScanKeys'. -/
def scanKeysUptoCard : Claim7 := { stood := { row := scanKeysUptoRow, standIns := [], harness := (true, "e351c23868288d94165b0e87f56eb21fe56fca6b2d4d625c0c644e60d0a1fe4b"), looks := true }, kinds := [], alts := [], laidByText := true, laidKinds := [.data, .data, .data, .sentinel, .sentinel, .listed, .data], laidTests := true, laidLooks := .later }
def ScanKeysUptoCardSaid : Prop := Claim7.holds Tryd.pinned (.plain (OpenSpec.upto scanKeysSpec)) scanKeysUptoCard

/-- THE SECOND FORM's CARD OF 'waferlaw11.ScanComments'. -/
def scanCommentsUptoCard : Claim7 := { stood := { row := scanCommentsUptoRow, standIns := [], harness := (true, "e351c23868288d94165b0e87f56eb21fe56fca6b2d4d625c0c644e60d0a1fe4b"), looks := true }, kinds := [], alts := [], laidByText := true, laidKinds := [.data, .data, .data, .sentinel, .sentinel, .listed, .data], laidTests := true, laidLooks := .later }
def ScanCommentsUptoCardSaid : Prop := Claim7.holds Tryd.pinned (.plain (OpenSpec.upto scanCommentsSpec)) scanCommentsUptoCard

/-- THE SECOND FORM's CARD OF 'waferlaw11.ScanSigns'. -/
def scanSignsUptoCard : Claim7 := { stood := { row := scanSignsUptoRow, standIns := [], harness := (true, "e351c23868288d94165b0e87f56eb21fe56fca6b2d4d625c0c644e60d0a1fe4b"), looks := true }, kinds := [], alts := [], laidByText := true, laidKinds := [.data, .data, .data, .sentinel, .sentinel, .listed, .data], laidTests := true, laidLooks := .later }
def ScanSignsUptoCardSaid : Prop := Claim7.holds Tryd.pinned (.plain (OpenSpec.upto scanSignsSpec)) scanSignsUptoCard

/-- THE SECOND FORM's CARD OF 'waferlaw11.ScanLines'. -/
def scanLinesUptoCard : Claim7 := { stood := { row := scanLinesUptoRow, standIns := [], harness := (true, "e351c23868288d94165b0e87f56eb21fe56fca6b2d4d625c0c644e60d0a1fe4b"), looks := true }, kinds := [], alts := [], laidByText := true, laidKinds := [.data, .data, .data, .sentinel, .sentinel, .listed, .data], laidTests := true, laidLooks := .later }
def ScanLinesUptoCardSaid : Prop := Claim7.holds Tryd.pinned (.plain (OpenSpec.upto scanLinesSpec)) scanLinesUptoCard
end Rows
end Go.Proofs.YthaolbkjkigllaaDoor
