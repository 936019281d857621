/-
  DERIVED. GIVEN WITH THE SEED: THE CARDS: each row of YtjcjndpfihchnaaDoorRows.lean that lists a variable, with what it lists TIED to the program's text (the seventh form; the later family's looks); each row that meets fmt, with fmt's text TOLD by the authors' own Lean function (tested against real Go, not proved from fmt's source: count such statements apart). THE CARD IS WHAT COUNTS. Prove the row's statement (the work); the ties are given (YtjcjndpfihchnaaDoorTie.lean); close each card by the builder's one call (the guide's Derived/Test/ToyasCard.lean, 'card_holds'). Laid BY PROGRAM, IN A SANDBOX (cutbox-door.mjs). By AI agents, Wed Nov 11 2026. No macro, syntax, notation, axiom, sorry.
-/
import Derived.Test.YtjcjndpfihchnaaDoorRows
import GoSem.ClaimSeven
namespace Go.Proofs.YtjcjndpfihchnaaDoor
namespace Rows

/-- THE TIED CARD OF 'corollarylaw11.LexScans'. -/
def lexScansCard : Claim7 := { stood := { row := lexScansRow, standIns := [], harness := (true, "53904d12ad1d0da34dc8ed4814eba101d0fcf530aa4e3ec747a58cc4d4f1730e"), looks := false }, kinds := [], alts := [], laidByText := true, laidKinds := [.data, .pinned], laidTests := true, laidLooks := .later }
def LexScansCardSaid : Prop := Claim7.holds Tryd.pinned (.plain (OpenSpec.ofChange lexScansSpec)) lexScansCard

/-- THE TIED CARD OF 'corollarylaw11.LexBlanks'. -/
def lexBlanksCard : Claim7 := { stood := { row := lexBlanksRow, standIns := [], harness := (true, "53904d12ad1d0da34dc8ed4814eba101d0fcf530aa4e3ec747a58cc4d4f1730e"), looks := false }, kinds := [], alts := [], laidByText := true, laidKinds := [.data, .pinned], laidTests := true, laidLooks := .later }
def LexBlanksCardSaid : Prop := Claim7.holds Tryd.pinned (.plain (OpenSpec.ofChange lexBlanksSpec)) lexBlanksCard

/-- THE TIED CARD OF 'corollarylaw11.LexShort'. -/
def lexShortCard : Claim7 := { stood := { row := lexShortRow, standIns := [], harness := (true, "53904d12ad1d0da34dc8ed4814eba101d0fcf530aa4e3ec747a58cc4d4f1730e"), looks := false }, kinds := [], alts := [], laidByText := true, laidKinds := [.data, .pinned], laidTests := true, laidLooks := .later }
def LexShortCardSaid : Prop := Claim7.holds Tryd.pinned (.plain (OpenSpec.ofChange lexShortSpec)) lexShortCard

/-- THE TIED CARD OF 'corollarylaw11.LexShown'. -/
def lexShownCard : Claim7 := { stood := { row := lexShownRow, standIns := [], harness := (true, "53904d12ad1d0da34dc8ed4814eba101d0fcf530aa4e3ec747a58cc4d4f1730e"), looks := false }, kinds := [], alts := [], laidByText := true, laidKinds := [.data, .data, .data, .data, .pinned], laidTests := true, laidLooks := .later }
def LexShownCardSaid : Prop := Claim7.holds Tryd.pinned (.plain (OpenSpec.ofChange lexShownSpec)) lexShownCard

/-- THE SECOND FORM's CARD OF 'corollarylaw11.LexScans'. -/
def lexScansUptoCard : Claim7 := { stood := { row := lexScansUptoRow, standIns := [], harness := (true, "53904d12ad1d0da34dc8ed4814eba101d0fcf530aa4e3ec747a58cc4d4f1730e"), looks := false }, kinds := [], alts := [], laidByText := true, laidKinds := [.data, .pinned], laidTests := true, laidLooks := .later }
def LexScansUptoCardSaid : Prop := Claim7.holds Tryd.pinned (.plain (OpenSpec.upto lexScansSpec)) lexScansUptoCard

/-- THE SECOND FORM's CARD OF 'corollarylaw11.LexBlanks'. -/
def lexBlanksUptoCard : Claim7 := { stood := { row := lexBlanksUptoRow, standIns := [], harness := (true, "53904d12ad1d0da34dc8ed4814eba101d0fcf530aa4e3ec747a58cc4d4f1730e"), looks := false }, kinds := [], alts := [], laidByText := true, laidKinds := [.data, .pinned], laidTests := true, laidLooks := .later }
def LexBlanksUptoCardSaid : Prop := Claim7.holds Tryd.pinned (.plain (OpenSpec.upto lexBlanksSpec)) lexBlanksUptoCard

/-- THE SECOND FORM's CARD OF 'corollarylaw11.LexShort'. -/
def lexShortUptoCard : Claim7 := { stood := { row := lexShortUptoRow, standIns := [], harness := (true, "53904d12ad1d0da34dc8ed4814eba101d0fcf530aa4e3ec747a58cc4d4f1730e"), looks := false }, kinds := [], alts := [], laidByText := true, laidKinds := [.data, .pinned], laidTests := true, laidLooks := .later }
def LexShortUptoCardSaid : Prop := Claim7.holds Tryd.pinned (.plain (OpenSpec.upto lexShortSpec)) lexShortUptoCard

/-- THE SECOND FORM's CARD OF 'corollarylaw11.LexShown'. -/
def lexShownUptoCard : Claim7 := { stood := { row := lexShownUptoRow, standIns := [], harness := (true, "53904d12ad1d0da34dc8ed4814eba101d0fcf530aa4e3ec747a58cc4d4f1730e"), looks := false }, kinds := [], alts := [], laidByText := true, laidKinds := [.data, .data, .data, .data, .pinned], laidTests := true, laidLooks := .later }
def LexShownUptoCardSaid : Prop := Claim7.holds Tryd.pinned (.plain (OpenSpec.upto lexShownSpec)) lexShownUptoCard
end Rows
end Go.Proofs.YtjcjndpfihchnaaDoor
