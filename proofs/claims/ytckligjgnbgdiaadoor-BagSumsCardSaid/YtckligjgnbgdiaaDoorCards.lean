/-
  DERIVED. GIVEN WITH THE SEED: THE CARDS: each row of YtckligjgnbgdiaaDoorRows.lean that lists a variable, with what it lists TIED to the program's text (the seventh form; the later family's looks); each row that meets fmt, with fmt's text TOLD by the authors' own Lean function (tested against real Go, not proved from fmt's source: count such statements apart). THE CARD IS WHAT COUNTS. Prove the row's statement (the work); the ties are given (YtckligjgnbgdiaaDoorTie.lean); close each card by the builder's one call (the guide's Derived/Test/ToyasCard.lean, 'card_holds'). Laid BY PROGRAM, IN A SANDBOX (cutbox-door.mjs). By AI agents, Wed Nov 11 2026. No macro, syntax, notation, axiom, sorry.
-/
import Derived.Test.YtckligjgnbgdiaaDoorRows
import GoSem.ClaimSeven
namespace Go.Proofs.YtckligjgnbgdiaaDoor
namespace Rows

/-- THE TIED CARD OF 'corollarylaw13.BagRights'. -/
def bagRightsCard : Claim7 := { stood := { row := bagRightsRow, standIns := [], harness := (true, "b53cf4b81b61f8536aa77b2fcf02533c456eb5444c7bacee5c78636e085667ed"), looks := false }, kinds := [], alts := [], laidByText := true, laidKinds := [.data, .pinned], laidTests := true, laidLooks := .later }
def BagRightsCardSaid : Prop := Claim7.holds Tryd.pinned (.plain (OpenSpec.ofChange bagRightsSpec)) bagRightsCard

/-- THE TIED CARD OF 'corollarylaw13.BagSorts'. -/
def bagSortsCard : Claim7 := { stood := { row := bagSortsRow, standIns := [], harness := (true, "b53cf4b81b61f8536aa77b2fcf02533c456eb5444c7bacee5c78636e085667ed"), looks := false }, kinds := [], alts := [], laidByText := true, laidKinds := [.data, .pinned], laidTests := true, laidLooks := .later }
def BagSortsCardSaid : Prop := Claim7.holds Tryd.pinned (.plain (OpenSpec.ofChange bagSortsSpec)) bagSortsCard

/-- THE TIED CARD OF 'corollarylaw13.BagOnce'. -/
def bagOnceCard : Claim7 := { stood := { row := bagOnceRow, standIns := [], harness := (true, "b53cf4b81b61f8536aa77b2fcf02533c456eb5444c7bacee5c78636e085667ed"), looks := false }, kinds := [], alts := [], laidByText := true, laidKinds := [.data, .pinned], laidTests := true, laidLooks := .later }
def BagOnceCardSaid : Prop := Claim7.holds Tryd.pinned (.plain (OpenSpec.ofChange bagOnceSpec)) bagOnceCard

/-- THE TIED CARD OF 'corollarylaw13.BagCounts'. -/
def bagCountsCard : Claim7 := { stood := { row := bagCountsRow, standIns := [], harness := (true, "b53cf4b81b61f8536aa77b2fcf02533c456eb5444c7bacee5c78636e085667ed"), looks := false }, kinds := [], alts := [], laidByText := true, laidKinds := [.data, .pinned], laidTests := true, laidLooks := .later }
def BagCountsCardSaid : Prop := Claim7.holds Tryd.pinned (.plain (OpenSpec.ofChange bagCountsSpec)) bagCountsCard

/-- THE TIED CARD OF 'corollarylaw13.BagSums'. -/
def bagSumsCard : Claim7 := { stood := { row := bagSumsRow, standIns := [], harness := (true, "b53cf4b81b61f8536aa77b2fcf02533c456eb5444c7bacee5c78636e085667ed"), looks := false }, kinds := [], alts := [], laidByText := true, laidKinds := [.data, .pinned], laidTests := true, laidLooks := .later }
def BagSumsCardSaid : Prop := Claim7.holds Tryd.pinned (.plain (OpenSpec.ofChange bagSumsSpec)) bagSumsCard

/-- THE TIED CARD OF 'corollarylaw13.BagBack'. -/
def bagBackCard : Claim7 := { stood := { row := bagBackRow, standIns := [], harness := (true, "b53cf4b81b61f8536aa77b2fcf02533c456eb5444c7bacee5c78636e085667ed"), looks := false }, kinds := [], alts := [], laidByText := true, laidKinds := [.data, .pinned], laidTests := true, laidLooks := .later }
def BagBackCardSaid : Prop := Claim7.holds Tryd.pinned (.plain (OpenSpec.ofChange bagBackSpec)) bagBackCard

/-- THE SECOND FORM's CARD OF 'corollarylaw13.BagRights'. -/
def bagRightsUptoCard : Claim7 := { stood := { row := bagRightsUptoRow, standIns := [], harness := (true, "b53cf4b81b61f8536aa77b2fcf02533c456eb5444c7bacee5c78636e085667ed"), looks := false }, kinds := [], alts := [], laidByText := true, laidKinds := [.data, .pinned], laidTests := true, laidLooks := .later }
def BagRightsUptoCardSaid : Prop := Claim7.holds Tryd.pinned (.plain (OpenSpec.upto bagRightsSpec)) bagRightsUptoCard

/-- THE SECOND FORM's CARD OF 'corollarylaw13.BagSorts'. -/
def bagSortsUptoCard : Claim7 := { stood := { row := bagSortsUptoRow, standIns := [], harness := (true, "b53cf4b81b61f8536aa77b2fcf02533c456eb5444c7bacee5c78636e085667ed"), looks := false }, kinds := [], alts := [], laidByText := true, laidKinds := [.data, .pinned], laidTests := true, laidLooks := .later }
def BagSortsUptoCardSaid : Prop := Claim7.holds Tryd.pinned (.plain (OpenSpec.upto bagSortsSpec)) bagSortsUptoCard

/-- THE SECOND FORM's CARD OF 'corollarylaw13.BagOnce'. -/
def bagOnceUptoCard : Claim7 := { stood := { row := bagOnceUptoRow, standIns := [], harness := (true, "b53cf4b81b61f8536aa77b2fcf02533c456eb5444c7bacee5c78636e085667ed"), looks := false }, kinds := [], alts := [], laidByText := true, laidKinds := [.data, .pinned], laidTests := true, laidLooks := .later }
def BagOnceUptoCardSaid : Prop := Claim7.holds Tryd.pinned (.plain (OpenSpec.upto bagOnceSpec)) bagOnceUptoCard

/-- THE SECOND FORM's CARD OF 'corollarylaw13.BagCounts'. -/
def bagCountsUptoCard : Claim7 := { stood := { row := bagCountsUptoRow, standIns := [], harness := (true, "b53cf4b81b61f8536aa77b2fcf02533c456eb5444c7bacee5c78636e085667ed"), looks := false }, kinds := [], alts := [], laidByText := true, laidKinds := [.data, .pinned], laidTests := true, laidLooks := .later }
def BagCountsUptoCardSaid : Prop := Claim7.holds Tryd.pinned (.plain (OpenSpec.upto bagCountsSpec)) bagCountsUptoCard

/-- THE SECOND FORM's CARD OF 'corollarylaw13.BagSums'. -/
def bagSumsUptoCard : Claim7 := { stood := { row := bagSumsUptoRow, standIns := [], harness := (true, "b53cf4b81b61f8536aa77b2fcf02533c456eb5444c7bacee5c78636e085667ed"), looks := false }, kinds := [], alts := [], laidByText := true, laidKinds := [.data, .pinned], laidTests := true, laidLooks := .later }
def BagSumsUptoCardSaid : Prop := Claim7.holds Tryd.pinned (.plain (OpenSpec.upto bagSumsSpec)) bagSumsUptoCard

/-- THE SECOND FORM's CARD OF 'corollarylaw13.BagBack'. -/
def bagBackUptoCard : Claim7 := { stood := { row := bagBackUptoRow, standIns := [], harness := (true, "b53cf4b81b61f8536aa77b2fcf02533c456eb5444c7bacee5c78636e085667ed"), looks := false }, kinds := [], alts := [], laidByText := true, laidKinds := [.data, .pinned], laidTests := true, laidLooks := .later }
def BagBackUptoCardSaid : Prop := Claim7.holds Tryd.pinned (.plain (OpenSpec.upto bagBackSpec)) bagBackUptoCard
end Rows
end Go.Proofs.YtckligjgnbgdiaaDoor
