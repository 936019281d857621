/-
  DERIVED. GIVEN WITH THE SEED: THE CARDS: each row of YtmdnnpahmoaicaaDoorRows.lean that lists a variable, with what it lists TIED to the program's text (the seventh form; the later family's looks); each row that meets fmt, with fmt's text TOLD by the authors' own Lean function (tested against real Go, not proved from fmt's source: count such statements apart). THE CARD IS WHAT COUNTS. Prove the row's statement (the work); the ties are given (YtmdnnpahmoaicaaDoorTie.lean); close each card by the builder's one call (the guide's Derived/Test/ToyasCard.lean, 'card_holds'). Laid BY PROGRAM, IN A SANDBOX (cutbox-door.mjs). By AI agents, Wed Nov 11 2026. No macro, syntax, notation, axiom, sorry.
-/
import Derived.Test.YtmdnnpahmoaicaaDoorRows
import GoSem.ClaimSeven
namespace Go.Proofs.YtmdnnpahmoaicaaDoor
namespace Rows

/-- THE TIED CARD OF 'corollarylaw01.ValueApart'. -/
def valueApartCard : Claim7 := { stood := { row := valueApartRow, standIns := [], harness := (true, "38a8b4c083f5e0c5cfdc449fccc6c3e0a5778490f84cbc9c55681ba4971f0a8b"), looks := false }, kinds := [], alts := [], laidByText := true, laidKinds := [.data, .data, .data, .data, .pinned], laidTests := true, laidLooks := .later }
def ValueApartCardSaid : Prop := Claim7.holds Tryd.pinned (.plain (OpenSpec.ofChange valueApartSpec)) valueApartCard

/-- THE TIED CARD OF 'corollarylaw01.ValueTurn'. -/
def valueTurnCard : Claim7 := { stood := { row := valueTurnRow, standIns := [], harness := (true, "38a8b4c083f5e0c5cfdc449fccc6c3e0a5778490f84cbc9c55681ba4971f0a8b"), looks := false }, kinds := [], alts := [], laidByText := true, laidKinds := [.data, .data, .data, .data, .pinned], laidTests := true, laidLooks := .later }
def ValueTurnCardSaid : Prop := Claim7.holds Tryd.pinned (.plain (OpenSpec.ofChange valueTurnSpec)) valueTurnCard

/-- THE TIED CARD OF 'corollarylaw01.ValueNull'. -/
def valueNullCard : Claim7 := { stood := { row := valueNullRow, standIns := [], harness := (true, "38a8b4c083f5e0c5cfdc449fccc6c3e0a5778490f84cbc9c55681ba4971f0a8b"), looks := false }, kinds := [], alts := [], laidByText := true, laidKinds := [.data, .data, .data, .data, .pinned], laidTests := true, laidLooks := .later }
def ValueNullCardSaid : Prop := Claim7.holds Tryd.pinned (.plain (OpenSpec.ofChange valueNullSpec)) valueNullCard

/-- THE TIED CARD OF 'corollarylaw01.ValueBack'. -/
def valueBackCard : Claim7 := { stood := { row := valueBackRow, standIns := [], harness := (true, "38a8b4c083f5e0c5cfdc449fccc6c3e0a5778490f84cbc9c55681ba4971f0a8b"), looks := false }, kinds := [], alts := [], laidByText := true, laidKinds := [.data, .data, .data, .data, .pinned], laidTests := true, laidLooks := .later }
def ValueBackCardSaid : Prop := Claim7.holds Tryd.pinned (.plain (OpenSpec.ofChange valueBackSpec)) valueBackCard

/-- THE TIED CARD OF 'corollarylaw01.ValueSums'. -/
def valueSumsCard : Claim7 := { stood := { row := valueSumsRow, standIns := [], harness := (true, "38a8b4c083f5e0c5cfdc449fccc6c3e0a5778490f84cbc9c55681ba4971f0a8b"), looks := false }, kinds := [], alts := [], laidByText := true, laidKinds := [.data, .data, .data, .data, .pinned], laidTests := true, laidLooks := .later }
def ValueSumsCardSaid : Prop := Claim7.holds Tryd.pinned (.plain (OpenSpec.ofChange valueSumsSpec)) valueSumsCard

/-- THE TIED CARD OF 'corollarylaw01.ValueOrders'. -/
def valueOrdersCard : Claim7 := { stood := { row := valueOrdersRow, standIns := [], harness := (true, "38a8b4c083f5e0c5cfdc449fccc6c3e0a5778490f84cbc9c55681ba4971f0a8b"), looks := false }, kinds := [], alts := [], laidByText := true, laidKinds := [.data, .data, .data, .data, .pinned], laidTests := true, laidLooks := .later }
def ValueOrdersCardSaid : Prop := Claim7.holds Tryd.pinned (.plain (OpenSpec.ofChange valueOrdersSpec)) valueOrdersCard

/-- THE TIED CARD OF 'corollarylaw01.ValueChain'. -/
def valueChainCard : Claim7 := { stood := { row := valueChainRow, standIns := [], harness := (true, "38a8b4c083f5e0c5cfdc449fccc6c3e0a5778490f84cbc9c55681ba4971f0a8b"), looks := false }, kinds := [], alts := [], laidByText := true, laidKinds := [.data, .data, .data, .data, .pinned], laidTests := true, laidLooks := .later }
def ValueChainCardSaid : Prop := Claim7.holds Tryd.pinned (.plain (OpenSpec.ofChange valueChainSpec)) valueChainCard

/-- THE TIED CARD OF 'corollarylaw01.ValueShows'. -/
def valueShowsCard : Claim7 := { stood := { row := valueShowsRow, standIns := [], harness := (true, "38a8b4c083f5e0c5cfdc449fccc6c3e0a5778490f84cbc9c55681ba4971f0a8b"), looks := false }, kinds := [], alts := [], laidByText := true, laidKinds := [.data, .data, .data, .data, .pinned], laidTests := true, laidLooks := .later }
def ValueShowsCardSaid : Prop := Claim7.holds Tryd.pinned (.plain (OpenSpec.ofChange valueShowsSpec)) valueShowsCard

/-- THE TIED CARD OF 'corollarylaw01.ValueRows'. -/
def valueRowsCard : Claim7 := { stood := { row := valueRowsRow, standIns := [], harness := (true, "38a8b4c083f5e0c5cfdc449fccc6c3e0a5778490f84cbc9c55681ba4971f0a8b"), looks := false }, kinds := [], alts := [], laidByText := true, laidKinds := [.data, .data, .data, .data, .pinned], laidTests := true, laidLooks := .later }
def ValueRowsCardSaid : Prop := Claim7.holds Tryd.pinned (.plain (OpenSpec.ofChange valueRowsSpec)) valueRowsCard

/-- THE TIED CARD OF 'corollarylaw01.ValuePrefix'. -/
def valuePrefixCard : Claim7 := { stood := { row := valuePrefixRow, standIns := [], harness := (true, "38a8b4c083f5e0c5cfdc449fccc6c3e0a5778490f84cbc9c55681ba4971f0a8b"), looks := false }, kinds := [], alts := [], laidByText := true, laidKinds := [.data, .data, .data, .data, .pinned], laidTests := true, laidLooks := .later }
def ValuePrefixCardSaid : Prop := Claim7.holds Tryd.pinned (.plain (OpenSpec.ofChange valuePrefixSpec)) valuePrefixCard

/-- THE SECOND FORM's CARD OF 'corollarylaw01.ValueApart'. -/
def valueApartUptoCard : Claim7 := { stood := { row := valueApartUptoRow, standIns := [], harness := (true, "38a8b4c083f5e0c5cfdc449fccc6c3e0a5778490f84cbc9c55681ba4971f0a8b"), looks := false }, kinds := [], alts := [], laidByText := true, laidKinds := [.data, .data, .data, .data, .pinned], laidTests := true, laidLooks := .later }
def ValueApartUptoCardSaid : Prop := Claim7.holds Tryd.pinned (.plain (OpenSpec.upto valueApartSpec)) valueApartUptoCard

/-- THE SECOND FORM's CARD OF 'corollarylaw01.ValueTurn'. -/
def valueTurnUptoCard : Claim7 := { stood := { row := valueTurnUptoRow, standIns := [], harness := (true, "38a8b4c083f5e0c5cfdc449fccc6c3e0a5778490f84cbc9c55681ba4971f0a8b"), looks := false }, kinds := [], alts := [], laidByText := true, laidKinds := [.data, .data, .data, .data, .pinned], laidTests := true, laidLooks := .later }
def ValueTurnUptoCardSaid : Prop := Claim7.holds Tryd.pinned (.plain (OpenSpec.upto valueTurnSpec)) valueTurnUptoCard

/-- THE SECOND FORM's CARD OF 'corollarylaw01.ValueNull'. -/
def valueNullUptoCard : Claim7 := { stood := { row := valueNullUptoRow, standIns := [], harness := (true, "38a8b4c083f5e0c5cfdc449fccc6c3e0a5778490f84cbc9c55681ba4971f0a8b"), looks := false }, kinds := [], alts := [], laidByText := true, laidKinds := [.data, .data, .data, .data, .pinned], laidTests := true, laidLooks := .later }
def ValueNullUptoCardSaid : Prop := Claim7.holds Tryd.pinned (.plain (OpenSpec.upto valueNullSpec)) valueNullUptoCard

/-- THE SECOND FORM's CARD OF 'corollarylaw01.ValueBack'. -/
def valueBackUptoCard : Claim7 := { stood := { row := valueBackUptoRow, standIns := [], harness := (true, "38a8b4c083f5e0c5cfdc449fccc6c3e0a5778490f84cbc9c55681ba4971f0a8b"), looks := false }, kinds := [], alts := [], laidByText := true, laidKinds := [.data, .data, .data, .data, .pinned], laidTests := true, laidLooks := .later }
def ValueBackUptoCardSaid : Prop := Claim7.holds Tryd.pinned (.plain (OpenSpec.upto valueBackSpec)) valueBackUptoCard

/-- THE SECOND FORM's CARD OF 'corollarylaw01.ValueSums'. -/
def valueSumsUptoCard : Claim7 := { stood := { row := valueSumsUptoRow, standIns := [], harness := (true, "38a8b4c083f5e0c5cfdc449fccc6c3e0a5778490f84cbc9c55681ba4971f0a8b"), looks := false }, kinds := [], alts := [], laidByText := true, laidKinds := [.data, .data, .data, .data, .pinned], laidTests := true, laidLooks := .later }
def ValueSumsUptoCardSaid : Prop := Claim7.holds Tryd.pinned (.plain (OpenSpec.upto valueSumsSpec)) valueSumsUptoCard

/-- THE SECOND FORM's CARD OF 'corollarylaw01.ValueOrders'. -/
def valueOrdersUptoCard : Claim7 := { stood := { row := valueOrdersUptoRow, standIns := [], harness := (true, "38a8b4c083f5e0c5cfdc449fccc6c3e0a5778490f84cbc9c55681ba4971f0a8b"), looks := false }, kinds := [], alts := [], laidByText := true, laidKinds := [.data, .data, .data, .data, .pinned], laidTests := true, laidLooks := .later }
def ValueOrdersUptoCardSaid : Prop := Claim7.holds Tryd.pinned (.plain (OpenSpec.upto valueOrdersSpec)) valueOrdersUptoCard

/-- THE SECOND FORM's CARD OF 'corollarylaw01.ValueChain'. -/
def valueChainUptoCard : Claim7 := { stood := { row := valueChainUptoRow, standIns := [], harness := (true, "38a8b4c083f5e0c5cfdc449fccc6c3e0a5778490f84cbc9c55681ba4971f0a8b"), looks := false }, kinds := [], alts := [], laidByText := true, laidKinds := [.data, .data, .data, .data, .pinned], laidTests := true, laidLooks := .later }
def ValueChainUptoCardSaid : Prop := Claim7.holds Tryd.pinned (.plain (OpenSpec.upto valueChainSpec)) valueChainUptoCard

/-- THE SECOND FORM's CARD OF 'corollarylaw01.ValueShows'. -/
def valueShowsUptoCard : Claim7 := { stood := { row := valueShowsUptoRow, standIns := [], harness := (true, "38a8b4c083f5e0c5cfdc449fccc6c3e0a5778490f84cbc9c55681ba4971f0a8b"), looks := false }, kinds := [], alts := [], laidByText := true, laidKinds := [.data, .data, .data, .data, .pinned], laidTests := true, laidLooks := .later }
def ValueShowsUptoCardSaid : Prop := Claim7.holds Tryd.pinned (.plain (OpenSpec.upto valueShowsSpec)) valueShowsUptoCard

/-- THE SECOND FORM's CARD OF 'corollarylaw01.ValueRows'. -/
def valueRowsUptoCard : Claim7 := { stood := { row := valueRowsUptoRow, standIns := [], harness := (true, "38a8b4c083f5e0c5cfdc449fccc6c3e0a5778490f84cbc9c55681ba4971f0a8b"), looks := false }, kinds := [], alts := [], laidByText := true, laidKinds := [.data, .data, .data, .data, .pinned], laidTests := true, laidLooks := .later }
def ValueRowsUptoCardSaid : Prop := Claim7.holds Tryd.pinned (.plain (OpenSpec.upto valueRowsSpec)) valueRowsUptoCard

/-- THE SECOND FORM's CARD OF 'corollarylaw01.ValuePrefix'. -/
def valuePrefixUptoCard : Claim7 := { stood := { row := valuePrefixUptoRow, standIns := [], harness := (true, "38a8b4c083f5e0c5cfdc449fccc6c3e0a5778490f84cbc9c55681ba4971f0a8b"), looks := false }, kinds := [], alts := [], laidByText := true, laidKinds := [.data, .data, .data, .data, .pinned], laidTests := true, laidLooks := .later }
def ValuePrefixUptoCardSaid : Prop := Claim7.holds Tryd.pinned (.plain (OpenSpec.upto valuePrefixSpec)) valuePrefixUptoCard
end Rows
end Go.Proofs.YtmdnnpahmoaicaaDoor
