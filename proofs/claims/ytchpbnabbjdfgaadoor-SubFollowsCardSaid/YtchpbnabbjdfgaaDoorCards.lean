/-
  DERIVED. GIVEN WITH THE SEED: THE CARDS: each row of YtchpbnabbjdfgaaDoorRows.lean that lists a variable, with what it lists TIED to the program's text (the seventh form; the later family's looks); each row that meets fmt, with fmt's text TOLD by the authors' own Lean function (tested against real Go, not proved from fmt's source: count such statements apart). THE CARD IS WHAT COUNTS. Prove the row's statement (the work); the ties are given (YtchpbnabbjdfgaaDoorTie.lean); close each card by the builder's one call (the guide's Derived/Test/ToyasCard.lean, 'card_holds'). Laid BY PROGRAM, IN A SANDBOX (cutbox-door.mjs). By AI agents, Wed Nov 11 2026. No macro, syntax, notation, axiom, sorry.
-/
import Derived.Test.YtchpbnabbjdfgaaDoorRows
import GoSem.ClaimSeven
namespace Go.Proofs.YtchpbnabbjdfgaaDoor
namespace Rows

/-- THE TIED CARD OF 'corollarylaw22.SubApplies'. -/
def subAppliesCard : Claim7 := { stood := { row := subAppliesRow, standIns := [], harness := (true, "c98d5e71ecb75956ec5eaa9a2a1decba53acc8995d697c565179cd8d0c8fa58f"), looks := false }, kinds := [], alts := [], laidByText := true, laidKinds := [.data, .pinned], laidTests := true, laidLooks := .later }
def SubAppliesCardSaid : Prop := Claim7.holds Tryd.pinned (.plain (OpenSpec.ofChange subAppliesSpec)) subAppliesCard

/-- THE TIED CARD OF 'corollarylaw22.SubStays'. -/
def subStaysCard : Claim7 := { stood := { row := subStaysRow, standIns := [], harness := (true, "c98d5e71ecb75956ec5eaa9a2a1decba53acc8995d697c565179cd8d0c8fa58f"), looks := false }, kinds := [], alts := [], laidByText := true, laidKinds := [.data, .pinned], laidTests := true, laidLooks := .later }
def SubStaysCardSaid : Prop := Claim7.holds Tryd.pinned (.plain (OpenSpec.ofChange subStaysSpec)) subStaysCard

/-- THE TIED CARD OF 'corollarylaw22.SubOld'. -/
def subOldCard : Claim7 := { stood := { row := subOldRow, standIns := [], harness := (true, "c98d5e71ecb75956ec5eaa9a2a1decba53acc8995d697c565179cd8d0c8fa58f"), looks := false }, kinds := [], alts := [], laidByText := true, laidKinds := [.data, .pinned], laidTests := true, laidLooks := .later }
def SubOldCardSaid : Prop := Claim7.holds Tryd.pinned (.plain (OpenSpec.ofChange subOldSpec)) subOldCard

/-- THE TIED CARD OF 'corollarylaw22.SubSums'. -/
def subSumsCard : Claim7 := { stood := { row := subSumsRow, standIns := [], harness := (true, "c98d5e71ecb75956ec5eaa9a2a1decba53acc8995d697c565179cd8d0c8fa58f"), looks := false }, kinds := [], alts := [], laidByText := true, laidKinds := [.data, .pinned], laidTests := true, laidLooks := .later }
def SubSumsCardSaid : Prop := Claim7.holds Tryd.pinned (.plain (OpenSpec.ofChange subSumsSpec)) subSumsCard

/-- THE TIED CARD OF 'corollarylaw22.SubFollows'. -/
def subFollowsCard : Claim7 := { stood := { row := subFollowsRow, standIns := [], harness := (true, "c98d5e71ecb75956ec5eaa9a2a1decba53acc8995d697c565179cd8d0c8fa58f"), looks := false }, kinds := [], alts := [], laidByText := true, laidKinds := [.data, .pinned], laidTests := true, laidLooks := .later }
def SubFollowsCardSaid : Prop := Claim7.holds Tryd.pinned (.plain (OpenSpec.ofChange subFollowsSpec)) subFollowsCard

/-- THE SECOND FORM's CARD OF 'corollarylaw22.SubApplies'. -/
def subAppliesUptoCard : Claim7 := { stood := { row := subAppliesUptoRow, standIns := [], harness := (true, "c98d5e71ecb75956ec5eaa9a2a1decba53acc8995d697c565179cd8d0c8fa58f"), looks := false }, kinds := [], alts := [], laidByText := true, laidKinds := [.data, .pinned], laidTests := true, laidLooks := .later }
def SubAppliesUptoCardSaid : Prop := Claim7.holds Tryd.pinned (.plain (OpenSpec.upto subAppliesSpec)) subAppliesUptoCard

/-- THE SECOND FORM's CARD OF 'corollarylaw22.SubStays'. -/
def subStaysUptoCard : Claim7 := { stood := { row := subStaysUptoRow, standIns := [], harness := (true, "c98d5e71ecb75956ec5eaa9a2a1decba53acc8995d697c565179cd8d0c8fa58f"), looks := false }, kinds := [], alts := [], laidByText := true, laidKinds := [.data, .pinned], laidTests := true, laidLooks := .later }
def SubStaysUptoCardSaid : Prop := Claim7.holds Tryd.pinned (.plain (OpenSpec.upto subStaysSpec)) subStaysUptoCard

/-- THE SECOND FORM's CARD OF 'corollarylaw22.SubOld'. -/
def subOldUptoCard : Claim7 := { stood := { row := subOldUptoRow, standIns := [], harness := (true, "c98d5e71ecb75956ec5eaa9a2a1decba53acc8995d697c565179cd8d0c8fa58f"), looks := false }, kinds := [], alts := [], laidByText := true, laidKinds := [.data, .pinned], laidTests := true, laidLooks := .later }
def SubOldUptoCardSaid : Prop := Claim7.holds Tryd.pinned (.plain (OpenSpec.upto subOldSpec)) subOldUptoCard

/-- THE SECOND FORM's CARD OF 'corollarylaw22.SubSums'. -/
def subSumsUptoCard : Claim7 := { stood := { row := subSumsUptoRow, standIns := [], harness := (true, "c98d5e71ecb75956ec5eaa9a2a1decba53acc8995d697c565179cd8d0c8fa58f"), looks := false }, kinds := [], alts := [], laidByText := true, laidKinds := [.data, .pinned], laidTests := true, laidLooks := .later }
def SubSumsUptoCardSaid : Prop := Claim7.holds Tryd.pinned (.plain (OpenSpec.upto subSumsSpec)) subSumsUptoCard

/-- THE SECOND FORM's CARD OF 'corollarylaw22.SubFollows'. -/
def subFollowsUptoCard : Claim7 := { stood := { row := subFollowsUptoRow, standIns := [], harness := (true, "c98d5e71ecb75956ec5eaa9a2a1decba53acc8995d697c565179cd8d0c8fa58f"), looks := false }, kinds := [], alts := [], laidByText := true, laidKinds := [.data, .pinned], laidTests := true, laidLooks := .later }
def SubFollowsUptoCardSaid : Prop := Claim7.holds Tryd.pinned (.plain (OpenSpec.upto subFollowsSpec)) subFollowsUptoCard
end Rows
end Go.Proofs.YtchpbnabbjdfgaaDoor
