/-
  DERIVED. GIVEN WITH THE SEED: THE CARDS: each row of YtnggdcdiachkpaaDoorRows.lean that lists a variable, with what it lists TIED to the program's text (the seventh form; the later family's looks); each row that meets fmt, with fmt's text TOLD by the authors' own Lean function (tested against real Go, not proved from fmt's source: count such statements apart). THE CARD IS WHAT COUNTS. Prove the row's statement (the work); the ties are given (YtnggdcdiachkpaaDoorTie.lean); close each card by the builder's one call (the guide's Derived/Test/ToyasCard.lean, 'card_holds'). Laid BY PROGRAM, IN A SANDBOX (cutbox-door.mjs). By AI agents, Wed Nov 11 2026. No macro, syntax, notation, axiom, sorry.
-/
import Derived.Test.YtnggdcdiachkpaaDoorRows
import GoSem.ClaimSeven
namespace Go.Proofs.YtnggdcdiachkpaaDoor
namespace Rows

/-- THE TIED CARD OF 'corollarylaw14.DeltaRows'. -/
def deltaRowsCard : Claim7 := { stood := { row := deltaRowsRow, standIns := [], harness := (true, "5b3dd8625738f195875b61ffe9533ec4f7d18548e74740143f72697c1246d560"), looks := false }, kinds := [], alts := [], laidByText := true, laidKinds := [.data, .pinned], laidTests := true, laidLooks := .later }
def DeltaRowsCardSaid : Prop := Claim7.holds Tryd.pinned (.plain (OpenSpec.ofChange deltaRowsSpec)) deltaRowsCard

/-- THE TIED CARD OF 'corollarylaw14.DeltaChanges'. -/
def deltaChangesCard : Claim7 := { stood := { row := deltaChangesRow, standIns := [], harness := (true, "5b3dd8625738f195875b61ffe9533ec4f7d18548e74740143f72697c1246d560"), looks := false }, kinds := [], alts := [], laidByText := true, laidKinds := [.data, .pinned], laidTests := true, laidLooks := .later }
def DeltaChangesCardSaid : Prop := Claim7.holds Tryd.pinned (.plain (OpenSpec.ofChange deltaChangesSpec)) deltaChangesCard

/-- THE TIED CARD OF 'corollarylaw14.DeltaTrue'. -/
def deltaTrueCard : Claim7 := { stood := { row := deltaTrueRow, standIns := [], harness := (true, "5b3dd8625738f195875b61ffe9533ec4f7d18548e74740143f72697c1246d560"), looks := false }, kinds := [], alts := [], laidByText := true, laidKinds := [.data, .pinned], laidTests := true, laidLooks := .later }
def DeltaTrueCardSaid : Prop := Claim7.holds Tryd.pinned (.plain (OpenSpec.ofChange deltaTrueSpec)) deltaTrueCard

/-- THE TIED CARD OF 'corollarylaw14.DeltaParts'. -/
def deltaPartsCard : Claim7 := { stood := { row := deltaPartsRow, standIns := [], harness := (true, "5b3dd8625738f195875b61ffe9533ec4f7d18548e74740143f72697c1246d560"), looks := false }, kinds := [], alts := [], laidByText := true, laidKinds := [.data, .pinned], laidTests := true, laidLooks := .later }
def DeltaPartsCardSaid : Prop := Claim7.holds Tryd.pinned (.plain (OpenSpec.ofChange deltaPartsSpec)) deltaPartsCard

/-- THE TIED CARD OF 'corollarylaw14.DeltaNothing'. -/
def deltaNothingCard : Claim7 := { stood := { row := deltaNothingRow, standIns := [], harness := (true, "5b3dd8625738f195875b61ffe9533ec4f7d18548e74740143f72697c1246d560"), looks := false }, kinds := [], alts := [], laidByText := true, laidKinds := [.data, .pinned], laidTests := true, laidLooks := .later }
def DeltaNothingCardSaid : Prop := Claim7.holds Tryd.pinned (.plain (OpenSpec.ofChange deltaNothingSpec)) deltaNothingCard

/-- THE SECOND FORM's CARD OF 'corollarylaw14.DeltaRows'. -/
def deltaRowsUptoCard : Claim7 := { stood := { row := deltaRowsUptoRow, standIns := [], harness := (true, "5b3dd8625738f195875b61ffe9533ec4f7d18548e74740143f72697c1246d560"), looks := false }, kinds := [], alts := [], laidByText := true, laidKinds := [.data, .pinned], laidTests := true, laidLooks := .later }
def DeltaRowsUptoCardSaid : Prop := Claim7.holds Tryd.pinned (.plain (OpenSpec.upto deltaRowsSpec)) deltaRowsUptoCard

/-- THE SECOND FORM's CARD OF 'corollarylaw14.DeltaChanges'. -/
def deltaChangesUptoCard : Claim7 := { stood := { row := deltaChangesUptoRow, standIns := [], harness := (true, "5b3dd8625738f195875b61ffe9533ec4f7d18548e74740143f72697c1246d560"), looks := false }, kinds := [], alts := [], laidByText := true, laidKinds := [.data, .pinned], laidTests := true, laidLooks := .later }
def DeltaChangesUptoCardSaid : Prop := Claim7.holds Tryd.pinned (.plain (OpenSpec.upto deltaChangesSpec)) deltaChangesUptoCard

/-- THE SECOND FORM's CARD OF 'corollarylaw14.DeltaTrue'. -/
def deltaTrueUptoCard : Claim7 := { stood := { row := deltaTrueUptoRow, standIns := [], harness := (true, "5b3dd8625738f195875b61ffe9533ec4f7d18548e74740143f72697c1246d560"), looks := false }, kinds := [], alts := [], laidByText := true, laidKinds := [.data, .pinned], laidTests := true, laidLooks := .later }
def DeltaTrueUptoCardSaid : Prop := Claim7.holds Tryd.pinned (.plain (OpenSpec.upto deltaTrueSpec)) deltaTrueUptoCard

/-- THE SECOND FORM's CARD OF 'corollarylaw14.DeltaParts'. -/
def deltaPartsUptoCard : Claim7 := { stood := { row := deltaPartsUptoRow, standIns := [], harness := (true, "5b3dd8625738f195875b61ffe9533ec4f7d18548e74740143f72697c1246d560"), looks := false }, kinds := [], alts := [], laidByText := true, laidKinds := [.data, .pinned], laidTests := true, laidLooks := .later }
def DeltaPartsUptoCardSaid : Prop := Claim7.holds Tryd.pinned (.plain (OpenSpec.upto deltaPartsSpec)) deltaPartsUptoCard

/-- THE SECOND FORM's CARD OF 'corollarylaw14.DeltaNothing'. -/
def deltaNothingUptoCard : Claim7 := { stood := { row := deltaNothingUptoRow, standIns := [], harness := (true, "5b3dd8625738f195875b61ffe9533ec4f7d18548e74740143f72697c1246d560"), looks := false }, kinds := [], alts := [], laidByText := true, laidKinds := [.data, .pinned], laidTests := true, laidLooks := .later }
def DeltaNothingUptoCardSaid : Prop := Claim7.holds Tryd.pinned (.plain (OpenSpec.upto deltaNothingSpec)) deltaNothingUptoCard
end Rows
end Go.Proofs.YtnggdcdiachkpaaDoor
