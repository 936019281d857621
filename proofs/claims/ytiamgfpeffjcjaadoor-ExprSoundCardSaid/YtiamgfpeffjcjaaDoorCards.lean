/-
  DERIVED. GIVEN WITH THE SEED: THE CARDS: each row of YtiamgfpeffjcjaaDoorRows.lean that lists a variable, with what it lists TIED to the program's text (the seventh form; the later family's looks); each row that meets fmt, with fmt's text TOLD by the authors' own Lean function (tested against real Go, not proved from fmt's source: count such statements apart). THE CARD IS WHAT COUNTS. Prove the row's statement (the work); the ties are given (YtiamgfpeffjcjaaDoorTie.lean); close each card by the builder's one call (the guide's Derived/Test/ToyasCard.lean, 'card_holds'). Laid BY PROGRAM, IN A SANDBOX (cutbox-door.mjs). By AI agents, Wed Nov 11 2026. No macro, syntax, notation, axiom, sorry.
-/
import Derived.Test.YtiamgfpeffjcjaaDoorRows
import GoSem.ClaimSeven
namespace Go.Proofs.YtiamgfpeffjcjaaDoor
namespace Rows

/-- THE TIED CARD OF 'corollarylaw10.ExprSound'. -/
def exprSoundCard : Claim7 := { stood := { row := exprSoundRow, standIns := [], harness := (true, "67fb51428189666ada5ba36918801daf35cf4ed61ef1ad2ef1b24f1d63d15ce4"), looks := false }, kinds := [], alts := [], laidByText := true, laidKinds := [.data, .pinned], laidTests := true, laidLooks := .later }
def ExprSoundCardSaid : Prop := Claim7.holds Tryd.pinned (.plain (OpenSpec.ofChange exprSoundSpec)) exprSoundCard

/-- THE TIED CARD OF 'corollarylaw10.ExprMirror'. -/
def exprMirrorCard : Claim7 := { stood := { row := exprMirrorRow, standIns := [], harness := (true, "67fb51428189666ada5ba36918801daf35cf4ed61ef1ad2ef1b24f1d63d15ce4"), looks := false }, kinds := [], alts := [], laidByText := true, laidKinds := [.data, .pinned], laidTests := true, laidLooks := .later }
def ExprMirrorCardSaid : Prop := Claim7.holds Tryd.pinned (.plain (OpenSpec.ofChange exprMirrorSpec)) exprMirrorCard

/-- THE TIED CARD OF 'corollarylaw10.ExprLaws'. -/
def exprLawsCard : Claim7 := { stood := { row := exprLawsRow, standIns := [], harness := (true, "67fb51428189666ada5ba36918801daf35cf4ed61ef1ad2ef1b24f1d63d15ce4"), looks := false }, kinds := [], alts := [], laidByText := true, laidKinds := [.data, .pinned], laidTests := true, laidLooks := .later }
def ExprLawsCardSaid : Prop := Claim7.holds Tryd.pinned (.plain (OpenSpec.ofChange exprLawsSpec)) exprLawsCard

/-- THE TIED CARD OF 'corollarylaw10.ExprPlain'. -/
def exprPlainCard : Claim7 := { stood := { row := exprPlainRow, standIns := [], harness := (true, "67fb51428189666ada5ba36918801daf35cf4ed61ef1ad2ef1b24f1d63d15ce4"), looks := false }, kinds := [], alts := [], laidByText := true, laidKinds := [.data, .pinned], laidTests := true, laidLooks := .later }
def ExprPlainCardSaid : Prop := Claim7.holds Tryd.pinned (.plain (OpenSpec.ofChange exprPlainSpec)) exprPlainCard

/-- THE TIED CARD OF 'corollarylaw10.ExprHolds'. -/
def exprHoldsCard : Claim7 := { stood := { row := exprHoldsRow, standIns := [], harness := (true, "67fb51428189666ada5ba36918801daf35cf4ed61ef1ad2ef1b24f1d63d15ce4"), looks := false }, kinds := [], alts := [], laidByText := true, laidKinds := [.data, .pinned], laidTests := true, laidLooks := .later }
def ExprHoldsCardSaid : Prop := Claim7.holds Tryd.pinned (.plain (OpenSpec.ofChange exprHoldsSpec)) exprHoldsCard

/-- THE SECOND FORM's CARD OF 'corollarylaw10.ExprSound'. -/
def exprSoundUptoCard : Claim7 := { stood := { row := exprSoundUptoRow, standIns := [], harness := (true, "67fb51428189666ada5ba36918801daf35cf4ed61ef1ad2ef1b24f1d63d15ce4"), looks := false }, kinds := [], alts := [], laidByText := true, laidKinds := [.data, .pinned], laidTests := true, laidLooks := .later }
def ExprSoundUptoCardSaid : Prop := Claim7.holds Tryd.pinned (.plain (OpenSpec.upto exprSoundSpec)) exprSoundUptoCard

/-- THE SECOND FORM's CARD OF 'corollarylaw10.ExprMirror'. -/
def exprMirrorUptoCard : Claim7 := { stood := { row := exprMirrorUptoRow, standIns := [], harness := (true, "67fb51428189666ada5ba36918801daf35cf4ed61ef1ad2ef1b24f1d63d15ce4"), looks := false }, kinds := [], alts := [], laidByText := true, laidKinds := [.data, .pinned], laidTests := true, laidLooks := .later }
def ExprMirrorUptoCardSaid : Prop := Claim7.holds Tryd.pinned (.plain (OpenSpec.upto exprMirrorSpec)) exprMirrorUptoCard

/-- THE SECOND FORM's CARD OF 'corollarylaw10.ExprLaws'. -/
def exprLawsUptoCard : Claim7 := { stood := { row := exprLawsUptoRow, standIns := [], harness := (true, "67fb51428189666ada5ba36918801daf35cf4ed61ef1ad2ef1b24f1d63d15ce4"), looks := false }, kinds := [], alts := [], laidByText := true, laidKinds := [.data, .pinned], laidTests := true, laidLooks := .later }
def ExprLawsUptoCardSaid : Prop := Claim7.holds Tryd.pinned (.plain (OpenSpec.upto exprLawsSpec)) exprLawsUptoCard

/-- THE SECOND FORM's CARD OF 'corollarylaw10.ExprPlain'. -/
def exprPlainUptoCard : Claim7 := { stood := { row := exprPlainUptoRow, standIns := [], harness := (true, "67fb51428189666ada5ba36918801daf35cf4ed61ef1ad2ef1b24f1d63d15ce4"), looks := false }, kinds := [], alts := [], laidByText := true, laidKinds := [.data, .pinned], laidTests := true, laidLooks := .later }
def ExprPlainUptoCardSaid : Prop := Claim7.holds Tryd.pinned (.plain (OpenSpec.upto exprPlainSpec)) exprPlainUptoCard

/-- THE SECOND FORM's CARD OF 'corollarylaw10.ExprHolds'. -/
def exprHoldsUptoCard : Claim7 := { stood := { row := exprHoldsUptoRow, standIns := [], harness := (true, "67fb51428189666ada5ba36918801daf35cf4ed61ef1ad2ef1b24f1d63d15ce4"), looks := false }, kinds := [], alts := [], laidByText := true, laidKinds := [.data, .pinned], laidTests := true, laidLooks := .later }
def ExprHoldsUptoCardSaid : Prop := Claim7.holds Tryd.pinned (.plain (OpenSpec.upto exprHoldsSpec)) exprHoldsUptoCard
end Rows
end Go.Proofs.YtiamgfpeffjcjaaDoor
