/-
  NARROWER THAN 'FOR EVERY INPUT', by the rows' own cells (each row's printed sentence says how): DeltaRows: laid · DeltaChanges: laid · DeltaTrue: laid · DeltaParts: laid · DeltaNothing: laid.
  DERIVED. THE GIVEN ROWS OF THIS SEAT. 5 by the template 'for every input the law returns true; each argument reads behind the call as it read before'; 0 by the template 'total and deterministic' (their statements: YtnggdcdiachkpaaDoorTotals.lean).
  GIVEN WITH THE SEED: the statements are not yours to turn. If you find one false, say at which input.
  Laid BY PROGRAM, IN A SANDBOX (cutbox-rows.mjs): the forced cells as the released guide's own fill.sh prints them over the translation e2b3f3332c30ad0b… (all of the seat's roots in one cut). By AI agents, Wed Nov 11 2026. No macro, syntax, notation, axiom, sorry.
-/
import Derived.Test.YtnggdcdiachkpaaDoorChecked
import GoSem.PinnedTables
import GoSem.Claim
import GoSem.ClaimJoined
import GoSem.ClaimMapViews
import Derived.JoinedTies
import Derived.KernelRfl
namespace Go.Proofs.YtnggdcdiachkpaaDoor
/- THE CELL 'sum', in the pinned program and in every row, IS THE sha256 OF THE DUMP (.gsa) THAT YtnggdcdiachkpaaDoorProg.lean LOADS. Nothing in Lean hashes anything: it is a label: what it is worth is what the hold of that sum in a sandbox is worth. -/
noncomputable def Tryd.pinned : Pinned := { name := "ytnggdcdiachkpaadoor", sum := "e2b3f3332c30ad0bbe33a539b24442edbf69f0df88178e55e5111415c6d7b739", checked := Tryd.checked }
namespace Rows
def none {H : Type} : Left H := { results := [], args := [] }

/- WHAT THE LISTED PACKAGE-LEVEL VARIABLES READ AS WHEN THE CALL BEGINS. Each datum BY PROGRAM (the guide's laid-datum.mjs) off the statement by which the dump's own 'gosem.cut.vars' lays the variable. In a bare row this is a premise. The card (YtnggdcdiachkpaaDoorCards.lean) ties it to the program's text. -/
def laid_unicode_utf8_acceptRanges {H : Type} : DataW H := .agg [.agg [.lit (.int .u8 128), .lit (.int .u8 191)], .agg [.lit (.int .u8 160), .lit (.int .u8 191)], .agg [.lit (.int .u8 128), .lit (.int .u8 159)], .agg [.lit (.int .u8 144), .lit (.int .u8 191)], .agg [.lit (.int .u8 128), .lit (.int .u8 143)], .agg [.lit (.int .u8 0), .lit (.int .u8 0)], .agg [.lit (.int .u8 0), .lit (.int .u8 0)], .agg [.lit (.int .u8 0), .lit (.int .u8 0)], .agg [.lit (.int .u8 0), .lit (.int .u8 0)], .agg [.lit (.int .u8 0), .lit (.int .u8 0)], .agg [.lit (.int .u8 0), .lit (.int .u8 0)], .agg [.lit (.int .u8 0), .lit (.int .u8 0)], .agg [.lit (.int .u8 0), .lit (.int .u8 0)], .agg [.lit (.int .u8 0), .lit (.int .u8 0)], .agg [.lit (.int .u8 0), .lit (.int .u8 0)], .agg [.lit (.int .u8 0), .lit (.int .u8 0)]]
/-- One of Go's own tables, pinned by name: the form's constant. -/
def laid_unicode_utf8_first : DataW Unit := Go.Pinned.utf8First

/-- 'corollarylaw14.DeltaRows': WHATEVER THE INPUT: true; the input reads as it did. -/
def deltaRowsSpec : ChangeSpec := { name := "deltaRows", fn := fun _ => fun
  | [d1, d2, d3, d4] => { results := [.lit (.bool true)], args := [d1, d2, d3, d4] }
  | _ => none }
def deltaRowsRow : OpenClaim := { program := "ytnggdcdiachkpaadoor", sum := "e2b3f3332c30ad0bbe33a539b24442edbf69f0df88178e55e5111415c6d7b739", func := "corollary/corollarylaw14.DeltaRows", spec := "deltaRows", unfollowed := true, recurses := true, named := ["unicode/utf8.first", "unicode/utf8.acceptRanges"], apart := false, laid := [("unicode/utf8.acceptRanges", laid_unicode_utf8_acceptRanges), ("unicode/utf8.first", laid_unicode_utf8_first)] }
def DeltaRowsSaid : Prop := deltaRowsRow.holds Tryd.pinned (OpenSpec.ofChange deltaRowsSpec)

/-- ITS FALSE NEIGHBOUR: 'it returns false'. Refute it at one input. -/
def deltaRowsWrong : ChangeSpec := { name := "deltaRows", fn := fun _ => fun
  | [d1, d2, d3, d4] => { results := [.lit (.bool false)], args := [d1, d2, d3, d4] }
  | _ => none }
def DeltaRowsWrongFalsely : Prop := deltaRowsRow.holds Tryd.pinned (OpenSpec.ofChange deltaRowsWrong)

/-- 'corollarylaw14.DeltaChanges': WHATEVER THE INPUT: true; the input reads as it did. -/
def deltaChangesSpec : ChangeSpec := { name := "deltaChanges", fn := fun _ => fun
  | [d1, d2, d3, d4, d5, d6] => { results := [.lit (.bool true)], args := [d1, d2, d3, d4, d5, d6] }
  | _ => none }
def deltaChangesRow : OpenClaim := { program := "ytnggdcdiachkpaadoor", sum := "e2b3f3332c30ad0bbe33a539b24442edbf69f0df88178e55e5111415c6d7b739", func := "corollary/corollarylaw14.DeltaChanges", spec := "deltaChanges", unfollowed := true, recurses := true, named := ["unicode/utf8.first", "unicode/utf8.acceptRanges"], apart := false, laid := [("unicode/utf8.acceptRanges", laid_unicode_utf8_acceptRanges), ("unicode/utf8.first", laid_unicode_utf8_first)] }
def DeltaChangesSaid : Prop := deltaChangesRow.holds Tryd.pinned (OpenSpec.ofChange deltaChangesSpec)

/-- ITS FALSE NEIGHBOUR: 'it returns false'. Refute it at one input. -/
def deltaChangesWrong : ChangeSpec := { name := "deltaChanges", fn := fun _ => fun
  | [d1, d2, d3, d4, d5, d6] => { results := [.lit (.bool false)], args := [d1, d2, d3, d4, d5, d6] }
  | _ => none }
def DeltaChangesWrongFalsely : Prop := deltaChangesRow.holds Tryd.pinned (OpenSpec.ofChange deltaChangesWrong)

/-- 'corollarylaw14.DeltaTrue': WHATEVER THE INPUT: true; the input reads as it did. -/
def deltaTrueSpec : ChangeSpec := { name := "deltaTrue", fn := fun _ => fun
  | [d1, d2, d3, d4, d5, d6] => { results := [.lit (.bool true)], args := [d1, d2, d3, d4, d5, d6] }
  | _ => none }
def deltaTrueRow : OpenClaim := { program := "ytnggdcdiachkpaadoor", sum := "e2b3f3332c30ad0bbe33a539b24442edbf69f0df88178e55e5111415c6d7b739", func := "corollary/corollarylaw14.DeltaTrue", spec := "deltaTrue", unfollowed := true, recurses := true, named := ["unicode/utf8.first", "unicode/utf8.acceptRanges"], apart := false, laid := [("unicode/utf8.acceptRanges", laid_unicode_utf8_acceptRanges), ("unicode/utf8.first", laid_unicode_utf8_first)] }
def DeltaTrueSaid : Prop := deltaTrueRow.holds Tryd.pinned (OpenSpec.ofChange deltaTrueSpec)

/-- ITS FALSE NEIGHBOUR: 'it returns false'. Refute it at one input. -/
def deltaTrueWrong : ChangeSpec := { name := "deltaTrue", fn := fun _ => fun
  | [d1, d2, d3, d4, d5, d6] => { results := [.lit (.bool false)], args := [d1, d2, d3, d4, d5, d6] }
  | _ => none }
def DeltaTrueWrongFalsely : Prop := deltaTrueRow.holds Tryd.pinned (OpenSpec.ofChange deltaTrueWrong)

/-- 'corollarylaw14.DeltaParts': WHATEVER THE INPUT: true; the input reads as it did. -/
def deltaPartsSpec : ChangeSpec := { name := "deltaParts", fn := fun _ => fun
  | [d1, d2, d3, d4, d5, d6] => { results := [.lit (.bool true)], args := [d1, d2, d3, d4, d5, d6] }
  | _ => none }
def deltaPartsRow : OpenClaim := { program := "ytnggdcdiachkpaadoor", sum := "e2b3f3332c30ad0bbe33a539b24442edbf69f0df88178e55e5111415c6d7b739", func := "corollary/corollarylaw14.DeltaParts", spec := "deltaParts", unfollowed := true, recurses := true, named := ["unicode/utf8.first", "unicode/utf8.acceptRanges"], apart := false, laid := [("unicode/utf8.acceptRanges", laid_unicode_utf8_acceptRanges), ("unicode/utf8.first", laid_unicode_utf8_first)] }
def DeltaPartsSaid : Prop := deltaPartsRow.holds Tryd.pinned (OpenSpec.ofChange deltaPartsSpec)

/-- ITS FALSE NEIGHBOUR: 'it returns false'. Refute it at one input. -/
def deltaPartsWrong : ChangeSpec := { name := "deltaParts", fn := fun _ => fun
  | [d1, d2, d3, d4, d5, d6] => { results := [.lit (.bool false)], args := [d1, d2, d3, d4, d5, d6] }
  | _ => none }
def DeltaPartsWrongFalsely : Prop := deltaPartsRow.holds Tryd.pinned (OpenSpec.ofChange deltaPartsWrong)

/-- 'corollarylaw14.DeltaNothing': WHATEVER THE INPUT: true; the input reads as it did. -/
def deltaNothingSpec : ChangeSpec := { name := "deltaNothing", fn := fun _ => fun
  | [d1, d2, d3, d4, d5] => { results := [.lit (.bool true)], args := [d1, d2, d3, d4, d5] }
  | _ => none }
def deltaNothingRow : OpenClaim := { program := "ytnggdcdiachkpaadoor", sum := "e2b3f3332c30ad0bbe33a539b24442edbf69f0df88178e55e5111415c6d7b739", func := "corollary/corollarylaw14.DeltaNothing", spec := "deltaNothing", unfollowed := true, recurses := true, named := ["unicode/utf8.first", "unicode/utf8.acceptRanges"], apart := false, laid := [("unicode/utf8.acceptRanges", laid_unicode_utf8_acceptRanges), ("unicode/utf8.first", laid_unicode_utf8_first)] }
def DeltaNothingSaid : Prop := deltaNothingRow.holds Tryd.pinned (OpenSpec.ofChange deltaNothingSpec)

/-- ITS FALSE NEIGHBOUR: 'it returns false'. Refute it at one input. -/
def deltaNothingWrong : ChangeSpec := { name := "deltaNothing", fn := fun _ => fun
  | [d1, d2, d3, d4, d5] => { results := [.lit (.bool false)], args := [d1, d2, d3, d4, d5] }
  | _ => none }
def DeltaNothingWrongFalsely : Prop := deltaNothingRow.holds Tryd.pinned (OpenSpec.ofChange deltaNothingWrong)

/- THE SECOND FORM. 'bulk': how many values and letters a reading holds, each counted each time it is reached (what is shared counts as often as it is met; a slice's spare places count too). A statement '..UptoSaid' is the law's where the arguments, and the package variables that the reading takes, are together of bulk at most 1048576: NARROWER than '..Said'. Prove '..Said' where nothing that the law and all that it calls make is longer than what came in: it says more and counts as full. Else prove '..UptoSaid'. A law counts once. -/
mutual
def uptoBulk {H : Type} : DataW H → Nat
  | .lit (.string bytes) => bytes.length + 1
  | .lit _ => 1
  | .nil => 1
  | .ptr d => uptoBulk d + 1
  | .slice elems spare => uptoBulkAll elems + uptoBulkAll spare + 1
  | .agg parts => uptoBulkAll parts + 1
  | .iface _ d => uptoBulk d + 1
  | .map entries => uptoBulkEntries entries + 1
  | .held _ => 1
def uptoBulkAll {H : Type} : List (DataW H) → Nat
  | [] => 0
  | d :: r => uptoBulk d + uptoBulkAll r
def uptoBulkEntries {H : Type} : List (Lit × DataW H) → Nat
  | [] => 0
  | x :: r => uptoBulkEntry x + uptoBulkEntries r
def uptoBulkEntry {H : Type} : Lit × DataW H → Nat
  | (.string bytes, d) => bytes.length + uptoBulk d + 1
  | (_, d) => uptoBulk d + 1
 end
def uptoSmall : (H : Type) → List (DataW H) → Bool := fun _ ds => decide (uptoBulkAll ds ≤ 1048576)
def OpenSpec.upto (s : _root_.Go.ChangeSpec) : _root_.Go.OpenSpec := { _root_.Go.OpenSpec.ofChange s with cond := some uptoSmall }

/-- 'corollarylaw14.DeltaRows', WHERE WHAT IT READS IS OF BULK AT MOST 1048576: true; the input reads as it did. -/
def deltaRowsUptoRow : OpenClaim := { program := "ytnggdcdiachkpaadoor", sum := "e2b3f3332c30ad0bbe33a539b24442edbf69f0df88178e55e5111415c6d7b739", func := "corollary/corollarylaw14.DeltaRows", spec := "deltaRows", unfollowed := true, recurses := true, named := ["unicode/utf8.first", "unicode/utf8.acceptRanges"], apart := false, laid := [("unicode/utf8.acceptRanges", laid_unicode_utf8_acceptRanges), ("unicode/utf8.first", laid_unicode_utf8_first)], narrowed := true }
def DeltaRowsUptoSaid : Prop := deltaRowsUptoRow.holds Tryd.pinned (OpenSpec.upto deltaRowsSpec)

/-- 'corollarylaw14.DeltaChanges', WHERE WHAT IT READS IS OF BULK AT MOST 1048576: true; the input reads as it did. -/
def deltaChangesUptoRow : OpenClaim := { program := "ytnggdcdiachkpaadoor", sum := "e2b3f3332c30ad0bbe33a539b24442edbf69f0df88178e55e5111415c6d7b739", func := "corollary/corollarylaw14.DeltaChanges", spec := "deltaChanges", unfollowed := true, recurses := true, named := ["unicode/utf8.first", "unicode/utf8.acceptRanges"], apart := false, laid := [("unicode/utf8.acceptRanges", laid_unicode_utf8_acceptRanges), ("unicode/utf8.first", laid_unicode_utf8_first)], narrowed := true }
def DeltaChangesUptoSaid : Prop := deltaChangesUptoRow.holds Tryd.pinned (OpenSpec.upto deltaChangesSpec)

/-- 'corollarylaw14.DeltaTrue', WHERE WHAT IT READS IS OF BULK AT MOST 1048576: true; the input reads as it did. -/
def deltaTrueUptoRow : OpenClaim := { program := "ytnggdcdiachkpaadoor", sum := "e2b3f3332c30ad0bbe33a539b24442edbf69f0df88178e55e5111415c6d7b739", func := "corollary/corollarylaw14.DeltaTrue", spec := "deltaTrue", unfollowed := true, recurses := true, named := ["unicode/utf8.first", "unicode/utf8.acceptRanges"], apart := false, laid := [("unicode/utf8.acceptRanges", laid_unicode_utf8_acceptRanges), ("unicode/utf8.first", laid_unicode_utf8_first)], narrowed := true }
def DeltaTrueUptoSaid : Prop := deltaTrueUptoRow.holds Tryd.pinned (OpenSpec.upto deltaTrueSpec)

/-- 'corollarylaw14.DeltaParts', WHERE WHAT IT READS IS OF BULK AT MOST 1048576: true; the input reads as it did. -/
def deltaPartsUptoRow : OpenClaim := { program := "ytnggdcdiachkpaadoor", sum := "e2b3f3332c30ad0bbe33a539b24442edbf69f0df88178e55e5111415c6d7b739", func := "corollary/corollarylaw14.DeltaParts", spec := "deltaParts", unfollowed := true, recurses := true, named := ["unicode/utf8.first", "unicode/utf8.acceptRanges"], apart := false, laid := [("unicode/utf8.acceptRanges", laid_unicode_utf8_acceptRanges), ("unicode/utf8.first", laid_unicode_utf8_first)], narrowed := true }
def DeltaPartsUptoSaid : Prop := deltaPartsUptoRow.holds Tryd.pinned (OpenSpec.upto deltaPartsSpec)

/-- 'corollarylaw14.DeltaNothing', WHERE WHAT IT READS IS OF BULK AT MOST 1048576: true; the input reads as it did. -/
def deltaNothingUptoRow : OpenClaim := { program := "ytnggdcdiachkpaadoor", sum := "e2b3f3332c30ad0bbe33a539b24442edbf69f0df88178e55e5111415c6d7b739", func := "corollary/corollarylaw14.DeltaNothing", spec := "deltaNothing", unfollowed := true, recurses := true, named := ["unicode/utf8.first", "unicode/utf8.acceptRanges"], apart := false, laid := [("unicode/utf8.acceptRanges", laid_unicode_utf8_acceptRanges), ("unicode/utf8.first", laid_unicode_utf8_first)], narrowed := true }
def DeltaNothingUptoSaid : Prop := deltaNothingUptoRow.holds Tryd.pinned (OpenSpec.upto deltaNothingSpec)

end Rows
end Go.Proofs.YtnggdcdiachkpaaDoor
