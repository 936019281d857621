/-
  NARROWER THAN 'FOR EVERY INPUT', by the rows' own cells (each row's printed sentence says how): BagRights: laid · BagSorts: laid · BagOnce: laid · BagCounts: laid · BagSums: laid · BagBack: laid.
  DERIVED. THE GIVEN ROWS OF THIS SEAT. 6 by the template 'for every input the law returns true; each argument reads behind the call as it read before'; 0 by the template 'total and deterministic' (their statements: YtckligjgnbgdiaaDoorTotals.lean).
  GIVEN WITH THE SEED: the statements are not yours to turn. If you find one false, say at which input.
  Laid BY PROGRAM, IN A SANDBOX (cutbox-rows.mjs): the forced cells as the released guide's own fill.sh prints them over the translation 43a3b0077a72a726… (all of the seat's roots in one cut). By AI agents, Wed Nov 11 2026. No macro, syntax, notation, axiom, sorry.
-/
import Derived.Test.YtckligjgnbgdiaaDoorChecked
import GoSem.PinnedTables
import GoSem.Claim
import GoSem.ClaimJoined
import GoSem.ClaimMapViews
import Derived.JoinedTies
import Derived.KernelRfl
namespace Go.Proofs.YtckligjgnbgdiaaDoor
/- THE CELL 'sum', in the pinned program and in every row, IS THE sha256 OF THE DUMP (.gsa) THAT YtckligjgnbgdiaaDoorProg.lean LOADS. Nothing in Lean hashes anything: it is a label: what it is worth is what the hold of that sum in a sandbox is worth. -/
noncomputable def Tryd.pinned : Pinned := { name := "ytckligjgnbgdiaadoor", sum := "43a3b0077a72a726e9c3e0320ac18d6b7217c2c824f5e88c331dd03cd86330bf", checked := Tryd.checked }
namespace Rows
def none {H : Type} : Left H := { results := [], args := [] }

/- WHAT THE LISTED PACKAGE-LEVEL VARIABLES READ AS WHEN THE CALL BEGINS. Each datum BY PROGRAM (the guide's laid-datum.mjs) off the statement by which the dump's own 'gosem.cut.vars' lays the variable. In a bare row this is a premise. The card (YtckligjgnbgdiaaDoorCards.lean) ties it to the program's text. -/
def laid_unicode_utf8_acceptRanges {H : Type} : DataW H := .agg [.agg [.lit (.int .u8 128), .lit (.int .u8 191)], .agg [.lit (.int .u8 160), .lit (.int .u8 191)], .agg [.lit (.int .u8 128), .lit (.int .u8 159)], .agg [.lit (.int .u8 144), .lit (.int .u8 191)], .agg [.lit (.int .u8 128), .lit (.int .u8 143)], .agg [.lit (.int .u8 0), .lit (.int .u8 0)], .agg [.lit (.int .u8 0), .lit (.int .u8 0)], .agg [.lit (.int .u8 0), .lit (.int .u8 0)], .agg [.lit (.int .u8 0), .lit (.int .u8 0)], .agg [.lit (.int .u8 0), .lit (.int .u8 0)], .agg [.lit (.int .u8 0), .lit (.int .u8 0)], .agg [.lit (.int .u8 0), .lit (.int .u8 0)], .agg [.lit (.int .u8 0), .lit (.int .u8 0)], .agg [.lit (.int .u8 0), .lit (.int .u8 0)], .agg [.lit (.int .u8 0), .lit (.int .u8 0)], .agg [.lit (.int .u8 0), .lit (.int .u8 0)]]
/-- One of Go's own tables, pinned by name: the form's constant. -/
def laid_unicode_utf8_first : DataW Unit := Go.Pinned.utf8First

/-- 'corollarylaw13.BagRights': WHATEVER THE INPUT: true; the input reads as it did. -/
def bagRightsSpec : ChangeSpec := { name := "bagRights", fn := fun _ => fun
  | [d1, d2] => { results := [.lit (.bool true)], args := [d1, d2] }
  | _ => none }
def bagRightsRow : OpenClaim := { program := "ytckligjgnbgdiaadoor", sum := "43a3b0077a72a726e9c3e0320ac18d6b7217c2c824f5e88c331dd03cd86330bf", func := "corollary/corollarylaw13.BagRights", spec := "bagRights", unfollowed := true, recurses := true, named := ["unicode/utf8.first", "unicode/utf8.acceptRanges"], apart := false, laid := [("unicode/utf8.acceptRanges", laid_unicode_utf8_acceptRanges), ("unicode/utf8.first", laid_unicode_utf8_first)] }
def BagRightsSaid : Prop := bagRightsRow.holds Tryd.pinned (OpenSpec.ofChange bagRightsSpec)

/-- ITS FALSE NEIGHBOUR: 'it returns false'. Refute it at one input. -/
def bagRightsWrong : ChangeSpec := { name := "bagRights", fn := fun _ => fun
  | [d1, d2] => { results := [.lit (.bool false)], args := [d1, d2] }
  | _ => none }
def BagRightsWrongFalsely : Prop := bagRightsRow.holds Tryd.pinned (OpenSpec.ofChange bagRightsWrong)

/-- 'corollarylaw13.BagSorts': WHATEVER THE INPUT: true; the input reads as it did. -/
def bagSortsSpec : ChangeSpec := { name := "bagSorts", fn := fun _ => fun
  | [d1, d2] => { results := [.lit (.bool true)], args := [d1, d2] }
  | _ => none }
def bagSortsRow : OpenClaim := { program := "ytckligjgnbgdiaadoor", sum := "43a3b0077a72a726e9c3e0320ac18d6b7217c2c824f5e88c331dd03cd86330bf", func := "corollary/corollarylaw13.BagSorts", spec := "bagSorts", unfollowed := true, recurses := true, named := ["unicode/utf8.first", "unicode/utf8.acceptRanges"], apart := false, laid := [("unicode/utf8.acceptRanges", laid_unicode_utf8_acceptRanges), ("unicode/utf8.first", laid_unicode_utf8_first)] }
def BagSortsSaid : Prop := bagSortsRow.holds Tryd.pinned (OpenSpec.ofChange bagSortsSpec)

/-- ITS FALSE NEIGHBOUR: 'it returns false'. Refute it at one input. -/
def bagSortsWrong : ChangeSpec := { name := "bagSorts", fn := fun _ => fun
  | [d1, d2] => { results := [.lit (.bool false)], args := [d1, d2] }
  | _ => none }
def BagSortsWrongFalsely : Prop := bagSortsRow.holds Tryd.pinned (OpenSpec.ofChange bagSortsWrong)

/-- 'corollarylaw13.BagOnce': WHATEVER THE INPUT: true; the input reads as it did. -/
def bagOnceSpec : ChangeSpec := { name := "bagOnce", fn := fun _ => fun
  | [d] => { results := [.lit (.bool true)], args := [d] }
  | _ => none }
def bagOnceRow : OpenClaim := { program := "ytckligjgnbgdiaadoor", sum := "43a3b0077a72a726e9c3e0320ac18d6b7217c2c824f5e88c331dd03cd86330bf", func := "corollary/corollarylaw13.BagOnce", spec := "bagOnce", unfollowed := true, recurses := true, named := ["unicode/utf8.first", "unicode/utf8.acceptRanges"], apart := false, laid := [("unicode/utf8.acceptRanges", laid_unicode_utf8_acceptRanges), ("unicode/utf8.first", laid_unicode_utf8_first)] }
def BagOnceSaid : Prop := bagOnceRow.holds Tryd.pinned (OpenSpec.ofChange bagOnceSpec)

/-- ITS FALSE NEIGHBOUR: 'it returns false'. Refute it at one input. -/
def bagOnceWrong : ChangeSpec := { name := "bagOnce", fn := fun _ => fun
  | [d] => { results := [.lit (.bool false)], args := [d] }
  | _ => none }
def BagOnceWrongFalsely : Prop := bagOnceRow.holds Tryd.pinned (OpenSpec.ofChange bagOnceWrong)

/-- 'corollarylaw13.BagCounts': WHATEVER THE INPUT: true; the input reads as it did. -/
def bagCountsSpec : ChangeSpec := { name := "bagCounts", fn := fun _ => fun
  | [d1, d2, d3] => { results := [.lit (.bool true)], args := [d1, d2, d3] }
  | _ => none }
def bagCountsRow : OpenClaim := { program := "ytckligjgnbgdiaadoor", sum := "43a3b0077a72a726e9c3e0320ac18d6b7217c2c824f5e88c331dd03cd86330bf", func := "corollary/corollarylaw13.BagCounts", spec := "bagCounts", unfollowed := true, recurses := true, named := ["unicode/utf8.first", "unicode/utf8.acceptRanges"], apart := false, laid := [("unicode/utf8.acceptRanges", laid_unicode_utf8_acceptRanges), ("unicode/utf8.first", laid_unicode_utf8_first)] }
def BagCountsSaid : Prop := bagCountsRow.holds Tryd.pinned (OpenSpec.ofChange bagCountsSpec)

/-- ITS FALSE NEIGHBOUR: 'it returns false'. Refute it at one input. -/
def bagCountsWrong : ChangeSpec := { name := "bagCounts", fn := fun _ => fun
  | [d1, d2, d3] => { results := [.lit (.bool false)], args := [d1, d2, d3] }
  | _ => none }
def BagCountsWrongFalsely : Prop := bagCountsRow.holds Tryd.pinned (OpenSpec.ofChange bagCountsWrong)

/-- 'corollarylaw13.BagSums': WHATEVER THE INPUT: true; the input reads as it did. -/
def bagSumsSpec : ChangeSpec := { name := "bagSums", fn := fun _ => fun
  | [d1, d2] => { results := [.lit (.bool true)], args := [d1, d2] }
  | _ => none }
def bagSumsRow : OpenClaim := { program := "ytckligjgnbgdiaadoor", sum := "43a3b0077a72a726e9c3e0320ac18d6b7217c2c824f5e88c331dd03cd86330bf", func := "corollary/corollarylaw13.BagSums", spec := "bagSums", unfollowed := true, recurses := true, named := ["unicode/utf8.first", "unicode/utf8.acceptRanges"], apart := false, laid := [("unicode/utf8.acceptRanges", laid_unicode_utf8_acceptRanges), ("unicode/utf8.first", laid_unicode_utf8_first)] }
def BagSumsSaid : Prop := bagSumsRow.holds Tryd.pinned (OpenSpec.ofChange bagSumsSpec)

/-- ITS FALSE NEIGHBOUR: 'it returns false'. Refute it at one input. -/
def bagSumsWrong : ChangeSpec := { name := "bagSums", fn := fun _ => fun
  | [d1, d2] => { results := [.lit (.bool false)], args := [d1, d2] }
  | _ => none }
def BagSumsWrongFalsely : Prop := bagSumsRow.holds Tryd.pinned (OpenSpec.ofChange bagSumsWrong)

/-- 'corollarylaw13.BagBack': WHATEVER THE INPUT: true; the input reads as it did. -/
def bagBackSpec : ChangeSpec := { name := "bagBack", fn := fun _ => fun
  | [d1, d2, d3] => { results := [.lit (.bool true)], args := [d1, d2, d3] }
  | _ => none }
def bagBackRow : OpenClaim := { program := "ytckligjgnbgdiaadoor", sum := "43a3b0077a72a726e9c3e0320ac18d6b7217c2c824f5e88c331dd03cd86330bf", func := "corollary/corollarylaw13.BagBack", spec := "bagBack", unfollowed := true, recurses := true, named := ["unicode/utf8.first", "unicode/utf8.acceptRanges"], apart := false, laid := [("unicode/utf8.acceptRanges", laid_unicode_utf8_acceptRanges), ("unicode/utf8.first", laid_unicode_utf8_first)] }
def BagBackSaid : Prop := bagBackRow.holds Tryd.pinned (OpenSpec.ofChange bagBackSpec)

/-- ITS FALSE NEIGHBOUR: 'it returns false'. Refute it at one input. -/
def bagBackWrong : ChangeSpec := { name := "bagBack", fn := fun _ => fun
  | [d1, d2, d3] => { results := [.lit (.bool false)], args := [d1, d2, d3] }
  | _ => none }
def BagBackWrongFalsely : Prop := bagBackRow.holds Tryd.pinned (OpenSpec.ofChange bagBackWrong)

/- THE SECOND FORM. 'bulk': how many values and letters a reading holds, each counted each time it is reached (what is shared counts as often as it is met; a slice's spare places count too). A statement '..UptoSaid' is the law's where the arguments, and the package variables that the reading takes, are together of bulk at most 1048576: NARROWER than '..Said'. Prove '..Said' where nothing that the law and all that it calls make is longer than what came in: it says more and counts as full. Else prove '..UptoSaid'. A law counts once. -/
mutual
def uptoBulk {H : Type} : DataW H → Nat
  | .lit (.string bytes) => bytes.length + 1
  | .lit _ => 1
  | .nil => 1
  | .ptr d => uptoBulk d + 1
  | .slice elems spare => uptoBulkAll elems + uptoBulkAll spare + 1
  | .agg parts => uptoBulkAll parts + 1
  | .iface _ d => uptoBulk d + 1
  | .map entries => uptoBulkEntries entries + 1
  | .held _ => 1
def uptoBulkAll {H : Type} : List (DataW H) → Nat
  | [] => 0
  | d :: r => uptoBulk d + uptoBulkAll r
def uptoBulkEntries {H : Type} : List (Lit × DataW H) → Nat
  | [] => 0
  | x :: r => uptoBulkEntry x + uptoBulkEntries r
def uptoBulkEntry {H : Type} : Lit × DataW H → Nat
  | (.string bytes, d) => bytes.length + uptoBulk d + 1
  | (_, d) => uptoBulk d + 1
 end
def uptoSmall : (H : Type) → List (DataW H) → Bool := fun _ ds => decide (uptoBulkAll ds ≤ 1048576)
def OpenSpec.upto (s : _root_.Go.ChangeSpec) : _root_.Go.OpenSpec := { _root_.Go.OpenSpec.ofChange s with cond := some uptoSmall }

/-- 'corollarylaw13.BagRights', WHERE WHAT IT READS IS OF BULK AT MOST 1048576: true; the input reads as it did. -/
def bagRightsUptoRow : OpenClaim := { program := "ytckligjgnbgdiaadoor", sum := "43a3b0077a72a726e9c3e0320ac18d6b7217c2c824f5e88c331dd03cd86330bf", func := "corollary/corollarylaw13.BagRights", spec := "bagRights", unfollowed := true, recurses := true, named := ["unicode/utf8.first", "unicode/utf8.acceptRanges"], apart := false, laid := [("unicode/utf8.acceptRanges", laid_unicode_utf8_acceptRanges), ("unicode/utf8.first", laid_unicode_utf8_first)], narrowed := true }
def BagRightsUptoSaid : Prop := bagRightsUptoRow.holds Tryd.pinned (OpenSpec.upto bagRightsSpec)

/-- 'corollarylaw13.BagSorts', WHERE WHAT IT READS IS OF BULK AT MOST 1048576: true; the input reads as it did. -/
def bagSortsUptoRow : OpenClaim := { program := "ytckligjgnbgdiaadoor", sum := "43a3b0077a72a726e9c3e0320ac18d6b7217c2c824f5e88c331dd03cd86330bf", func := "corollary/corollarylaw13.BagSorts", spec := "bagSorts", unfollowed := true, recurses := true, named := ["unicode/utf8.first", "unicode/utf8.acceptRanges"], apart := false, laid := [("unicode/utf8.acceptRanges", laid_unicode_utf8_acceptRanges), ("unicode/utf8.first", laid_unicode_utf8_first)], narrowed := true }
def BagSortsUptoSaid : Prop := bagSortsUptoRow.holds Tryd.pinned (OpenSpec.upto bagSortsSpec)

/-- 'corollarylaw13.BagOnce', WHERE WHAT IT READS IS OF BULK AT MOST 1048576: true; the input reads as it did. -/
def bagOnceUptoRow : OpenClaim := { program := "ytckligjgnbgdiaadoor", sum := "43a3b0077a72a726e9c3e0320ac18d6b7217c2c824f5e88c331dd03cd86330bf", func := "corollary/corollarylaw13.BagOnce", spec := "bagOnce", unfollowed := true, recurses := true, named := ["unicode/utf8.first", "unicode/utf8.acceptRanges"], apart := false, laid := [("unicode/utf8.acceptRanges", laid_unicode_utf8_acceptRanges), ("unicode/utf8.first", laid_unicode_utf8_first)], narrowed := true }
def BagOnceUptoSaid : Prop := bagOnceUptoRow.holds Tryd.pinned (OpenSpec.upto bagOnceSpec)

/-- 'corollarylaw13.BagCounts', WHERE WHAT IT READS IS OF BULK AT MOST 1048576: true; the input reads as it did. -/
def bagCountsUptoRow : OpenClaim := { program := "ytckligjgnbgdiaadoor", sum := "43a3b0077a72a726e9c3e0320ac18d6b7217c2c824f5e88c331dd03cd86330bf", func := "corollary/corollarylaw13.BagCounts", spec := "bagCounts", unfollowed := true, recurses := true, named := ["unicode/utf8.first", "unicode/utf8.acceptRanges"], apart := false, laid := [("unicode/utf8.acceptRanges", laid_unicode_utf8_acceptRanges), ("unicode/utf8.first", laid_unicode_utf8_first)], narrowed := true }
def BagCountsUptoSaid : Prop := bagCountsUptoRow.holds Tryd.pinned (OpenSpec.upto bagCountsSpec)

/-- 'corollarylaw13.BagSums', WHERE WHAT IT READS IS OF BULK AT MOST 1048576: true; the input reads as it did. -/
def bagSumsUptoRow : OpenClaim := { program := "ytckligjgnbgdiaadoor", sum := "43a3b0077a72a726e9c3e0320ac18d6b7217c2c824f5e88c331dd03cd86330bf", func := "corollary/corollarylaw13.BagSums", spec := "bagSums", unfollowed := true, recurses := true, named := ["unicode/utf8.first", "unicode/utf8.acceptRanges"], apart := false, laid := [("unicode/utf8.acceptRanges", laid_unicode_utf8_acceptRanges), ("unicode/utf8.first", laid_unicode_utf8_first)], narrowed := true }
def BagSumsUptoSaid : Prop := bagSumsUptoRow.holds Tryd.pinned (OpenSpec.upto bagSumsSpec)

/-- 'corollarylaw13.BagBack', WHERE WHAT IT READS IS OF BULK AT MOST 1048576: true; the input reads as it did. -/
def bagBackUptoRow : OpenClaim := { program := "ytckligjgnbgdiaadoor", sum := "43a3b0077a72a726e9c3e0320ac18d6b7217c2c824f5e88c331dd03cd86330bf", func := "corollary/corollarylaw13.BagBack", spec := "bagBack", unfollowed := true, recurses := true, named := ["unicode/utf8.first", "unicode/utf8.acceptRanges"], apart := false, laid := [("unicode/utf8.acceptRanges", laid_unicode_utf8_acceptRanges), ("unicode/utf8.first", laid_unicode_utf8_first)], narrowed := true }
def BagBackUptoSaid : Prop := bagBackUptoRow.holds Tryd.pinned (OpenSpec.upto bagBackSpec)

end Rows
end Go.Proofs.YtckligjgnbgdiaaDoor
