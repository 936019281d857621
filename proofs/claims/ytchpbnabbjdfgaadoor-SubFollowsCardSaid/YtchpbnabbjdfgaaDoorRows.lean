/-
  NARROWER THAN 'FOR EVERY INPUT', by the rows' own cells (each row's printed sentence says how): SubApplies: laid · SubStays: laid · SubOld: laid · SubSums: laid · SubFollows: laid.
  DERIVED. THE GIVEN ROWS OF THIS SEAT. 5 by the template 'for every input the law returns true; each argument reads behind the call as it read before'; 0 by the template 'total and deterministic' (their statements: YtchpbnabbjdfgaaDoorTotals.lean).
  GIVEN WITH THE SEED: the statements are not yours to turn. If you find one false, say at which input.
  Laid BY PROGRAM, IN A SANDBOX (cutbox-rows.mjs): the forced cells as the released guide's own fill.sh prints them over the translation 8035e98095987bc7… (all of the seat's roots in one cut). By AI agents, Wed Nov 11 2026. No macro, syntax, notation, axiom, sorry.
-/
import Derived.Test.YtchpbnabbjdfgaaDoorChecked
import GoSem.PinnedTables
import GoSem.Claim
import GoSem.ClaimJoined
import GoSem.ClaimMapViews
import Derived.JoinedTies
import Derived.KernelRfl
namespace Go.Proofs.YtchpbnabbjdfgaaDoor
/- THE CELL 'sum', in the pinned program and in every row, IS THE sha256 OF THE DUMP (.gsa) THAT YtchpbnabbjdfgaaDoorProg.lean LOADS. Nothing in Lean hashes anything: it is a label: what it is worth is what the hold of that sum in a sandbox is worth. -/
noncomputable def Tryd.pinned : Pinned := { name := "ytchpbnabbjdfgaadoor", sum := "8035e98095987bc7aa3b7a85595cc51f22f62859dbfcc000913a442b5239fde7", checked := Tryd.checked }
namespace Rows
def none {H : Type} : Left H := { results := [], args := [] }

/- WHAT THE LISTED PACKAGE-LEVEL VARIABLES READ AS WHEN THE CALL BEGINS. Each datum BY PROGRAM (the guide's laid-datum.mjs) off the statement by which the dump's own 'gosem.cut.vars' lays the variable. In a bare row this is a premise. The card (YtchpbnabbjdfgaaDoorCards.lean) ties it to the program's text. -/
def laid_unicode_utf8_acceptRanges {H : Type} : DataW H := .agg [.agg [.lit (.int .u8 128), .lit (.int .u8 191)], .agg [.lit (.int .u8 160), .lit (.int .u8 191)], .agg [.lit (.int .u8 128), .lit (.int .u8 159)], .agg [.lit (.int .u8 144), .lit (.int .u8 191)], .agg [.lit (.int .u8 128), .lit (.int .u8 143)], .agg [.lit (.int .u8 0), .lit (.int .u8 0)], .agg [.lit (.int .u8 0), .lit (.int .u8 0)], .agg [.lit (.int .u8 0), .lit (.int .u8 0)], .agg [.lit (.int .u8 0), .lit (.int .u8 0)], .agg [.lit (.int .u8 0), .lit (.int .u8 0)], .agg [.lit (.int .u8 0), .lit (.int .u8 0)], .agg [.lit (.int .u8 0), .lit (.int .u8 0)], .agg [.lit (.int .u8 0), .lit (.int .u8 0)], .agg [.lit (.int .u8 0), .lit (.int .u8 0)], .agg [.lit (.int .u8 0), .lit (.int .u8 0)], .agg [.lit (.int .u8 0), .lit (.int .u8 0)]]
/-- One of Go's own tables, pinned by name: the form's constant. -/
def laid_unicode_utf8_first : DataW Unit := Go.Pinned.utf8First

/-- 'corollarylaw22.SubApplies': WHATEVER THE INPUT: true; the input reads as it did. -/
def subAppliesSpec : ChangeSpec := { name := "subApplies", fn := fun _ => fun
  | [d1, d2] => { results := [.lit (.bool true)], args := [d1, d2] }
  | _ => none }
def subAppliesRow : OpenClaim := { program := "ytchpbnabbjdfgaadoor", sum := "8035e98095987bc7aa3b7a85595cc51f22f62859dbfcc000913a442b5239fde7", func := "corollary/corollarylaw22.SubApplies", spec := "subApplies", inPlace := ["internal/bytealg.abigen_runtime_cmpstring", "slices.overlaps[corollary/api.Change]", "slices.overlaps[corollary/feed.Note]"], unfollowed := true, recurses := true, named := ["unicode/utf8.first", "unicode/utf8.acceptRanges"], apart := false, laid := [("unicode/utf8.acceptRanges", laid_unicode_utf8_acceptRanges), ("unicode/utf8.first", laid_unicode_utf8_first)] }
def SubAppliesSaid : Prop := subAppliesRow.holds Tryd.pinned (OpenSpec.ofChange subAppliesSpec)

/-- ITS FALSE NEIGHBOUR: 'it returns false'. Refute it at one input. -/
def subAppliesWrong : ChangeSpec := { name := "subApplies", fn := fun _ => fun
  | [d1, d2] => { results := [.lit (.bool false)], args := [d1, d2] }
  | _ => none }
def SubAppliesWrongFalsely : Prop := subAppliesRow.holds Tryd.pinned (OpenSpec.ofChange subAppliesWrong)

/-- 'corollarylaw22.SubStays': WHATEVER THE INPUT: true; the input reads as it did. -/
def subStaysSpec : ChangeSpec := { name := "subStays", fn := fun _ => fun
  | [d1, d2] => { results := [.lit (.bool true)], args := [d1, d2] }
  | _ => none }
def subStaysRow : OpenClaim := { program := "ytchpbnabbjdfgaadoor", sum := "8035e98095987bc7aa3b7a85595cc51f22f62859dbfcc000913a442b5239fde7", func := "corollary/corollarylaw22.SubStays", spec := "subStays", inPlace := ["internal/bytealg.abigen_runtime_cmpstring", "slices.overlaps[corollary/api.Change]", "slices.overlaps[corollary/feed.Note]"], unfollowed := true, recurses := true, named := ["unicode/utf8.first", "unicode/utf8.acceptRanges"], apart := false, laid := [("unicode/utf8.acceptRanges", laid_unicode_utf8_acceptRanges), ("unicode/utf8.first", laid_unicode_utf8_first)] }
def SubStaysSaid : Prop := subStaysRow.holds Tryd.pinned (OpenSpec.ofChange subStaysSpec)

/-- ITS FALSE NEIGHBOUR: 'it returns false'. Refute it at one input. -/
def subStaysWrong : ChangeSpec := { name := "subStays", fn := fun _ => fun
  | [d1, d2] => { results := [.lit (.bool false)], args := [d1, d2] }
  | _ => none }
def SubStaysWrongFalsely : Prop := subStaysRow.holds Tryd.pinned (OpenSpec.ofChange subStaysWrong)

/-- 'corollarylaw22.SubOld': WHATEVER THE INPUT: true; the input reads as it did. -/
def subOldSpec : ChangeSpec := { name := "subOld", fn := fun _ => fun
  | [d1, d2] => { results := [.lit (.bool true)], args := [d1, d2] }
  | _ => none }
def subOldRow : OpenClaim := { program := "ytchpbnabbjdfgaadoor", sum := "8035e98095987bc7aa3b7a85595cc51f22f62859dbfcc000913a442b5239fde7", func := "corollary/corollarylaw22.SubOld", spec := "subOld", inPlace := ["internal/bytealg.abigen_runtime_cmpstring", "slices.overlaps[corollary/api.Change]", "slices.overlaps[corollary/feed.Note]"], unfollowed := true, recurses := true, named := ["unicode/utf8.first", "unicode/utf8.acceptRanges"], apart := false, laid := [("unicode/utf8.acceptRanges", laid_unicode_utf8_acceptRanges), ("unicode/utf8.first", laid_unicode_utf8_first)] }
def SubOldSaid : Prop := subOldRow.holds Tryd.pinned (OpenSpec.ofChange subOldSpec)

/-- ITS FALSE NEIGHBOUR: 'it returns false'. Refute it at one input. -/
def subOldWrong : ChangeSpec := { name := "subOld", fn := fun _ => fun
  | [d1, d2] => { results := [.lit (.bool false)], args := [d1, d2] }
  | _ => none }
def SubOldWrongFalsely : Prop := subOldRow.holds Tryd.pinned (OpenSpec.ofChange subOldWrong)

/-- 'corollarylaw22.SubSums': WHATEVER THE INPUT: true; the input reads as it did. -/
def subSumsSpec : ChangeSpec := { name := "subSums", fn := fun _ => fun
  | [d1, d2, d3] => { results := [.lit (.bool true)], args := [d1, d2, d3] }
  | _ => none }
def subSumsRow : OpenClaim := { program := "ytchpbnabbjdfgaadoor", sum := "8035e98095987bc7aa3b7a85595cc51f22f62859dbfcc000913a442b5239fde7", func := "corollary/corollarylaw22.SubSums", spec := "subSums", inPlace := ["internal/bytealg.abigen_runtime_cmpstring", "slices.overlaps[corollary/api.Change]", "slices.overlaps[corollary/feed.Note]"], unfollowed := true, recurses := true, named := ["unicode/utf8.first", "unicode/utf8.acceptRanges"], apart := false, laid := [("unicode/utf8.acceptRanges", laid_unicode_utf8_acceptRanges), ("unicode/utf8.first", laid_unicode_utf8_first)] }
def SubSumsSaid : Prop := subSumsRow.holds Tryd.pinned (OpenSpec.ofChange subSumsSpec)

/-- ITS FALSE NEIGHBOUR: 'it returns false'. Refute it at one input. -/
def subSumsWrong : ChangeSpec := { name := "subSums", fn := fun _ => fun
  | [d1, d2, d3] => { results := [.lit (.bool false)], args := [d1, d2, d3] }
  | _ => none }
def SubSumsWrongFalsely : Prop := subSumsRow.holds Tryd.pinned (OpenSpec.ofChange subSumsWrong)

/-- 'corollarylaw22.SubFollows': WHATEVER THE INPUT: true; the input reads as it did. -/
def subFollowsSpec : ChangeSpec := { name := "subFollows", fn := fun _ => fun
  | [d1, d2] => { results := [.lit (.bool true)], args := [d1, d2] }
  | _ => none }
def subFollowsRow : OpenClaim := { program := "ytchpbnabbjdfgaadoor", sum := "8035e98095987bc7aa3b7a85595cc51f22f62859dbfcc000913a442b5239fde7", func := "corollary/corollarylaw22.SubFollows", spec := "subFollows", inPlace := ["internal/bytealg.abigen_runtime_cmpstring", "slices.overlaps[corollary/api.Change]", "slices.overlaps[corollary/feed.Note]"], unfollowed := true, recurses := true, named := ["unicode/utf8.first", "unicode/utf8.acceptRanges"], apart := false, laid := [("unicode/utf8.acceptRanges", laid_unicode_utf8_acceptRanges), ("unicode/utf8.first", laid_unicode_utf8_first)] }
def SubFollowsSaid : Prop := subFollowsRow.holds Tryd.pinned (OpenSpec.ofChange subFollowsSpec)

/-- ITS FALSE NEIGHBOUR: 'it returns false'. Refute it at one input. -/
def subFollowsWrong : ChangeSpec := { name := "subFollows", fn := fun _ => fun
  | [d1, d2] => { results := [.lit (.bool false)], args := [d1, d2] }
  | _ => none }
def SubFollowsWrongFalsely : Prop := subFollowsRow.holds Tryd.pinned (OpenSpec.ofChange subFollowsWrong)

/- THE SECOND FORM. 'bulk': how many values and letters a reading holds, each counted each time it is reached (what is shared counts as often as it is met; a slice's spare places count too). A statement '..UptoSaid' is the law's where the arguments, and the package variables that the reading takes, are together of bulk at most 1048576: NARROWER than '..Said'. Prove '..Said' where nothing that the law and all that it calls make is longer than what came in: it says more and counts as full. Else prove '..UptoSaid'. A law counts once. -/
mutual
def uptoBulk {H : Type} : DataW H → Nat
  | .lit (.string bytes) => bytes.length + 1
  | .lit _ => 1
  | .nil => 1
  | .ptr d => uptoBulk d + 1
  | .slice elems spare => uptoBulkAll elems + uptoBulkAll spare + 1
  | .agg parts => uptoBulkAll parts + 1
  | .iface _ d => uptoBulk d + 1
  | .map entries => uptoBulkEntries entries + 1
  | .held _ => 1
def uptoBulkAll {H : Type} : List (DataW H) → Nat
  | [] => 0
  | d :: r => uptoBulk d + uptoBulkAll r
def uptoBulkEntries {H : Type} : List (Lit × DataW H) → Nat
  | [] => 0
  | x :: r => uptoBulkEntry x + uptoBulkEntries r
def uptoBulkEntry {H : Type} : Lit × DataW H → Nat
  | (.string bytes, d) => bytes.length + uptoBulk d + 1
  | (_, d) => uptoBulk d + 1
 end
def uptoSmall : (H : Type) → List (DataW H) → Bool := fun _ ds => decide (uptoBulkAll ds ≤ 1048576)
def OpenSpec.upto (s : _root_.Go.ChangeSpec) : _root_.Go.OpenSpec := { _root_.Go.OpenSpec.ofChange s with cond := some uptoSmall }

/-- 'corollarylaw22.SubApplies', WHERE WHAT IT READS IS OF BULK AT MOST 1048576: true; the input reads as it did. -/
def subAppliesUptoRow : OpenClaim := { program := "ytchpbnabbjdfgaadoor", sum := "8035e98095987bc7aa3b7a85595cc51f22f62859dbfcc000913a442b5239fde7", func := "corollary/corollarylaw22.SubApplies", spec := "subApplies", inPlace := ["internal/bytealg.abigen_runtime_cmpstring", "slices.overlaps[corollary/api.Change]", "slices.overlaps[corollary/feed.Note]"], unfollowed := true, recurses := true, named := ["unicode/utf8.first", "unicode/utf8.acceptRanges"], apart := false, laid := [("unicode/utf8.acceptRanges", laid_unicode_utf8_acceptRanges), ("unicode/utf8.first", laid_unicode_utf8_first)], narrowed := true }
def SubAppliesUptoSaid : Prop := subAppliesUptoRow.holds Tryd.pinned (OpenSpec.upto subAppliesSpec)

/-- 'corollarylaw22.SubStays', WHERE WHAT IT READS IS OF BULK AT MOST 1048576: true; the input reads as it did. -/
def subStaysUptoRow : OpenClaim := { program := "ytchpbnabbjdfgaadoor", sum := "8035e98095987bc7aa3b7a85595cc51f22f62859dbfcc000913a442b5239fde7", func := "corollary/corollarylaw22.SubStays", spec := "subStays", inPlace := ["internal/bytealg.abigen_runtime_cmpstring", "slices.overlaps[corollary/api.Change]", "slices.overlaps[corollary/feed.Note]"], unfollowed := true, recurses := true, named := ["unicode/utf8.first", "unicode/utf8.acceptRanges"], apart := false, laid := [("unicode/utf8.acceptRanges", laid_unicode_utf8_acceptRanges), ("unicode/utf8.first", laid_unicode_utf8_first)], narrowed := true }
def SubStaysUptoSaid : Prop := subStaysUptoRow.holds Tryd.pinned (OpenSpec.upto subStaysSpec)

/-- 'corollarylaw22.SubOld', WHERE WHAT IT READS IS OF BULK AT MOST 1048576: true; the input reads as it did. -/
def subOldUptoRow : OpenClaim := { program := "ytchpbnabbjdfgaadoor", sum := "8035e98095987bc7aa3b7a85595cc51f22f62859dbfcc000913a442b5239fde7", func := "corollary/corollarylaw22.SubOld", spec := "subOld", inPlace := ["internal/bytealg.abigen_runtime_cmpstring", "slices.overlaps[corollary/api.Change]", "slices.overlaps[corollary/feed.Note]"], unfollowed := true, recurses := true, named := ["unicode/utf8.first", "unicode/utf8.acceptRanges"], apart := false, laid := [("unicode/utf8.acceptRanges", laid_unicode_utf8_acceptRanges), ("unicode/utf8.first", laid_unicode_utf8_first)], narrowed := true }
def SubOldUptoSaid : Prop := subOldUptoRow.holds Tryd.pinned (OpenSpec.upto subOldSpec)

/-- 'corollarylaw22.SubSums', WHERE WHAT IT READS IS OF BULK AT MOST 1048576: true; the input reads as it did. -/
def subSumsUptoRow : OpenClaim := { program := "ytchpbnabbjdfgaadoor", sum := "8035e98095987bc7aa3b7a85595cc51f22f62859dbfcc000913a442b5239fde7", func := "corollary/corollarylaw22.SubSums", spec := "subSums", inPlace := ["internal/bytealg.abigen_runtime_cmpstring", "slices.overlaps[corollary/api.Change]", "slices.overlaps[corollary/feed.Note]"], unfollowed := true, recurses := true, named := ["unicode/utf8.first", "unicode/utf8.acceptRanges"], apart := false, laid := [("unicode/utf8.acceptRanges", laid_unicode_utf8_acceptRanges), ("unicode/utf8.first", laid_unicode_utf8_first)], narrowed := true }
def SubSumsUptoSaid : Prop := subSumsUptoRow.holds Tryd.pinned (OpenSpec.upto subSumsSpec)

/-- 'corollarylaw22.SubFollows', WHERE WHAT IT READS IS OF BULK AT MOST 1048576: true; the input reads as it did. -/
def subFollowsUptoRow : OpenClaim := { program := "ytchpbnabbjdfgaadoor", sum := "8035e98095987bc7aa3b7a85595cc51f22f62859dbfcc000913a442b5239fde7", func := "corollary/corollarylaw22.SubFollows", spec := "subFollows", inPlace := ["internal/bytealg.abigen_runtime_cmpstring", "slices.overlaps[corollary/api.Change]", "slices.overlaps[corollary/feed.Note]"], unfollowed := true, recurses := true, named := ["unicode/utf8.first", "unicode/utf8.acceptRanges"], apart := false, laid := [("unicode/utf8.acceptRanges", laid_unicode_utf8_acceptRanges), ("unicode/utf8.first", laid_unicode_utf8_first)], narrowed := true }
def SubFollowsUptoSaid : Prop := subFollowsUptoRow.holds Tryd.pinned (OpenSpec.upto subFollowsSpec)

end Rows
end Go.Proofs.YtchpbnabbjdfgaaDoor
