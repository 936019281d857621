/-
  NARROWER THAN 'FOR EVERY INPUT', by the rows' own cells (each row's printed sentence says how): ExprSound: laid · ExprMirror: laid · ExprLaws: laid · ExprPlain: laid · ExprHolds: laid.
  DERIVED. THE GIVEN ROWS OF THIS SEAT. 5 by the template 'for every input the law returns true; each argument reads behind the call as it read before'; 0 by the template 'total and deterministic' (their statements: YtiamgfpeffjcjaaDoorTotals.lean).
  GIVEN WITH THE SEED: the statements are not yours to turn. If you find one false, say at which input.
  Laid BY PROGRAM, IN A SANDBOX (cutbox-rows.mjs): the forced cells as the released guide's own fill.sh prints them over the translation 0859ac7060ed4933… (all of the seat's roots in one cut). By AI agents, Wed Nov 11 2026. No macro, syntax, notation, axiom, sorry.
-/
import Derived.Test.YtiamgfpeffjcjaaDoorChecked
import GoSem.PinnedTables
import GoSem.Claim
import GoSem.ClaimJoined
import GoSem.ClaimMapViews
import Derived.JoinedTies
import Derived.KernelRfl
namespace Go.Proofs.YtiamgfpeffjcjaaDoor
/- THE CELL 'sum', in the pinned program and in every row, IS THE sha256 OF THE DUMP (.gsa) THAT YtiamgfpeffjcjaaDoorProg.lean LOADS. Nothing in Lean hashes anything: it is a label: what it is worth is what the hold of that sum in a sandbox is worth. -/
noncomputable def Tryd.pinned : Pinned := { name := "ytiamgfpeffjcjaadoor", sum := "0859ac7060ed4933095611c6fe3f395ccd289ad01203f79a17b20836b06098d3", checked := Tryd.checked }
namespace Rows
def none {H : Type} : Left H := { results := [], args := [] }

/- WHAT THE LISTED PACKAGE-LEVEL VARIABLES READ AS WHEN THE CALL BEGINS. Each datum BY PROGRAM (the guide's laid-datum.mjs) off the statement by which the dump's own 'gosem.cut.vars' lays the variable. In a bare row this is a premise. The card (YtiamgfpeffjcjaaDoorCards.lean) ties it to the program's text. -/
def laid_unicode_utf8_acceptRanges {H : Type} : DataW H := .agg [.agg [.lit (.int .u8 128), .lit (.int .u8 191)], .agg [.lit (.int .u8 160), .lit (.int .u8 191)], .agg [.lit (.int .u8 128), .lit (.int .u8 159)], .agg [.lit (.int .u8 144), .lit (.int .u8 191)], .agg [.lit (.int .u8 128), .lit (.int .u8 143)], .agg [.lit (.int .u8 0), .lit (.int .u8 0)], .agg [.lit (.int .u8 0), .lit (.int .u8 0)], .agg [.lit (.int .u8 0), .lit (.int .u8 0)], .agg [.lit (.int .u8 0), .lit (.int .u8 0)], .agg [.lit (.int .u8 0), .lit (.int .u8 0)], .agg [.lit (.int .u8 0), .lit (.int .u8 0)], .agg [.lit (.int .u8 0), .lit (.int .u8 0)], .agg [.lit (.int .u8 0), .lit (.int .u8 0)], .agg [.lit (.int .u8 0), .lit (.int .u8 0)], .agg [.lit (.int .u8 0), .lit (.int .u8 0)], .agg [.lit (.int .u8 0), .lit (.int .u8 0)]]
/-- One of Go's own tables, pinned by name: the form's constant. -/
def laid_unicode_utf8_first : DataW Unit := Go.Pinned.utf8First

/-- 'corollarylaw10.ExprSound': WHATEVER THE INPUT: true; the input reads as it did. -/
def exprSoundSpec : ChangeSpec := { name := "exprSound", fn := fun _ => fun
  | [d1, d2, d3] => { results := [.lit (.bool true)], args := [d1, d2, d3] }
  | _ => none }
def exprSoundRow : OpenClaim := { program := "ytiamgfpeffjcjaadoor", sum := "0859ac7060ed4933095611c6fe3f395ccd289ad01203f79a17b20836b06098d3", func := "corollary/corollarylaw10.ExprSound", spec := "exprSound", unfollowed := true, recurses := true, named := ["unicode/utf8.first", "unicode/utf8.acceptRanges"], apart := false, laid := [("unicode/utf8.acceptRanges", laid_unicode_utf8_acceptRanges), ("unicode/utf8.first", laid_unicode_utf8_first)] }
def ExprSoundSaid : Prop := exprSoundRow.holds Tryd.pinned (OpenSpec.ofChange exprSoundSpec)

/-- ITS FALSE NEIGHBOUR: 'it returns false'. Refute it at one input. -/
def exprSoundWrong : ChangeSpec := { name := "exprSound", fn := fun _ => fun
  | [d1, d2, d3] => { results := [.lit (.bool false)], args := [d1, d2, d3] }
  | _ => none }
def ExprSoundWrongFalsely : Prop := exprSoundRow.holds Tryd.pinned (OpenSpec.ofChange exprSoundWrong)

/-- 'corollarylaw10.ExprMirror': WHATEVER THE INPUT: true; the input reads as it did. -/
def exprMirrorSpec : ChangeSpec := { name := "exprMirror", fn := fun _ => fun
  | [d1, d2] => { results := [.lit (.bool true)], args := [d1, d2] }
  | _ => none }
def exprMirrorRow : OpenClaim := { program := "ytiamgfpeffjcjaadoor", sum := "0859ac7060ed4933095611c6fe3f395ccd289ad01203f79a17b20836b06098d3", func := "corollary/corollarylaw10.ExprMirror", spec := "exprMirror", unfollowed := true, recurses := true, named := ["unicode/utf8.first", "unicode/utf8.acceptRanges"], apart := false, laid := [("unicode/utf8.acceptRanges", laid_unicode_utf8_acceptRanges), ("unicode/utf8.first", laid_unicode_utf8_first)] }
def ExprMirrorSaid : Prop := exprMirrorRow.holds Tryd.pinned (OpenSpec.ofChange exprMirrorSpec)

/-- ITS FALSE NEIGHBOUR: 'it returns false'. Refute it at one input. -/
def exprMirrorWrong : ChangeSpec := { name := "exprMirror", fn := fun _ => fun
  | [d1, d2] => { results := [.lit (.bool false)], args := [d1, d2] }
  | _ => none }
def ExprMirrorWrongFalsely : Prop := exprMirrorRow.holds Tryd.pinned (OpenSpec.ofChange exprMirrorWrong)

/-- 'corollarylaw10.ExprLaws': WHATEVER THE INPUT: true; the input reads as it did. -/
def exprLawsSpec : ChangeSpec := { name := "exprLaws", fn := fun _ => fun
  | [d1, d2] => { results := [.lit (.bool true)], args := [d1, d2] }
  | _ => none }
def exprLawsRow : OpenClaim := { program := "ytiamgfpeffjcjaadoor", sum := "0859ac7060ed4933095611c6fe3f395ccd289ad01203f79a17b20836b06098d3", func := "corollary/corollarylaw10.ExprLaws", spec := "exprLaws", unfollowed := true, recurses := true, named := ["unicode/utf8.first", "unicode/utf8.acceptRanges"], apart := false, laid := [("unicode/utf8.acceptRanges", laid_unicode_utf8_acceptRanges), ("unicode/utf8.first", laid_unicode_utf8_first)] }
def ExprLawsSaid : Prop := exprLawsRow.holds Tryd.pinned (OpenSpec.ofChange exprLawsSpec)

/-- ITS FALSE NEIGHBOUR: 'it returns false'. Refute it at one input. -/
def exprLawsWrong : ChangeSpec := { name := "exprLaws", fn := fun _ => fun
  | [d1, d2] => { results := [.lit (.bool false)], args := [d1, d2] }
  | _ => none }
def ExprLawsWrongFalsely : Prop := exprLawsRow.holds Tryd.pinned (OpenSpec.ofChange exprLawsWrong)

/-- 'corollarylaw10.ExprPlain': WHATEVER THE INPUT: true; the input reads as it did. -/
def exprPlainSpec : ChangeSpec := { name := "exprPlain", fn := fun _ => fun
  | [d1, d2, d3] => { results := [.lit (.bool true)], args := [d1, d2, d3] }
  | _ => none }
def exprPlainRow : OpenClaim := { program := "ytiamgfpeffjcjaadoor", sum := "0859ac7060ed4933095611c6fe3f395ccd289ad01203f79a17b20836b06098d3", func := "corollary/corollarylaw10.ExprPlain", spec := "exprPlain", unfollowed := true, recurses := true, named := ["unicode/utf8.first", "unicode/utf8.acceptRanges"], apart := false, laid := [("unicode/utf8.acceptRanges", laid_unicode_utf8_acceptRanges), ("unicode/utf8.first", laid_unicode_utf8_first)] }
def ExprPlainSaid : Prop := exprPlainRow.holds Tryd.pinned (OpenSpec.ofChange exprPlainSpec)

/-- ITS FALSE NEIGHBOUR: 'it returns false'. Refute it at one input. -/
def exprPlainWrong : ChangeSpec := { name := "exprPlain", fn := fun _ => fun
  | [d1, d2, d3] => { results := [.lit (.bool false)], args := [d1, d2, d3] }
  | _ => none }
def ExprPlainWrongFalsely : Prop := exprPlainRow.holds Tryd.pinned (OpenSpec.ofChange exprPlainWrong)

/-- 'corollarylaw10.ExprHolds': WHATEVER THE INPUT: true; the input reads as it did. -/
def exprHoldsSpec : ChangeSpec := { name := "exprHolds", fn := fun _ => fun
  | [d1, d2] => { results := [.lit (.bool true)], args := [d1, d2] }
  | _ => none }
def exprHoldsRow : OpenClaim := { program := "ytiamgfpeffjcjaadoor", sum := "0859ac7060ed4933095611c6fe3f395ccd289ad01203f79a17b20836b06098d3", func := "corollary/corollarylaw10.ExprHolds", spec := "exprHolds", unfollowed := true, recurses := true, named := ["unicode/utf8.first", "unicode/utf8.acceptRanges"], apart := false, laid := [("unicode/utf8.acceptRanges", laid_unicode_utf8_acceptRanges), ("unicode/utf8.first", laid_unicode_utf8_first)] }
def ExprHoldsSaid : Prop := exprHoldsRow.holds Tryd.pinned (OpenSpec.ofChange exprHoldsSpec)

/-- ITS FALSE NEIGHBOUR: 'it returns false'. Refute it at one input. -/
def exprHoldsWrong : ChangeSpec := { name := "exprHolds", fn := fun _ => fun
  | [d1, d2] => { results := [.lit (.bool false)], args := [d1, d2] }
  | _ => none }
def ExprHoldsWrongFalsely : Prop := exprHoldsRow.holds Tryd.pinned (OpenSpec.ofChange exprHoldsWrong)

/- THE SECOND FORM. 'bulk': how many values and letters a reading holds, each counted each time it is reached (what is shared counts as often as it is met; a slice's spare places count too). A statement '..UptoSaid' is the law's where the arguments, and the package variables that the reading takes, are together of bulk at most 1048576: NARROWER than '..Said'. Prove '..Said' where nothing that the law and all that it calls make is longer than what came in: it says more and counts as full. Else prove '..UptoSaid'. A law counts once. -/
mutual
def uptoBulk {H : Type} : DataW H → Nat
  | .lit (.string bytes) => bytes.length + 1
  | .lit _ => 1
  | .nil => 1
  | .ptr d => uptoBulk d + 1
  | .slice elems spare => uptoBulkAll elems + uptoBulkAll spare + 1
  | .agg parts => uptoBulkAll parts + 1
  | .iface _ d => uptoBulk d + 1
  | .map entries => uptoBulkEntries entries + 1
  | .held _ => 1
def uptoBulkAll {H : Type} : List (DataW H) → Nat
  | [] => 0
  | d :: r => uptoBulk d + uptoBulkAll r
def uptoBulkEntries {H : Type} : List (Lit × DataW H) → Nat
  | [] => 0
  | x :: r => uptoBulkEntry x + uptoBulkEntries r
def uptoBulkEntry {H : Type} : Lit × DataW H → Nat
  | (.string bytes, d) => bytes.length + uptoBulk d + 1
  | (_, d) => uptoBulk d + 1
 end
def uptoSmall : (H : Type) → List (DataW H) → Bool := fun _ ds => decide (uptoBulkAll ds ≤ 1048576)
def OpenSpec.upto (s : _root_.Go.ChangeSpec) : _root_.Go.OpenSpec := { _root_.Go.OpenSpec.ofChange s with cond := some uptoSmall }

/-- 'corollarylaw10.ExprSound', WHERE WHAT IT READS IS OF BULK AT MOST 1048576: true; the input reads as it did. -/
def exprSoundUptoRow : OpenClaim := { program := "ytiamgfpeffjcjaadoor", sum := "0859ac7060ed4933095611c6fe3f395ccd289ad01203f79a17b20836b06098d3", func := "corollary/corollarylaw10.ExprSound", spec := "exprSound", unfollowed := true, recurses := true, named := ["unicode/utf8.first", "unicode/utf8.acceptRanges"], apart := false, laid := [("unicode/utf8.acceptRanges", laid_unicode_utf8_acceptRanges), ("unicode/utf8.first", laid_unicode_utf8_first)], narrowed := true }
def ExprSoundUptoSaid : Prop := exprSoundUptoRow.holds Tryd.pinned (OpenSpec.upto exprSoundSpec)

/-- 'corollarylaw10.ExprMirror', WHERE WHAT IT READS IS OF BULK AT MOST 1048576: true; the input reads as it did. -/
def exprMirrorUptoRow : OpenClaim := { program := "ytiamgfpeffjcjaadoor", sum := "0859ac7060ed4933095611c6fe3f395ccd289ad01203f79a17b20836b06098d3", func := "corollary/corollarylaw10.ExprMirror", spec := "exprMirror", unfollowed := true, recurses := true, named := ["unicode/utf8.first", "unicode/utf8.acceptRanges"], apart := false, laid := [("unicode/utf8.acceptRanges", laid_unicode_utf8_acceptRanges), ("unicode/utf8.first", laid_unicode_utf8_first)], narrowed := true }
def ExprMirrorUptoSaid : Prop := exprMirrorUptoRow.holds Tryd.pinned (OpenSpec.upto exprMirrorSpec)

/-- 'corollarylaw10.ExprLaws', WHERE WHAT IT READS IS OF BULK AT MOST 1048576: true; the input reads as it did. -/
def exprLawsUptoRow : OpenClaim := { program := "ytiamgfpeffjcjaadoor", sum := "0859ac7060ed4933095611c6fe3f395ccd289ad01203f79a17b20836b06098d3", func := "corollary/corollarylaw10.ExprLaws", spec := "exprLaws", unfollowed := true, recurses := true, named := ["unicode/utf8.first", "unicode/utf8.acceptRanges"], apart := false, laid := [("unicode/utf8.acceptRanges", laid_unicode_utf8_acceptRanges), ("unicode/utf8.first", laid_unicode_utf8_first)], narrowed := true }
def ExprLawsUptoSaid : Prop := exprLawsUptoRow.holds Tryd.pinned (OpenSpec.upto exprLawsSpec)

/-- 'corollarylaw10.ExprPlain', WHERE WHAT IT READS IS OF BULK AT MOST 1048576: true; the input reads as it did. -/
def exprPlainUptoRow : OpenClaim := { program := "ytiamgfpeffjcjaadoor", sum := "0859ac7060ed4933095611c6fe3f395ccd289ad01203f79a17b20836b06098d3", func := "corollary/corollarylaw10.ExprPlain", spec := "exprPlain", unfollowed := true, recurses := true, named := ["unicode/utf8.first", "unicode/utf8.acceptRanges"], apart := false, laid := [("unicode/utf8.acceptRanges", laid_unicode_utf8_acceptRanges), ("unicode/utf8.first", laid_unicode_utf8_first)], narrowed := true }
def ExprPlainUptoSaid : Prop := exprPlainUptoRow.holds Tryd.pinned (OpenSpec.upto exprPlainSpec)

/-- 'corollarylaw10.ExprHolds', WHERE WHAT IT READS IS OF BULK AT MOST 1048576: true; the input reads as it did. -/
def exprHoldsUptoRow : OpenClaim := { program := "ytiamgfpeffjcjaadoor", sum := "0859ac7060ed4933095611c6fe3f395ccd289ad01203f79a17b20836b06098d3", func := "corollary/corollarylaw10.ExprHolds", spec := "exprHolds", unfollowed := true, recurses := true, named := ["unicode/utf8.first", "unicode/utf8.acceptRanges"], apart := false, laid := [("unicode/utf8.acceptRanges", laid_unicode_utf8_acceptRanges), ("unicode/utf8.first", laid_unicode_utf8_first)], narrowed := true }
def ExprHoldsUptoSaid : Prop := exprHoldsUptoRow.holds Tryd.pinned (OpenSpec.upto exprHoldsSpec)

end Rows
end Go.Proofs.YtiamgfpeffjcjaaDoor
