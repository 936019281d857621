/-
  No cell of these rows narrows 'for every input' (looked for: loops, veiled, ifaces, maps, wideKeys, modest, calm, conditions, laid).
  DERIVED. THE GIVEN ROWS OF THIS SEAT. 7 by the template 'for every input the law returns true; each argument reads behind the call as it read before'; 0 by the template 'total and deterministic' (their statements: YtipcggfabjfobaaTotals.lean).
  GIVEN WITH THE SEED: the statements are not yours to turn. If you find one false, say at which input.
  Laid BY PROGRAM, IN A SANDBOX (cutbox-rows.mjs): the forced cells as the released guide's own fill.sh prints them over the translation 6f97a7bfed2d3301… (all of the seat's roots in one cut). By AI agents, Wed Nov 11 2026. No macro, syntax, notation, axiom, sorry.
-/
import Derived.Test.YtipcggfabjfobaaChecked
import GoSem.Claim
import GoSem.ClaimJoined
import GoSem.ClaimMapViews
import Derived.JoinedTies
import Derived.KernelRfl
namespace Go.Proofs.Ytipcggfabjfobaa
/- THE CELL 'sum', in the pinned program and in every row, IS THE sha256 OF THE DUMP (.gsa) THAT YtipcggfabjfobaaProg.lean LOADS. Nothing in Lean hashes anything: it is a label: what it is worth is what the hold of that sum in a sandbox is worth. -/
noncomputable def Try.pinned : Pinned := { name := "ytipcggfabjfobaa", sum := "6f97a7bfed2d3301cc33d48ff25d4d9b59ae789daae2b9fbc3aab7003fcd616b", checked := Try.checked }
namespace Rows
def none {H : Type} : Left H := { results := [], args := [] }

/-- 'corollarylaw02.WideSums': WHATEVER THE INPUT: true; the input reads as it did. -/
def wideSumsSpec : ChangeSpec := { name := "wideSums", fn := fun _ => fun
  | [d] => { results := [.lit (.bool true)], args := [d] }
  | _ => none }
def wideSumsRow : OpenClaim := { program := "ytipcggfabjfobaa", sum := "6f97a7bfed2d3301cc33d48ff25d4d9b59ae789daae2b9fbc3aab7003fcd616b", func := "corollary/corollarylaw02.WideSums", spec := "wideSums", inPlace := ["math/bits.Add64"], apart := false }
def WideSumsSaid : Prop := wideSumsRow.holds Try.pinned (OpenSpec.ofChange wideSumsSpec)

/-- ITS FALSE NEIGHBOUR: 'it returns false'. Refute it at one input. -/
def wideSumsWrong : ChangeSpec := { name := "wideSums", fn := fun _ => fun
  | [d] => { results := [.lit (.bool false)], args := [d] }
  | _ => none }
def WideSumsWrongFalsely : Prop := wideSumsRow.holds Try.pinned (OpenSpec.ofChange wideSumsWrong)

/-- 'corollarylaw02.WideInts': WHATEVER THE INPUT: true; the input reads as it did. -/
def wideIntsSpec : ChangeSpec := { name := "wideInts", fn := fun _ => fun
  | [d1, d2] => { results := [.lit (.bool true)], args := [d1, d2] }
  | _ => none }
def wideIntsRow : OpenClaim := { program := "ytipcggfabjfobaa", sum := "6f97a7bfed2d3301cc33d48ff25d4d9b59ae789daae2b9fbc3aab7003fcd616b", func := "corollary/corollarylaw02.WideInts", spec := "wideInts", inPlace := ["math/bits.Add64"], apart := false }
def WideIntsSaid : Prop := wideIntsRow.holds Try.pinned (OpenSpec.ofChange wideIntsSpec)

/-- ITS FALSE NEIGHBOUR: 'it returns false'. Refute it at one input. -/
def wideIntsWrong : ChangeSpec := { name := "wideInts", fn := fun _ => fun
  | [d1, d2] => { results := [.lit (.bool false)], args := [d1, d2] }
  | _ => none }
def WideIntsWrongFalsely : Prop := wideIntsRow.holds Try.pinned (OpenSpec.ofChange wideIntsWrong)

/-- 'corollarylaw02.WideAdds': WHATEVER THE INPUT: true; the input reads as it did. -/
def wideAddsSpec : ChangeSpec := { name := "wideAdds", fn := fun _ => fun
  | [d1, d2] => { results := [.lit (.bool true)], args := [d1, d2] }
  | _ => none }
def wideAddsRow : OpenClaim := { program := "ytipcggfabjfobaa", sum := "6f97a7bfed2d3301cc33d48ff25d4d9b59ae789daae2b9fbc3aab7003fcd616b", func := "corollary/corollarylaw02.WideAdds", spec := "wideAdds", inPlace := ["math/bits.Add64", "math/bits.Sub64"], apart := false }
def WideAddsSaid : Prop := wideAddsRow.holds Try.pinned (OpenSpec.ofChange wideAddsSpec)

/-- ITS FALSE NEIGHBOUR: 'it returns false'. Refute it at one input. -/
def wideAddsWrong : ChangeSpec := { name := "wideAdds", fn := fun _ => fun
  | [d1, d2] => { results := [.lit (.bool false)], args := [d1, d2] }
  | _ => none }
def WideAddsWrongFalsely : Prop := wideAddsRow.holds Try.pinned (OpenSpec.ofChange wideAddsWrong)

/-- 'corollarylaw02.WideBack': WHATEVER THE INPUT: true; the input reads as it did. -/
def wideBackSpec : ChangeSpec := { name := "wideBack", fn := fun _ => fun
  | [d1, d2] => { results := [.lit (.bool true)], args := [d1, d2] }
  | _ => none }
def wideBackRow : OpenClaim := { program := "ytipcggfabjfobaa", sum := "6f97a7bfed2d3301cc33d48ff25d4d9b59ae789daae2b9fbc3aab7003fcd616b", func := "corollary/corollarylaw02.WideBack", spec := "wideBack", inPlace := ["math/bits.Sub64", "math/bits.Add64"], apart := false }
def WideBackSaid : Prop := wideBackRow.holds Try.pinned (OpenSpec.ofChange wideBackSpec)

/-- ITS FALSE NEIGHBOUR: 'it returns false'. Refute it at one input. -/
def wideBackWrong : ChangeSpec := { name := "wideBack", fn := fun _ => fun
  | [d1, d2] => { results := [.lit (.bool false)], args := [d1, d2] }
  | _ => none }
def WideBackWrongFalsely : Prop := wideBackRow.holds Try.pinned (OpenSpec.ofChange wideBackWrong)

/-- 'corollarylaw02.WideOrders': WHATEVER THE INPUT: true; the input reads as it did. -/
def wideOrdersSpec : ChangeSpec := { name := "wideOrders", fn := fun _ => fun
  | [d1, d2] => { results := [.lit (.bool true)], args := [d1, d2] }
  | _ => none }
def wideOrdersRow : OpenClaim := { program := "ytipcggfabjfobaa", sum := "6f97a7bfed2d3301cc33d48ff25d4d9b59ae789daae2b9fbc3aab7003fcd616b", func := "corollary/corollarylaw02.WideOrders", spec := "wideOrders", inPlace := ["math/bits.Add64"], apart := false }
def WideOrdersSaid : Prop := wideOrdersRow.holds Try.pinned (OpenSpec.ofChange wideOrdersSpec)

/-- ITS FALSE NEIGHBOUR: 'it returns false'. Refute it at one input. -/
def wideOrdersWrong : ChangeSpec := { name := "wideOrders", fn := fun _ => fun
  | [d1, d2] => { results := [.lit (.bool false)], args := [d1, d2] }
  | _ => none }
def WideOrdersWrongFalsely : Prop := wideOrdersRow.holds Try.pinned (OpenSpec.ofChange wideOrdersWrong)

/-- 'corollarylaw02.WideAgrees': WHATEVER THE INPUT: true; the input reads as it did. -/
def wideAgreesSpec : ChangeSpec := { name := "wideAgrees", fn := fun _ => fun
  | [d1, d2] => { results := [.lit (.bool true)], args := [d1, d2] }
  | _ => none }
def wideAgreesRow : OpenClaim := { program := "ytipcggfabjfobaa", sum := "6f97a7bfed2d3301cc33d48ff25d4d9b59ae789daae2b9fbc3aab7003fcd616b", func := "corollary/corollarylaw02.WideAgrees", spec := "wideAgrees", inPlace := ["math/bits.Add64"], apart := false }
def WideAgreesSaid : Prop := wideAgreesRow.holds Try.pinned (OpenSpec.ofChange wideAgreesSpec)

/-- ITS FALSE NEIGHBOUR: 'it returns false'. Refute it at one input. -/
def wideAgreesWrong : ChangeSpec := { name := "wideAgrees", fn := fun _ => fun
  | [d1, d2] => { results := [.lit (.bool false)], args := [d1, d2] }
  | _ => none }
def WideAgreesWrongFalsely : Prop := wideAgreesRow.holds Try.pinned (OpenSpec.ofChange wideAgreesWrong)

/-- 'corollarylaw02.WideChain': WHATEVER THE INPUT: true; the input reads as it did. -/
def wideChainSpec : ChangeSpec := { name := "wideChain", fn := fun _ => fun
  | [d1, d2, d3] => { results := [.lit (.bool true)], args := [d1, d2, d3] }
  | _ => none }
def wideChainRow : OpenClaim := { program := "ytipcggfabjfobaa", sum := "6f97a7bfed2d3301cc33d48ff25d4d9b59ae789daae2b9fbc3aab7003fcd616b", func := "corollary/corollarylaw02.WideChain", spec := "wideChain", inPlace := ["math/bits.Add64"], apart := false }
def WideChainSaid : Prop := wideChainRow.holds Try.pinned (OpenSpec.ofChange wideChainSpec)

/-- ITS FALSE NEIGHBOUR: 'it returns false'. Refute it at one input. -/
def wideChainWrong : ChangeSpec := { name := "wideChain", fn := fun _ => fun
  | [d1, d2, d3] => { results := [.lit (.bool false)], args := [d1, d2, d3] }
  | _ => none }
def WideChainWrongFalsely : Prop := wideChainRow.holds Try.pinned (OpenSpec.ofChange wideChainWrong)

/- THE SECOND FORM. 'bulk': how many values and letters a reading holds, each counted each time it is reached (what is shared counts as often as it is met; a slice's spare places count too). A statement '..UptoSaid' is the law's where the arguments, and the package variables that the reading takes, are together of bulk at most 1048576: NARROWER than '..Said'. Prove '..Said' where nothing that the law and all that it calls make is longer than what came in: it says more and counts as full. Else prove '..UptoSaid'. A law counts once. -/
mutual
def uptoBulk {H : Type} : DataW H → Nat
  | .lit (.string bytes) => bytes.length + 1
  | .lit _ => 1
  | .nil => 1
  | .ptr d => uptoBulk d + 1
  | .slice elems spare => uptoBulkAll elems + uptoBulkAll spare + 1
  | .agg parts => uptoBulkAll parts + 1
  | .iface _ d => uptoBulk d + 1
  | .map entries => uptoBulkEntries entries + 1
  | .held _ => 1
def uptoBulkAll {H : Type} : List (DataW H) → Nat
  | [] => 0
  | d :: r => uptoBulk d + uptoBulkAll r
def uptoBulkEntries {H : Type} : List (Lit × DataW H) → Nat
  | [] => 0
  | x :: r => uptoBulkEntry x + uptoBulkEntries r
def uptoBulkEntry {H : Type} : Lit × DataW H → Nat
  | (.string bytes, d) => bytes.length + uptoBulk d + 1
  | (_, d) => uptoBulk d + 1
 end
def uptoSmall : (H : Type) → List (DataW H) → Bool := fun _ ds => decide (uptoBulkAll ds ≤ 1048576)
def OpenSpec.upto (s : _root_.Go.ChangeSpec) : _root_.Go.OpenSpec := { _root_.Go.OpenSpec.ofChange s with cond := some uptoSmall }

/-- 'corollarylaw02.WideSums', WHERE WHAT IT READS IS OF BULK AT MOST 1048576: true; the input reads as it did. -/
def wideSumsUptoRow : OpenClaim := { program := "ytipcggfabjfobaa", sum := "6f97a7bfed2d3301cc33d48ff25d4d9b59ae789daae2b9fbc3aab7003fcd616b", func := "corollary/corollarylaw02.WideSums", spec := "wideSums", inPlace := ["math/bits.Add64"], apart := false, narrowed := true }
def WideSumsUptoSaid : Prop := wideSumsUptoRow.holds Try.pinned (OpenSpec.upto wideSumsSpec)

/-- 'corollarylaw02.WideInts', WHERE WHAT IT READS IS OF BULK AT MOST 1048576: true; the input reads as it did. -/
def wideIntsUptoRow : OpenClaim := { program := "ytipcggfabjfobaa", sum := "6f97a7bfed2d3301cc33d48ff25d4d9b59ae789daae2b9fbc3aab7003fcd616b", func := "corollary/corollarylaw02.WideInts", spec := "wideInts", inPlace := ["math/bits.Add64"], apart := false, narrowed := true }
def WideIntsUptoSaid : Prop := wideIntsUptoRow.holds Try.pinned (OpenSpec.upto wideIntsSpec)

/-- 'corollarylaw02.WideAdds', WHERE WHAT IT READS IS OF BULK AT MOST 1048576: true; the input reads as it did. -/
def wideAddsUptoRow : OpenClaim := { program := "ytipcggfabjfobaa", sum := "6f97a7bfed2d3301cc33d48ff25d4d9b59ae789daae2b9fbc3aab7003fcd616b", func := "corollary/corollarylaw02.WideAdds", spec := "wideAdds", inPlace := ["math/bits.Add64", "math/bits.Sub64"], apart := false, narrowed := true }
def WideAddsUptoSaid : Prop := wideAddsUptoRow.holds Try.pinned (OpenSpec.upto wideAddsSpec)

/-- 'corollarylaw02.WideBack', WHERE WHAT IT READS IS OF BULK AT MOST 1048576: true; the input reads as it did. -/
def wideBackUptoRow : OpenClaim := { program := "ytipcggfabjfobaa", sum := "6f97a7bfed2d3301cc33d48ff25d4d9b59ae789daae2b9fbc3aab7003fcd616b", func := "corollary/corollarylaw02.WideBack", spec := "wideBack", inPlace := ["math/bits.Sub64", "math/bits.Add64"], apart := false, narrowed := true }
def WideBackUptoSaid : Prop := wideBackUptoRow.holds Try.pinned (OpenSpec.upto wideBackSpec)

/-- 'corollarylaw02.WideOrders', WHERE WHAT IT READS IS OF BULK AT MOST 1048576: true; the input reads as it did. -/
def wideOrdersUptoRow : OpenClaim := { program := "ytipcggfabjfobaa", sum := "6f97a7bfed2d3301cc33d48ff25d4d9b59ae789daae2b9fbc3aab7003fcd616b", func := "corollary/corollarylaw02.WideOrders", spec := "wideOrders", inPlace := ["math/bits.Add64"], apart := false, narrowed := true }
def WideOrdersUptoSaid : Prop := wideOrdersUptoRow.holds Try.pinned (OpenSpec.upto wideOrdersSpec)

/-- 'corollarylaw02.WideAgrees', WHERE WHAT IT READS IS OF BULK AT MOST 1048576: true; the input reads as it did. -/
def wideAgreesUptoRow : OpenClaim := { program := "ytipcggfabjfobaa", sum := "6f97a7bfed2d3301cc33d48ff25d4d9b59ae789daae2b9fbc3aab7003fcd616b", func := "corollary/corollarylaw02.WideAgrees", spec := "wideAgrees", inPlace := ["math/bits.Add64"], apart := false, narrowed := true }
def WideAgreesUptoSaid : Prop := wideAgreesUptoRow.holds Try.pinned (OpenSpec.upto wideAgreesSpec)

/-- 'corollarylaw02.WideChain', WHERE WHAT IT READS IS OF BULK AT MOST 1048576: true; the input reads as it did. -/
def wideChainUptoRow : OpenClaim := { program := "ytipcggfabjfobaa", sum := "6f97a7bfed2d3301cc33d48ff25d4d9b59ae789daae2b9fbc3aab7003fcd616b", func := "corollary/corollarylaw02.WideChain", spec := "wideChain", inPlace := ["math/bits.Add64"], apart := false, narrowed := true }
def WideChainUptoSaid : Prop := wideChainUptoRow.holds Try.pinned (OpenSpec.upto wideChainSpec)

end Rows
end Go.Proofs.Ytipcggfabjfobaa
