/- corollary/corollarylaw11.LexShown: the Go function answers true for every input, and its arguments read behind the call as before. Conditions: none beside the given statement's own (the library's tables as the program's text lays them). -/
-- Written by our own program (wip/xprint/rows.py) for this seat.
import Derived.Test.YtjcjndpfihchnaaDoorRows
import Derived.Test.YtjcjndpfihchnaaDoorOpen
import Derived.Test.YtjcjndpfihchnaaDoorStatLexShown
import Derived.Test.YtjcjndpfihchnaaDoorPureLexShown
import Derived.WalkKit
import Derived.ProofKit
import Derived.OpenShut
import Derived.ShutString
import Derived.ChangeOld
import Derived.Below
import Derived.SizedLaws
import Derived.Lib.LaidIn
import Derived.Lib.LaidU8T
import Derived.Deep.DeepHandedRow
import Derived.Deep.DeepWitnessRowRef
import Derived.JoinedCond
import Derived.SevenTiedAt
import Derived.PinnedBridge
import Derived.Test.YtjcjndpfihchnaaDoorCards
import Derived.Test.YtjcjndpfihchnaaDoorTie
import Derived.Test.YtjcjndpfihchnaaDoorCardBase
namespace Go.Proofs.YtjcjndpfihchnaaDoor.lexShown
open Go.ChangeShapes Go.WideShapes Go.ChangeAt Go.RowKit Go.Proofs.YtjcjndpfihchnaaDoorW.PrintWords Go.Proofs.YtjcjndpfihchnaaDoorW.PrintLast Go.Proofs.YtjcjndpfihchnaaDoor.P Go.Proofs.YtjcjndpfihchnaaDoor.Open
open Go.ChangeMaps (open_string shut_string)
open Go.Lib Go.Shelf
set_option linter.unusedVariables false
set_option linter.unusedSimpArgs false
theorem own : ownKnob Tryd.prog.godebug = none := by kernel_rfl
theorem laidOut : laidOutB Tryd.prog = true := by kernel_rfl
theorem witness_row (os : Os) {H : Type} (enc : TypeId × Value → H) :
    (OpenSpec.ofChange Rows.lexShownSpec).preRow enc Tryd.prog Tryd.f6 Rows.lexShownRow.domain false Rows.lexShownRow.laid ((laidWorld os).forCall (fun _ _ => 0) ⟨#[], #[.agg #[.int .i64 0, .int .i64 0, .string ByteArray.empty], .int .u8 0], []⟩).memory #[.agg #[.int .i64 0, .int .i64 0, .string ByteArray.empty], .int .u8 0] := by
  have hw : (DataW.whole enc Tryd.prog ((laidWorld os).forCall (fun _ _ => 0) ⟨#[], #[.agg #[.int .i64 0, .int .i64 0, .string ByteArray.empty], .int .u8 0], []⟩).memory Tryd.f6.params.toList (OpenSpec.ofChange Rows.lexShownSpec).vars false #[.agg #[.int .i64 0, .int .i64 0, .string ByteArray.empty], .int .u8 0].toList 8).map (fun x => (x.1, x.2.1)) =
      some ([.agg [.lit (.int .i64 0), .lit (.int .i64 0), .lit (.string [])], .lit (.int .u8 0)], []) := by kernel_rfl
  obtain ⟨⟨x1, x2, x3⟩, hx, hx1⟩ := Option.map_eq_some_iff.1 hw
  simp only [Prod.mk.injEq] at hx1
  obtain ⟨rfl, rfl⟩ := hx1
  exact OpenSpec.preRow_of_cond 8 hx (by kernel_rfl) (fun k hk => by cases hk) (by kernel_rfl) (laid_met os _)
set_option maxRecDepth 100000 in
set_option maxHeartbeats 4000000 in
theorem lifted (os : Os) (started : os.Started) (H : Type) (enc : TypeId × Value → H) (F : Stop.Interp) :
    ReturnsInHanded {} Tryd.checked os 6 .any ((OpenSpec.ofChange Rows.lexShownSpec).preRow enc Tryd.prog Tryd.f6 Rows.lexShownRow.domain false Rows.lexShownRow.laid) (((OpenSpec.ofChange Rows.lexShownSpec).at F).post enc Tryd.prog Tryd.f6 false true false false) := by
  refine returnsInHanded_of_row (C := Tryd.checked) (s := (OpenSpec.ofChange Rows.lexShownSpec)) laid_own started (by kernel_rfl) Tryd.func6
    (witness_row_atRef (enc := enc) (C := Tryd.checked) false (laidWorld os) #[.agg #[.int .i64 0, .int .i64 0, .string ByteArray.empty], .int .u8 0] rfl (by kernel_rfl) (by kernel_rfl) (by kernel_rfl) (witness_row os enc)) ?_
  intro W base args ds gs before hval0 hW hcnd hcond hsz0 hL hshp _
  have hsz : (DataW.weightsEach Tryd.prog (Tryd.f6.params.toList ++ (OpenSpec.ofChange Rows.lexShownSpec).bare.plain.varTypes Tryd.prog) (ds ++ gs)).all (· ≤ reachBytes) = true := hsz0
  have hval : ∀ (j : Nat) t v, Tryd.f6.params[j]? = some t → args[j]? = some v → Value.okWide Tryd.prog W .any base t v := hval0
  have glob := glob_of hL hshp
  have hW' := hW
  obtain ⟨p, q, hA0, hV, rfl, hfz, hnd⟩ := hW
  have hA : DataW.TrodAll enc Tryd.prog W 0 (fun _ => true) true Tryd.f6.params.toList args.toList ds p := hA0
  rw [Tryd.params6] at hA hval hsz
  obtain ⟨rfl, rfl⟩ := trodVars_none hV
  obtain ⟨v0, vs0, d0, ds0, p0, q0, hargs, rfl, rfl, h0, r0⟩ := trodAll_cons hA
  obtain ⟨v1, vs1, d1, ds1, p1, q1, rfl, rfl, rfl, h1, r1⟩ := trodAll_cons r0
  obtain ⟨rfl, rfl, rfl⟩ := trodAll_nil r1
  obtain rfl : args = #[v0, v1] := by cases args; simp_all
  have k0 := h0
  have lt0 : ∀ x ∈ p0, x.block < W.heap.size := by obtain ⟨m, hm⟩ := k0; exact DataW.trod_lt m _ _ _ hm
  obtain ⟨fuel0, hf0⟩ := h0
  obtain ⟨cs0, rfl, hcs0⟩ := okWide_struct Tryd.underlying36 (hval 0 36 v0 rfl rfl)
  obtain ⟨x0, hK0, w0⟩ := opens_36.came hf0
  have e0 := k36_open hK0
  have g0 := congrArg List.toArray (show cs0.toList = _ from e0)
  rw [Array.toArray_toList] at g0
  subst g0
  have k1 := h1
  have lt1 : ∀ x ∈ p1, x.block < W.heap.size := by obtain ⟨m, hm⟩ := k1; exact DataW.trod_lt m _ _ _ hm
  obtain ⟨fuel1, hf1⟩ := h1
  obtain ⟨a1, rfl⟩ := okWide_int Tryd.underlying5 (hval 1 5 v1 rfl rfl)
  obtain ⟨x1, hK1, w1⟩ := opens_5.came hf1
  have hx1 : a1 = x1 := by
    have e := hK1
    simp [Value.cells, Kd.int, Kd.bool, Kd.string, Kd.scalar] at e
    exact e
  subst hx1
  clear hA0 hval0
  obtain ⟨kr, hr⟩ := (show Stat.LexShown from Pure.LexShown_pure) x0.f0 x0.f1 x0.f2 a1 w0 w1
  refine (corollarylaw11_LexShown.calls kr x0.f0 x0.f1 x0.f2 a1 true W  hr glob).mono ?_
  rintro e W' ⟨rfl, bel0⟩
  have bel : Below W.heap.size W W' := bel0
  exact ⟨_, rfl, _, _, _, [], _, [], hW', trodAll_mk1 (shut_bool Tryd.underlying4 _), (trodAll_cons_mk (Below.trod laidOut (by kernel_rfl) (of_decide_eq_true (by kernel_rfl)) k0 bel lt0) (trodAll_cons_mk (Below.trod laidOut (by kernel_rfl) (of_decide_eq_true (by kernel_rfl)) k1 bel lt1) trodAll_mk0)), rfl, bel.frame _, fun h => by cases h⟩
theorem over : Rows.lexShownRow.holds Tryd.pinned (OpenSpec.ofChange Rows.lexShownSpec) :=
  OpenClaim.holds_of_cond 6 Tryd.f6 rfl rfl rfl rfl rfl rfl rfl ⟨rfl, rfl, rfl, rfl, rfl⟩ rfl rfl rfl rfl rfl (by kernel_rfl) Tryd.func6 (by kernel_rfl)
    (of_decide_eq_true (by kernel_rfl)) (by unfold Func.isWrapper; first | (rw [if_pos (by decide +kernel)]; kernel_rfl) | (rw [if_neg (by decide +kernel)]; exact ⟨rfl, rfl⟩))
    (fun os started H enc _ F0 => by rw [OpenClaim.pre_eq_preRow]; exact lifted os started H enc F0)
theorem proved : Rows.LexShownCardSaid :=
  Claim7.holds_tied_plain_at .later [] [.data, .data, .data, .data, .pinned] true (true, "53904d12ad1d0da34dc8ed4814eba101d0fcf530aa4e3ec747a58cc4d4f1730e") false
    over (fun _ h => by cases h) (by kernel_rfl) (fun _ h => by cases h) lexShown_row_tie rfl ⟨rfl, rfl⟩ (by kernel_rfl) rfl
    (fun f fn hf hfn => by
      obtain rfl : f = 6 := Option.some.inj ((show Tryd.prog.funcNamed "corollary/corollarylaw11.LexShown" = some 6 by kernel_rfl).symm.trans hf) |>.symm
      obtain rfl : fn = Tryd.f6 := (Option.some.inj (Tryd.func6.symm.trans hfn)).symm
      exact ⟨by kernel_rfl, fun j t ht => by
        rw [Tryd.params6] at ht
        have hm : t ∈ [36, 5] := List.mem_of_getElem? (by rw [← List.getElem?_toArray]; exact ht)
        have hp5 : Tryd.prog.wantsStandIn 5 = false := by kernel_rfl
        have hp36 : Tryd.prog.wantsStandIn 36 = false := by kernel_rfl
        simp only [List.mem_cons, List.mem_nil_iff, or_false] at hm
        rcases hm with rfl | rfl
        · exact hp36
        · exact hp5⟩)
    (by kernel_rfl)
#print axioms proved
end Go.Proofs.YtjcjndpfihchnaaDoor.lexShown
namespace Go.Proofs.YtjcjndpfihchnaaDoor
/-- The card, under a short name, for the claim. -/
theorem lexShown_holds : Rows.LexShownCardSaid := lexShown.proved
end Go.Proofs.YtjcjndpfihchnaaDoor
