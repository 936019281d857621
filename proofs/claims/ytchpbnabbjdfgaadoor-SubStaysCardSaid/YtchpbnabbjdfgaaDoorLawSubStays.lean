/- corollary/corollarylaw22.SubStays: the Go function answers true for every input, and its arguments read behind the call as before. Conditions: none beside the given statement's own (the library's tables as the program's text lays them). -/
-- Written by our own program (wip/xprint/rows.py) for this seat.
import Derived.Test.YtchpbnabbjdfgaaDoorRows
import Derived.Test.YtchpbnabbjdfgaaDoorOpen
import Derived.Test.YtchpbnabbjdfgaaDoorStatSubStays
import Derived.Test.YtchpbnabbjdfgaaDoorPureSubStays
import Derived.WalkKit
import Derived.ProofKit
import Derived.OpenShut
import Derived.ShutString
import Derived.ChangeOld
import Derived.Below
import Derived.SizedLaws
import Derived.Lib.LaidIn
import Derived.Lib.LaidU8T
import Derived.Deep.DeepHandedRow
import Derived.Deep.DeepWitnessRowRef
import Derived.JoinedCond
import Derived.SevenTiedAt
import Derived.PinnedBridge
import Derived.Test.YtchpbnabbjdfgaaDoorCards
import Derived.Test.YtchpbnabbjdfgaaDoorTie
import Derived.Test.YtchpbnabbjdfgaaDoorCardBase
namespace Go.Proofs.YtchpbnabbjdfgaaDoor.subStays
open Go.ChangeShapes Go.WideShapes Go.ChangeAt Go.RowKit Go.Proofs.YtchpbnabbjdfgaaDoorW.PrintWords Go.Proofs.YtchpbnabbjdfgaaDoorW.PrintLast Go.Proofs.YtchpbnabbjdfgaaDoor.P Go.Proofs.YtchpbnabbjdfgaaDoor.Open
open Go.ChangeMaps (open_string shut_string)
open Go.Lib Go.Shelf
set_option linter.unusedVariables false
set_option linter.unusedSimpArgs false
theorem own : ownKnob Tryd.prog.godebug = none := by kernel_rfl
theorem laidOut : laidOutB Tryd.prog = true := by kernel_rfl
theorem zie (os : Os) {H : Type} (enc : TypeId × Value → H) :
  (OpenSpec.ofChange Rows.subStaysSpec).preRow enc Tryd.prog Tryd.f4 Rows.subStaysRow.domain false Rows.subStaysRow.laid ((laidWorld os).forCall (fun _ _ => 0) ⟨#[], #[.agg #[.int .i64 0, .int .i64 0, .slice none 0 0, .int .i64 0, .int .i64 0, .slice none 0 0], .slice none 0 0], []⟩).memory #[.agg #[.int .i64 0, .int .i64 0, .slice none 0 0, .int .i64 0, .int .i64 0, .slice none 0 0], .slice none 0 0] := by
 have hw : (DataW.whole enc Tryd.prog ((laidWorld os).forCall (fun _ _ => 0) ⟨#[], #[.agg #[.int .i64 0, .int .i64 0, .slice none 0 0, .int .i64 0, .int .i64 0, .slice none 0 0], .slice none 0 0], []⟩).memory Tryd.f4.params.toList (OpenSpec.ofChange Rows.subStaysSpec).vars false #[.agg #[.int .i64 0, .int .i64 0, .slice none 0 0, .int .i64 0, .int .i64 0, .slice none 0 0], .slice none 0 0].toList 8).map (fun x => (x.1, x.2.1)) =
   some ([.agg [.lit (.int .i64 0), .lit (.int .i64 0), DataW.nil, .lit (.int .i64 0), .lit (.int .i64 0), DataW.nil], DataW.nil], []) := by kernel_rfl
 obtain ⟨⟨x1, x2, x3⟩, hx, hx1⟩ := Option.map_eq_some_iff.1 hw
 simp only [Prod.mk.injEq] at hx1
 obtain ⟨rfl, rfl⟩ := hx1
 exact OpenSpec.preRow_of_cond 8 hx (by kernel_rfl) (fun k hk => by cases hk) (by kernel_rfl) (laid_met os _)
set_option maxRecDepth 100000 in
set_option maxHeartbeats 4000000 in
theorem lifted (os : Os) (started : os.Started) (H : Type) (enc : TypeId × Value → H) (F : Stop.Interp) :
  ReturnsInHanded {} Tryd.checked os 4 .any ((OpenSpec.ofChange Rows.subStaysSpec).preRow enc Tryd.prog Tryd.f4 Rows.subStaysRow.domain false Rows.subStaysRow.laid) (((OpenSpec.ofChange Rows.subStaysSpec).at F).post enc Tryd.prog Tryd.f4 false true false false) := by
 refine returnsInHanded_of_row (C := Tryd.checked) (s := (OpenSpec.ofChange Rows.subStaysSpec)) laid_own started (by kernel_rfl) Tryd.func4
  (witness_row_atRef (enc := enc) (C := Tryd.checked) false (laidWorld os) #[.agg #[.int .i64 0, .int .i64 0, .slice none 0 0, .int .i64 0, .int .i64 0, .slice none 0 0], .slice none 0 0] rfl (by kernel_rfl) (by kernel_rfl) (by kernel_rfl) (zie os enc)) ?_
 intro W base args ds gs before hval0 hW hcnd hcond hsz0 hL hshp _
 have hsz : (DataW.weightsEach Tryd.prog (Tryd.f4.params.toList ++ (OpenSpec.ofChange Rows.subStaysSpec).bare.plain.varTypes Tryd.prog) (ds ++ gs)).all (· ≤ reachBytes) = true := hsz0
 have hval : ∀ (j : Nat) t v, Tryd.f4.params[j]? = some t → args[j]? = some v → Value.okWide Tryd.prog W .any base t v := hval0
 have glob := glob_of hL hshp
 have hW' := hW
 obtain ⟨p, q, hA0, hV, rfl, hfz, hnd⟩ := hW
 have hA : DataW.TrodAll enc Tryd.prog W 0 (fun _ => true) true Tryd.f4.params.toList args.toList ds p := hA0
 rw [Tryd.params4] at hA hval hsz
 obtain ⟨rfl, rfl⟩ := trodVars_none hV
 obtain ⟨v0, vs0, d0, ds0, p0, q0, hargs, rfl, rfl, h0, r0⟩ := trodAll_cons hA
 obtain ⟨v1, vs1, d1, ds1, p1, q1, rfl, rfl, rfl, h1, r1⟩ := trodAll_cons r0
 obtain ⟨rfl, rfl, rfl⟩ := trodAll_nil r1
 obtain rfl : args = #[v0, v1] := by cases args; simp_all
 have k0 := h0
 have lt0 : ∀ x ∈ p0, x.block < W.heap.size := by obtain ⟨m, hm⟩ := k0; exact DataW.trod_lt m _ _ _ hm
 obtain ⟨fuel0, hf0⟩ := h0
 obtain ⟨cs0, rfl, hcs0⟩ := okWide_struct Tryd.underlying33 (hval 0 33 v0 rfl rfl)
 obtain ⟨x0, hK0, w0⟩ := opens_33.came hf0
 obtain ⟨A0_2, c0_2, A0_5, c0_5, e0, le0_2, C0_2, le0_5, C0_5⟩ := k33_open hK0
 have g0 := congrArg List.toArray (show cs0.toList = _ from e0)
 rw [Array.toArray_toList] at g0
 subst g0
 have hb0 := reach_33 hf0 rfl hsz
 have k1 := h1
 have lt1 : ∀ x ∈ p1, x.block < W.heap.size := by obtain ⟨m, hm⟩ := k1; exact DataW.trod_lt m _ _ _ hm
 obtain ⟨fuel1, hf1⟩ := h1
 obtain ⟨A1, n1, c1, rfl⟩ := okWide_slice Tryd.underlying31 (hval 1 31 v1 rfl rfl)
 obtain ⟨x1, hK1, w1⟩ := opens_31.came hf1
 obtain ⟨A1', c1', e1, le1, C1⟩ := hK1
 simp [Value.cells] at e1
 obtain ⟨rfl, rfl, rfl⟩ := e1
 clear hA0 hval0
 obtain ⟨kr, hr⟩ := (show Stat.SubStays from Pure.SubStays_pure) x0.f0 x0.f1 x0.f2 x0.f3 x0.f4 x0.f5 x1 w0 hb0 w1
 refine (zac.calls kr x0.f0 x0.f1 (fun k_ => k_ < W.heap.size) _ _ x0.f2 x0.f3 x0.f4 (fun k_ => k_ < W.heap.size) _ _ x0.f5 (fun k_ => k_ < W.heap.size) _ _ x1 true W (Kd.V_mk le0_2 (Kd.zdq (Kd.C_F zgf C0_2) (Below.refl _ _))) (Kd.V_mk le0_5 (Kd.zdq (Kd.C_F zja C0_5) (Below.refl _ _))) (Kd.V_mk le1 (Kd.zdq (Kd.C_F zja C1) (Below.refl _ _))) hr glob).mono ?_
 rintro e W' ⟨rfl, bel0⟩
 have bel : Below W.heap.size W W' := bel0
 exact ⟨_, rfl, _, _, _, [], _, [], hW', trodAll_mk1 (shut_bool Tryd.underlying4 _), (trodAll_cons_mk (Below.trod laidOut (by kernel_rfl) (of_decide_eq_true (by kernel_rfl)) k0 bel lt0) (trodAll_cons_mk (Below.trod laidOut (by kernel_rfl) (of_decide_eq_true (by kernel_rfl)) k1 bel lt1) trodAll_mk0)), rfl, bel.frame _, fun h => by cases h⟩
theorem over : Rows.subStaysRow.holds Tryd.pinned (OpenSpec.ofChange Rows.subStaysSpec) :=
 OpenClaim.holds_of_cond 4 Tryd.f4 rfl rfl rfl rfl rfl rfl rfl ⟨rfl, rfl, rfl, rfl, rfl⟩ rfl rfl rfl rfl rfl (by kernel_rfl) Tryd.func4 (by kernel_rfl)
  (of_decide_eq_true (by kernel_rfl)) (by unfold Func.isWrapper; first | (rw [if_pos (by decide +kernel)]; kernel_rfl) | (rw [if_neg (by decide +kernel)]; exact ⟨rfl, rfl⟩))
  (fun os started H enc _ F0 => by rw [OpenClaim.pre_eq_preRow]; exact lifted os started H enc F0)
theorem proved : Rows.SubStaysCardSaid :=
 Claim7.holds_tied_plain_at .later [] [.data, .pinned] true (true, "c98d5e71ecb75956ec5eaa9a2a1decba53acc8995d697c565179cd8d0c8fa58f") false
  over (fun _ h => by cases h) (by kernel_rfl) (fun _ h => by cases h) subStays_row_tie rfl ⟨rfl, rfl⟩ (by kernel_rfl) rfl
  (fun f fn hf hfn => by
   obtain rfl : f = 4 := Option.some.inj ((show Tryd.prog.funcNamed "corollary/corollarylaw22.SubStays" = some 4 by kernel_rfl).symm.trans hf) |>.symm
   obtain rfl : fn = Tryd.f4 := (Option.some.inj (Tryd.func4.symm.trans hfn)).symm
   exact ⟨by kernel_rfl, fun j t ht => by
    rw [Tryd.params4] at ht
    have hm : t ∈ [33, 31] := List.mem_of_getElem? (by rw [← List.getElem?_toArray]; exact ht)
    have hp31 : Tryd.prog.wantsStandIn 31 = false := by kernel_rfl
    have hp33 : Tryd.prog.wantsStandIn 33 = false := by kernel_rfl
    simp only [List.mem_cons, List.mem_nil_iff, or_false] at hm
    rcases hm with rfl | rfl
    ·exact hp33
    ·exact hp31⟩)
  (by kernel_rfl)
#print axioms proved
end Go.Proofs.YtchpbnabbjdfgaaDoor.subStays
namespace Go.Proofs.YtchpbnabbjdfgaaDoor
/-- The card, under a short name, for the claim. -/
theorem subStays_holds : Rows.SubStaysCardSaid := subStays.proved
end Go.Proofs.YtchpbnabbjdfgaaDoor
