/- corollary/corollarylaw14.DeltaNothing: the Go function answers true for every input, and its arguments read behind the call as before. Conditions: none beside the given statement's own (the library's tables as the program's text lays them). -/
-- Written by our own program (wip/xprint/rows.py) for this seat.
import Derived.Test.YtnggdcdiachkpaaDoorRows
import Derived.Test.YtnggdcdiachkpaaDoorOpen
import Derived.Test.YtnggdcdiachkpaaDoorStatDeltaNothing
import Derived.Test.YtnggdcdiachkpaaDoorPureDeltaNothing
import Derived.WalkKit
import Derived.ProofKit
import Derived.OpenShut
import Derived.ShutString
import Derived.ChangeOld
import Derived.Below
import Derived.SizedLaws
import Derived.Lib.LaidIn
import Derived.Lib.LaidU8T
import Derived.Deep.DeepHandedRow
import Derived.Deep.DeepWitnessRowRef
import Derived.JoinedCond
import Derived.SevenTiedAt
import Derived.PinnedBridge
import Derived.Test.YtnggdcdiachkpaaDoorCards
import Derived.Test.YtnggdcdiachkpaaDoorTie
import Derived.Test.YtnggdcdiachkpaaDoorCardBase
namespace Go.Proofs.YtnggdcdiachkpaaDoor.deltaNothing
open Go.ChangeShapes Go.WideShapes Go.ChangeAt Go.RowKit Go.Proofs.YtnggdcdiachkpaaDoorW.PrintWords Go.Proofs.YtnggdcdiachkpaaDoorW.PrintLast Go.Proofs.YtnggdcdiachkpaaDoor.P Go.Proofs.YtnggdcdiachkpaaDoor.Open
open Go.ChangeMaps (open_string shut_string)
open Go.Lib Go.Shelf
set_option linter.unusedVariables false
set_option linter.unusedSimpArgs false
theorem own : ownKnob Tryd.prog.godebug = none := by kernel_rfl
theorem laidOut : laidOutB Tryd.prog = true := by kernel_rfl
theorem zhj (os : Os) {H : Type} (enc : TypeId × Value → H) :
  (OpenSpec.ofChange Rows.deltaNothingSpec).preRow enc Tryd.prog Tryd.f7 Rows.deltaNothingRow.domain false Rows.deltaNothingRow.laid ((laidWorld os).forCall (fun _ _ => 0) ⟨#[], #[.agg #[.string ByteArray.empty, .string ByteArray.empty, .slice none 0 0, .slice none 0 0, .slice none 0 0, .slice none 0 0, .slice none 0 0], .int .i64 0, .slice none 0 0, .slice none 0 0, .slice none 0 0], []⟩).memory #[.agg #[.string ByteArray.empty, .string ByteArray.empty, .slice none 0 0, .slice none 0 0, .slice none 0 0, .slice none 0 0, .slice none 0 0], .int .i64 0, .slice none 0 0, .slice none 0 0, .slice none 0 0] := by
 have hw : (DataW.whole enc Tryd.prog ((laidWorld os).forCall (fun _ _ => 0) ⟨#[], #[.agg #[.string ByteArray.empty, .string ByteArray.empty, .slice none 0 0, .slice none 0 0, .slice none 0 0, .slice none 0 0, .slice none 0 0], .int .i64 0, .slice none 0 0, .slice none 0 0, .slice none 0 0], []⟩).memory Tryd.f7.params.toList (OpenSpec.ofChange Rows.deltaNothingSpec).vars false #[.agg #[.string ByteArray.empty, .string ByteArray.empty, .slice none 0 0, .slice none 0 0, .slice none 0 0, .slice none 0 0, .slice none 0 0], .int .i64 0, .slice none 0 0, .slice none 0 0, .slice none 0 0].toList 8).map (fun x => (x.1, x.2.1)) =
   some ([.agg [.lit (.string []), .lit (.string []), DataW.nil, DataW.nil, DataW.nil, DataW.nil, DataW.nil], .lit (.int .i64 0), DataW.nil, DataW.nil, DataW.nil], []) := by kernel_rfl
 obtain ⟨⟨x1, x2, x3⟩, hx, hx1⟩ := Option.map_eq_some_iff.1 hw
 simp only [Prod.mk.injEq] at hx1
 obtain ⟨rfl, rfl⟩ := hx1
 exact OpenSpec.preRow_of_cond 8 hx (by kernel_rfl) (fun k hk => by cases hk) (by kernel_rfl) (laid_met os _)
set_option maxRecDepth 100000 in
set_option maxHeartbeats 4000000 in
theorem lifted (os : Os) (started : os.Started) (H : Type) (enc : TypeId × Value → H) (F : Stop.Interp) :
  ReturnsInHanded {} Tryd.checked os 7 .any ((OpenSpec.ofChange Rows.deltaNothingSpec).preRow enc Tryd.prog Tryd.f7 Rows.deltaNothingRow.domain false Rows.deltaNothingRow.laid) (((OpenSpec.ofChange Rows.deltaNothingSpec).at F).post enc Tryd.prog Tryd.f7 false true false false) := by
 refine returnsInHanded_of_row (C := Tryd.checked) (s := (OpenSpec.ofChange Rows.deltaNothingSpec)) laid_own started (by kernel_rfl) Tryd.func7
  (witness_row_atRef (enc := enc) (C := Tryd.checked) false (laidWorld os) #[.agg #[.string ByteArray.empty, .string ByteArray.empty, .slice none 0 0, .slice none 0 0, .slice none 0 0, .slice none 0 0, .slice none 0 0], .int .i64 0, .slice none 0 0, .slice none 0 0, .slice none 0 0] rfl (by kernel_rfl) (by kernel_rfl) (by kernel_rfl) (zhj os enc)) ?_
 intro W base args ds gs before hval0 hW hcnd hcond hsz0 hL hshp _
 have hsz : (DataW.weightsEach Tryd.prog (Tryd.f7.params.toList ++ (OpenSpec.ofChange Rows.deltaNothingSpec).bare.plain.varTypes Tryd.prog) (ds ++ gs)).all (· ≤ reachBytes) = true := hsz0
 have hval : ∀ (j : Nat) t v, Tryd.f7.params[j]? = some t → args[j]? = some v → Value.okWide Tryd.prog W .any base t v := hval0
 have glob := glob_of hL hshp
 have hW' := hW
 obtain ⟨p, q, hA0, hV, rfl, hfz, hnd⟩ := hW
 have hA : DataW.TrodAll enc Tryd.prog W 0 (fun _ => true) true Tryd.f7.params.toList args.toList ds p := hA0
 rw [Tryd.params7] at hA hval hsz
 obtain ⟨rfl, rfl⟩ := trodVars_none hV
 obtain ⟨v0, vs0, d0, ds0, p0, q0, hargs, rfl, rfl, h0, r0⟩ := trodAll_cons hA
 obtain ⟨v1, vs1, d1, ds1, p1, q1, rfl, rfl, rfl, h1, r1⟩ := trodAll_cons r0
 obtain ⟨v2, vs2, d2, ds2, p2, q2, rfl, rfl, rfl, h2, r2⟩ := trodAll_cons r1
 obtain ⟨v3, vs3, d3, ds3, p3, q3, rfl, rfl, rfl, h3, r3⟩ := trodAll_cons r2
 obtain ⟨v4, vs4, d4, ds4, p4, q4, rfl, rfl, rfl, h4, r4⟩ := trodAll_cons r3
 obtain ⟨rfl, rfl, rfl⟩ := trodAll_nil r4
 obtain rfl : args = #[v0, v1, v2, v3, v4] := by cases args; simp_all
 have k0 := h0
 have lt0 : ∀ x ∈ p0, x.block < W.heap.size := by obtain ⟨m, hm⟩ := k0; exact DataW.trod_lt m _ _ _ hm
 obtain ⟨fuel0, hf0⟩ := h0
 obtain ⟨cs0, rfl, hcs0⟩ := okWide_struct Tryd.underlying27 (hval 0 27 v0 rfl rfl)
 obtain ⟨x0, hK0, w0⟩ := opens_27.came hf0
 obtain ⟨A0_2, c0_2, A0_3, c0_3, A0_4, c0_4, A0_5, c0_5, A0_6, c0_6, e0, le0_2, C0_2, le0_3, C0_3, le0_4, C0_4, le0_5, C0_5, le0_6, C0_6⟩ := k27_open hK0
 have g0 := congrArg List.toArray (show cs0.toList = _ from e0)
 rw [Array.toArray_toList] at g0
 subst g0
 have k1 := h1
 have lt1 : ∀ x ∈ p1, x.block < W.heap.size := by obtain ⟨m, hm⟩ := k1; exact DataW.trod_lt m _ _ _ hm
 obtain ⟨fuel1, hf1⟩ := h1
 obtain ⟨a1, rfl⟩ := okWide_int Tryd.underlying3 (hval 1 3 v1 rfl rfl)
 obtain ⟨x1, hK1, w1⟩ := zhq.came hf1
 have hx1 : a1 = x1 := by
  have e := hK1
  simp [Value.cells, Kd.int, Kd.bool, Kd.string, Kd.scalar] at e
  exact e
 subst hx1
 have k2 := h2
 have lt2 : ∀ x ∈ p2, x.block < W.heap.size := by obtain ⟨m, hm⟩ := k2; exact DataW.trod_lt m _ _ _ hm
 obtain ⟨fuel2, hf2⟩ := h2
 obtain ⟨A2, n2, c2, rfl⟩ := okWide_slice Tryd.underlying28 (hval 2 28 v2 rfl rfl)
 obtain ⟨x2, hK2, w2⟩ := zgj.came hf2
 obtain ⟨A2', c2', e2, le2, C2⟩ := hK2
 simp [Value.cells] at e2
 obtain ⟨rfl, rfl, rfl⟩ := e2
 have k3 := h3
 have lt3 : ∀ x ∈ p3, x.block < W.heap.size := by obtain ⟨m, hm⟩ := k3; exact DataW.trod_lt m _ _ _ hm
 obtain ⟨fuel3, hf3⟩ := h3
 obtain ⟨A3, n3, c3, rfl⟩ := okWide_slice Tryd.underlying28 (hval 3 28 v3 rfl rfl)
 obtain ⟨x3, hK3, w3⟩ := zgj.came hf3
 obtain ⟨A3', c3', e3, le3, C3⟩ := hK3
 simp [Value.cells] at e3
 obtain ⟨rfl, rfl, rfl⟩ := e3
 have k4 := h4
 have lt4 : ∀ x ∈ p4, x.block < W.heap.size := by obtain ⟨m, hm⟩ := k4; exact DataW.trod_lt m _ _ _ hm
 obtain ⟨fuel4, hf4⟩ := h4
 obtain ⟨A4, n4, c4, rfl⟩ := okWide_slice Tryd.underlying28 (hval 4 28 v4 rfl rfl)
 obtain ⟨x4, hK4, w4⟩ := zgj.came hf4
 obtain ⟨A4', c4', e4, le4, C4⟩ := hK4
 simp [Value.cells] at e4
 obtain ⟨rfl, rfl, rfl⟩ := e4
 clear hA0 hval0
 obtain ⟨kr, hr⟩ := (show Stat.DeltaNothing from Pure.DeltaNothing_pure) x0.f0 x0.f1 x0.f2 x0.f3 x0.f4 x0.f5 x0.f6 a1 x2 x3 x4 w0 w1 w2 w3 w4
 refine (zaa.calls kr x0.f0 x0.f1 _ _ x0.f2 _ _ x0.f3 _ _ x0.f4 _ _ x0.f5 _ _ x0.f6 a1 (fun k_ => k_ < W.heap.size) _ _ x2 (fun k_ => k_ < W.heap.size) _ _ x3 (fun k_ => k_ < W.heap.size) _ _ x4 true W C0_2 le0_2 C0_3 le0_3 C0_4 le0_4 C0_5 le0_5 C0_6 le0_6 (Kd.V_mk le2 (Kd.zfn (Kd.C_F zgm C2) (Below.refl _ _))) (Kd.V_mk le3 (Kd.zfn (Kd.C_F zgm C3) (Below.refl _ _))) (Kd.V_mk le4 (Kd.zfn (Kd.C_F zgm C4) (Below.refl _ _))) hr glob).mono ?_
 rintro e W' ⟨rfl, bel0⟩
 have bel : Below W.heap.size W W' := bel0
 exact ⟨_, rfl, _, _, _, [], _, [], hW', trodAll_mk1 (shut_bool Tryd.underlying4 _), (trodAll_cons_mk (Below.trod laidOut (by kernel_rfl) (of_decide_eq_true (by kernel_rfl)) k0 bel lt0) (trodAll_cons_mk (Below.trod laidOut (by kernel_rfl) (of_decide_eq_true (by kernel_rfl)) k1 bel lt1) (trodAll_cons_mk (Below.trod laidOut (by kernel_rfl) (of_decide_eq_true (by kernel_rfl)) k2 bel lt2) (trodAll_cons_mk (Below.trod laidOut (by kernel_rfl) (of_decide_eq_true (by kernel_rfl)) k3 bel lt3) (trodAll_cons_mk (Below.trod laidOut (by kernel_rfl) (of_decide_eq_true (by kernel_rfl)) k4 bel lt4) trodAll_mk0))))), rfl, bel.frame _, fun h => by cases h⟩
theorem over : Rows.deltaNothingRow.holds Tryd.pinned (OpenSpec.ofChange Rows.deltaNothingSpec) :=
 OpenClaim.holds_of_cond 7 Tryd.f7 rfl rfl rfl rfl rfl rfl rfl ⟨rfl, rfl, rfl, rfl, rfl⟩ rfl rfl rfl rfl rfl (by kernel_rfl) Tryd.func7 (by kernel_rfl)
  (of_decide_eq_true (by kernel_rfl)) (by unfold Func.isWrapper; first | (rw [if_pos (by decide +kernel)]; kernel_rfl) | (rw [if_neg (by decide +kernel)]; exact ⟨rfl, rfl⟩))
  (fun os started H enc _ F0 => by rw [OpenClaim.pre_eq_preRow]; exact lifted os started H enc F0)
theorem proved : Rows.DeltaNothingCardSaid :=
 Claim7.holds_tied_plain_at .later [] [.data, .pinned] true (true, "5b3dd8625738f195875b61ffe9533ec4f7d18548e74740143f72697c1246d560") false
  over (fun _ h => by cases h) (by kernel_rfl) (fun _ h => by cases h) deltaNothing_row_tie rfl ⟨rfl, rfl⟩ (by kernel_rfl) rfl
  (fun f fn hf hfn => by
   obtain rfl : f = 7 := Option.some.inj ((show Tryd.prog.funcNamed "corollary/corollarylaw14.DeltaNothing" = some 7 by kernel_rfl).symm.trans hf) |>.symm
   obtain rfl : fn = Tryd.f7 := (Option.some.inj (Tryd.func7.symm.trans hfn)).symm
   exact ⟨by kernel_rfl, fun j t ht => by
    rw [Tryd.params7] at ht
    have hm : t ∈ [27, 3, 28, 28, 28] := List.mem_of_getElem? (by rw [← List.getElem?_toArray]; exact ht)
    have hp3 : Tryd.prog.wantsStandIn 3 = false := by kernel_rfl
    have hp27 : Tryd.prog.wantsStandIn 27 = false := by kernel_rfl
    have hp28 : Tryd.prog.wantsStandIn 28 = false := by kernel_rfl
    simp only [List.mem_cons, List.mem_nil_iff, or_false] at hm
    rcases hm with rfl | rfl | rfl | rfl | rfl
    ·exact hp27
    ·exact hp3
    ·exact hp28
    ·exact hp28
    ·exact hp28⟩)
  (by kernel_rfl)
#print axioms proved
end Go.Proofs.YtnggdcdiachkpaaDoor.deltaNothing
namespace Go.Proofs.YtnggdcdiachkpaaDoor
/-- The card, under a short name, for the claim. -/
theorem deltaNothing_holds : Rows.DeltaNothingCardSaid := deltaNothing.proved
end Go.Proofs.YtnggdcdiachkpaaDoor
