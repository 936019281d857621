/- corollary/corollarylaw22.SubFollows: the Go function answers true for every input, and its arguments read behind the call as before. Conditions: none beside the given statement's own (the library's tables as the program's text lays them). -/
-- Written by our own program (wip/xprint/rows.py) for this seat.
import Derived.Test.YtchpbnabbjdfgaaDoorRows
import Derived.Test.YtchpbnabbjdfgaaDoorOpen
import Derived.Test.YtchpbnabbjdfgaaDoorStatSubFollows
import Derived.Test.YtchpbnabbjdfgaaDoorPureSubFollows
import Derived.WalkKit
import Derived.ProofKit
import Derived.OpenShut
import Derived.ShutString
import Derived.ChangeOld
import Derived.Below
import Derived.SizedLaws
import Derived.Lib.LaidIn
import Derived.Lib.LaidU8T
import Derived.Deep.DeepHandedRow
import Derived.Deep.DeepWitnessRowRef
import Derived.JoinedCond
import Derived.SevenTiedAt
import Derived.PinnedBridge
import Derived.Test.YtchpbnabbjdfgaaDoorCards
import Derived.Test.YtchpbnabbjdfgaaDoorTie
import Derived.Test.YtchpbnabbjdfgaaDoorCardBase
namespace Go.Proofs.YtchpbnabbjdfgaaDoor.subFollows
open Go.ChangeShapes Go.WideShapes Go.ChangeAt Go.RowKit Go.Proofs.YtchpbnabbjdfgaaDoorW.PrintWords Go.Proofs.YtchpbnabbjdfgaaDoorW.PrintLast Go.Proofs.YtchpbnabbjdfgaaDoor.P Go.Proofs.YtchpbnabbjdfgaaDoor.Open
open Go.ChangeMaps (open_string shut_string)
open Go.Lib Go.Shelf
set_option linter.unusedVariables false
set_option linter.unusedSimpArgs false
theorem own : ownKnob Tryd.prog.godebug = none := by kernel_rfl
theorem laidOut : laidOutB Tryd.prog = true := by kernel_rfl
theorem witness_row (os : Os) {H : Type} (enc : TypeId × Value → H) :
  (OpenSpec.ofChange Rows.subFollowsSpec).preRow enc Tryd.prog Tryd.f7 Rows.subFollowsRow.domain false Rows.subFollowsRow.laid ((laidWorld os).forCall (fun _ _ => 0) ⟨#[], #[.slice none 0 0, .slice none 0 0], []⟩).memory #[.slice none 0 0, .slice none 0 0] := by
 have hw : (DataW.whole enc Tryd.prog ((laidWorld os).forCall (fun _ _ => 0) ⟨#[], #[.slice none 0 0, .slice none 0 0], []⟩).memory Tryd.f7.params.toList (OpenSpec.ofChange Rows.subFollowsSpec).vars false #[.slice none 0 0, .slice none 0 0].toList 8).map (fun x => (x.1, x.2.1)) =
   some ([DataW.nil, DataW.nil], []) := by kernel_rfl
 obtain ⟨⟨x1, x2, x3⟩, hx, hx1⟩ := Option.map_eq_some_iff.1 hw
 simp only [Prod.mk.injEq] at hx1
 obtain ⟨rfl, rfl⟩ := hx1
 exact OpenSpec.preRow_of_cond 8 hx (by kernel_rfl) (fun k hk => by cases hk) (by kernel_rfl) (laid_met os _)
set_option maxRecDepth 100000 in
set_option maxHeartbeats 4000000 in
theorem lifted (os : Os) (started : os.Started) (H : Type) (enc : TypeId × Value → H) (F : Stop.Interp) :
  ReturnsInHanded {} Tryd.checked os 7 .any ((OpenSpec.ofChange Rows.subFollowsSpec).preRow enc Tryd.prog Tryd.f7 Rows.subFollowsRow.domain false Rows.subFollowsRow.laid) (((OpenSpec.ofChange Rows.subFollowsSpec).at F).post enc Tryd.prog Tryd.f7 false true false false) := by
 refine returnsInHanded_of_row (C := Tryd.checked) (s := (OpenSpec.ofChange Rows.subFollowsSpec)) laid_own started (by kernel_rfl) Tryd.func7
  (witness_row_atRef (enc := enc) (C := Tryd.checked) false (laidWorld os) #[.slice none 0 0, .slice none 0 0] rfl (by kernel_rfl) (by kernel_rfl) (by kernel_rfl) (witness_row os enc)) ?_
 intro W base args ds gs before hval0 hW hcnd hcond hsz0 hL hshp _
 have hsz : (DataW.weightsEach Tryd.prog (Tryd.f7.params.toList ++ (OpenSpec.ofChange Rows.subFollowsSpec).bare.plain.varTypes Tryd.prog) (ds ++ gs)).all (· ≤ reachBytes) = true := hsz0
 have hval : ∀ (j : Nat) t v, Tryd.f7.params[j]? = some t → args[j]? = some v → Value.okWide Tryd.prog W .any base t v := hval0
 have glob := glob_of hL hshp
 have hW' := hW
 obtain ⟨p, q, hA0, hV, rfl, hfz, hnd⟩ := hW
 have hA : DataW.TrodAll enc Tryd.prog W 0 (fun _ => true) true Tryd.f7.params.toList args.toList ds p := hA0
 rw [Tryd.params7] at hA hval hsz
 obtain ⟨rfl, rfl⟩ := trodVars_none hV
 obtain ⟨v0, vs0, d0, ds0, p0, q0, hargs, rfl, rfl, h0, r0⟩ := trodAll_cons hA
 obtain ⟨v1, vs1, d1, ds1, p1, q1, rfl, rfl, rfl, h1, r1⟩ := trodAll_cons r0
 obtain ⟨rfl, rfl, rfl⟩ := trodAll_nil r1
 obtain rfl : args = #[v0, v1] := by cases args; simp_all
 have k0 := h0
 have lt0 : ∀ x ∈ p0, x.block < W.heap.size := by obtain ⟨m, hm⟩ := k0; exact DataW.trod_lt m _ _ _ hm
 obtain ⟨fuel0, hf0⟩ := h0
 obtain ⟨A0, n0, c0, rfl⟩ := okWide_slice Tryd.underlying47 (hval 0 47 v0 rfl rfl)
 obtain ⟨x0, hK0, w0⟩ := opens_47.came hf0
 obtain ⟨A0', c0', e0, le0, C0⟩ := hK0
 simp [Value.cells] at e0
 obtain ⟨rfl, rfl, rfl⟩ := e0
 have k1 := h1
 have lt1 : ∀ x ∈ p1, x.block < W.heap.size := by obtain ⟨m, hm⟩ := k1; exact DataW.trod_lt m _ _ _ hm
 obtain ⟨fuel1, hf1⟩ := h1
 obtain ⟨A1, n1, c1, rfl⟩ := okWide_slice Tryd.underlying48 (hval 1 48 v1 rfl rfl)
 obtain ⟨x1, hK1, w1⟩ := opens_48.came hf1
 obtain ⟨A1', c1', e1, le1, C1⟩ := hK1
 simp [Value.cells] at e1
 obtain ⟨rfl, rfl, rfl⟩ := e1
 clear hA0 hval0
 obtain ⟨kr, hr⟩ := (show Stat.SubFollows from Pure.SubFollows_pure) x0 x1 w0 w1
 refine (zad.calls kr (fun k_ => k_ < W.heap.size) _ _ x0 _ _ x1 true W (Kd.V_mk le0 (Kd.zdn (Kd.C_F (Kd.heap_slice 56 k56_heap) C0) (Below.refl _ _))) C1 le1 hr glob).mono ?_
 rintro e W' ⟨rfl, bel0⟩
 have bel : Below W.heap.size W W' := bel0
 exact ⟨_, rfl, _, _, _, [], _, [], hW', trodAll_mk1 (shut_bool Tryd.underlying4 _), (trodAll_cons_mk (Below.trod laidOut (by kernel_rfl) (of_decide_eq_true (by kernel_rfl)) k0 bel lt0) (trodAll_cons_mk (Below.trod laidOut (by kernel_rfl) (of_decide_eq_true (by kernel_rfl)) k1 bel lt1) trodAll_mk0)), rfl, bel.frame _, fun h => by cases h⟩
theorem over : Rows.subFollowsRow.holds Tryd.pinned (OpenSpec.ofChange Rows.subFollowsSpec) :=
 OpenClaim.holds_of_cond 7 Tryd.f7 rfl rfl rfl rfl rfl rfl rfl ⟨rfl, rfl, rfl, rfl, rfl⟩ rfl rfl rfl rfl rfl (by kernel_rfl) Tryd.func7 (by kernel_rfl)
  (of_decide_eq_true (by kernel_rfl)) (by unfold Func.isWrapper; first | (rw [if_pos (by decide +kernel)]; kernel_rfl) | (rw [if_neg (by decide +kernel)]; exact ⟨rfl, rfl⟩))
  (fun os started H enc _ F0 => by rw [OpenClaim.pre_eq_preRow]; exact lifted os started H enc F0)
theorem proved : Rows.SubFollowsCardSaid :=
 Claim7.holds_tied_plain_at .later [] [.data, .pinned] true (true, "c98d5e71ecb75956ec5eaa9a2a1decba53acc8995d697c565179cd8d0c8fa58f") false
  over (fun _ h => by cases h) (by kernel_rfl) (fun _ h => by cases h) subFollows_row_tie rfl ⟨rfl, rfl⟩ (by kernel_rfl) rfl
  (fun f fn hf hfn => by
   obtain rfl : f = 7 := Option.some.inj ((show Tryd.prog.funcNamed "corollary/corollarylaw22.SubFollows" = some 7 by kernel_rfl).symm.trans hf) |>.symm
   obtain rfl : fn = Tryd.f7 := (Option.some.inj (Tryd.func7.symm.trans hfn)).symm
   exact ⟨by kernel_rfl, fun j t ht => by
    rw [Tryd.params7] at ht
    have hm : t ∈ [47, 48] := List.mem_of_getElem? (by rw [← List.getElem?_toArray]; exact ht)
    have hp47 : Tryd.prog.wantsStandIn 47 = false := by kernel_rfl
    have hp48 : Tryd.prog.wantsStandIn 48 = false := by kernel_rfl
    simp only [List.mem_cons, List.mem_nil_iff, or_false] at hm
    rcases hm with rfl | rfl
    ·exact hp47
    ·exact hp48⟩)
  (by kernel_rfl)
#print axioms proved
end Go.Proofs.YtchpbnabbjdfgaaDoor.subFollows
namespace Go.Proofs.YtchpbnabbjdfgaaDoor
/-- The card, under a short name, for the claim. -/
theorem subFollows_holds : Rows.SubFollowsCardSaid := subFollows.proved
end Go.Proofs.YtchpbnabbjdfgaaDoor
