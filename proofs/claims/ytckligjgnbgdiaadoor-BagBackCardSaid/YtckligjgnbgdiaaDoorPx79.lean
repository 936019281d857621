-- HALVED
-- Written by our own program (wip/xprint) over the seat's translation. Lean checks it.
import Derived.Test.YtckligjgnbgdiaaDoorPx0
import Derived.Test.YtckligjgnbgdiaaDoorPx1
import Derived.Test.YtckligjgnbgdiaaDoorPx19
import Derived.Test.YtckligjgnbgdiaaDoorPx52
import Derived.Test.YtckligjgnbgdiaaDoorPx65
import Derived.Test.YtckligjgnbgdiaaDoorPx71
import Derived.Test.YtckligjgnbgdiaaDoorPx77
namespace Go.Proofs.YtckligjgnbgdiaaDoor.P
open Go.RowKit Go.Proofs.YtckligjgnbgdiaaDoorW.PrintWords Go.Proofs.YtckligjgnbgdiaaDoorW.PrintLast Go.Proofs.YtckligjgnbgdiaaDoorW.PrintMore
attribute [local go_sem] max2_int min2_mn max_two min_two max_three min_three max_four min_four   -- for this text's walks alone
set_option linter.unusedVariables false
set_option linter.unusedSimpArgs false


/-! ### corollarylaw13_BagBack: function 8 -/
mutual
def corollarylaw13_BagBack.j0 : Nat → List (S27) → List (S27) → List (S27) → Bool → Option (Bool)
 | 0, _, _, _, _ => none
 | k + 1, x0, x1, x2, x27 => if x27 = true then ((corollarylaw13_awake.f k).bind fun t421 => (some t421)) else ((bag_Sum.f k (([x0, x1, x2] : List (List (S27))))).bind fun bt425 => ((bag_Sum.f k (([x2, x0, x1] : List (List (S27))))).bind fun bt432 => (if bt425.2 = bt432.2 then ((corollaryref13_Equal.f k bt425.1 bt432.1).bind fun t436 => (if t436 = true then ((bag_Right.f k bt425.1).bind fun t437 => (corollarylaw13_BagBack.j1 k x0 (!t437))) else (corollarylaw13_BagBack.j1 k x0 true))) else (corollarylaw13_BagBack.j1 k x0 true))))
def corollarylaw13_BagBack.j1 : Nat → List (S27) → Bool → Option (Bool)
 | 0, _, _ => none
 | k + 1, x0, x58 => if x58 = true then (some false) else ((bag_Neg.f k x0).bind fun bt438 => (if bt438.2 = 0 then ((bag_Sum.f k (([x0, bt438.1] : List (List (S27))))).bind fun bt445 => (if (bt445.1.length : Int) > 0 then (some false) else (if bt445.2 = 0 then ((corollarylaw13_awake.f k).bind fun t449 => (some t449)) else (some false)))) else ((corollarylaw13_awake.f k).bind fun t450 => (some t450))))
end
def corollarylaw13_BagBack.f (k : Nat) (l0 : List (S27)) (l1 : List (S27)) (l2 : List (S27)) : Option (Bool) := (corollaryref13_Small.f k l0).bind fun t418 => (if t418 = true then ((corollaryref13_Small.f k l1).bind fun t419 => (if t419 = true then ((corollaryref13_Small.f k l2).bind fun t420 => (corollarylaw13_BagBack.j0 k l0 l1 l2 (!t420))) else (corollarylaw13_BagBack.j0 k l0 l1 l2 true))) else (corollarylaw13_BagBack.j0 k l0 l1 l2 true))
theorem corollarylaw13_BagBack.mono_l : ∀ k, (∀ y0 y1 y2 y3, LeO (corollarylaw13_BagBack.j0 k y0 y1 y2 y3) (corollarylaw13_BagBack.j0 (k + 1) y0 y1 y2 y3)) ∧ (∀ y0 y1, LeO (corollarylaw13_BagBack.j1 k y0 y1) (corollarylaw13_BagBack.j1 (k + 1) y0 y1))
 | 0 => ⟨fun _ _ _ _ r h => by simp [corollarylaw13_BagBack.j0] at h, fun _ _ r h => by simp [corollarylaw13_BagBack.j1] at h⟩
 | k + 1 => by
  obtain ⟨ih0, ih1⟩ := corollarylaw13_BagBack.mono_l k
  refine ⟨?_, ?_⟩
  all_goals intros
  all_goals first
   | unfold corollarylaw13_BagBack.j0
   | unfold corollarylaw13_BagBack.j1
  all_goals repeat' first
   | (with_reducible exact ih0 _ _ _ _)
   | (with_reducible exact ih1 _ _)
   | (with_reducible exact bag_Neg.mono _ _)
   | (with_reducible exact bag_Right.mono _ _)
   | (with_reducible exact bag_Sum.mono _ _)
   | (with_reducible exact corollarylaw13_awake.mono _)
   | (with_reducible exact corollaryref13_Equal.mono _ _ _)
   | (with_reducible exact corollaryref13_Small.mono _ _)
   | (with_reducible exact LeO.refl _)
   | (with_reducible exact LeO.none _)
   | (with_reducible refine LeO.ite ?_ ?_)
   | (with_reducible refine LeO.bind ?_ (fun _ => ?_))
   | exact ih0 _ _ _ _
   | exact ih1 _ _
   | exact bag_Neg.mono _ _
   | exact bag_Right.mono _ _
   | exact bag_Sum.mono _ _
   | exact corollarylaw13_awake.mono _
   | exact corollaryref13_Equal.mono _ _ _
   | exact corollaryref13_Small.mono _ _
   | exact LeO.none _
   | refine LeO.ite ?_ ?_
   | refine LeO.bind ?_ (fun _ => ?_)
theorem corollarylaw13_BagBack.mono : ∀ a0 a1 a2 k, LeO (corollarylaw13_BagBack.f k a0 a1 a2) (corollarylaw13_BagBack.f (k + 1) a0 a1 a2) := by
 intro a0 a1 a2 k
 obtain ⟨ih0, ih1⟩ := corollarylaw13_BagBack.mono_l k
 unfold corollarylaw13_BagBack.f
 repeat' first
   | (with_reducible exact ih0 _ _ _ _)
   | (with_reducible exact ih1 _ _)
   | (with_reducible exact bag_Neg.mono _ _)
   | (with_reducible exact bag_Right.mono _ _)
   | (with_reducible exact bag_Sum.mono _ _)
   | (with_reducible exact corollarylaw13_awake.mono _)
   | (with_reducible exact corollaryref13_Equal.mono _ _ _)
   | (with_reducible exact corollaryref13_Small.mono _ _)
   | (with_reducible exact LeO.refl _)
   | (with_reducible exact LeO.none _)
   | (with_reducible refine LeO.ite ?_ ?_)
   | (with_reducible refine LeO.bind ?_ (fun _ => ?_))
   | exact ih0 _ _ _ _
   | exact ih1 _ _
   | exact bag_Neg.mono _ _
   | exact bag_Right.mono _ _
   | exact bag_Sum.mono _ _
   | exact corollarylaw13_awake.mono _
   | exact corollaryref13_Equal.mono _ _ _
   | exact corollaryref13_Small.mono _ _
   | exact LeO.none _
   | refine LeO.ite ?_ ?_
   | refine LeO.bind ?_ (fun _ => ?_)
set_option maxHeartbeats 8000000 in
set_option maxRecDepth 100000 in
theorem corollarylaw13_BagBack.calls (k : Nat) (P0_ : Nat → Prop) (A0 : Option Addr) (c0 : Nat) (l0 : List (S27)) (P1_ : Nat → Prop) (A1 : Option Addr) (c1 : Nat) (l1 : List (S27)) (P2_ : Nat → Prop) (A2 : Option Addr) (c2 : Nat) (l2 : List (S27)) (r : Bool) (w : World) (hs0 : Kd.V k27 27 w w.heap.size (fun k_ => P0_ k_) (.slice A0 l0.length c0) l0) (hs1 : Kd.V k27 27 w w.heap.size (fun k_ => P1_ k_) (.slice A1 l1.length c1) l1) (hs2 : Kd.V k27 27 w w.heap.size (fun k_ => P2_ k_) (.slice A2 l2.length c2) l2) (h : corollarylaw13_BagBack.f k l0 l1 l2 = some r) (hG : Glob w) :
  Calls Tryd.prog 8 #[.slice A0 l0.length c0, .slice A1 l1.length c1, .slice A2 l2.length c2] w fun e w' => e = .returned (.bool r) ∧ Below w.heap.size w w' := by
 have HG := Aside0.mk hG
 clear hG
 have HO0 := Aside0.mk (show Kd.V k27 27 w w.heap.size (fun k_ => ((P0_ k_ ∨ P1_ k_ ∨ P2_ k_) ∨ w.heap.size ≤ k_)) (.slice A0 l0.length c0) l0 from Kd.V_mono hs0 (fun k_ hk => .inl (.inl hk)))
 have HO1 := Aside0.mk (show Kd.V k27 27 w w.heap.size (fun k_ => ((P0_ k_ ∨ P1_ k_ ∨ P2_ k_) ∨ w.heap.size ≤ k_)) (.slice A1 l1.length c1) l1 from Kd.V_mono hs1 (fun k_ hk => .inl (.inr (.inl hk))))
 have HO2 := Aside0.mk (show Kd.V k27 27 w w.heap.size (fun k_ => ((P0_ k_ ∨ P1_ k_ ∨ P2_ k_) ∨ w.heap.size ≤ k_)) (.slice A2 l2.length c2) l2 from Kd.V_mono hs2 (fun k_ hk => .inl (.inr (.inr hk))))
 have HB := Aside0.mk (Below.refl w.heap.size w)
 have H : ((corollaryref13_Small.f k l0).bind fun t418 => (if t418 = true then ((corollaryref13_Small.f k l1).bind fun t419 => (if t419 = true then ((corollaryref13_Small.f k l2).bind fun t420 => (corollarylaw13_BagBack.j0 k l0 l1 l2 (!t420))) else (corollarylaw13_BagBack.j0 k l0 l1 l2 true))) else (corollarylaw13_BagBack.j0 k l0 l1 l2 true))) = some r := h
 clear h
 have HC4 := Aside0.mk H
 clear H
 go_enter Tryd.func8, Tryd.ntmps8
 go_upto_region 1 with (fail)
 go_cut [27] (fun v27 wc => ∃ (kq : Nat) (x27_3 : Bool), v27 = .bool x27_3 ∧ Aside0 (corollarylaw13_BagBack.j0 kq l0 l1 l2 x27_3 = some r) ∧ Aside0 (kq ≤ k) ∧ Aside0 (Kd.V k27 27 wc w.heap.size (fun k_ => ((P0_ k_ ∨ P1_ k_ ∨ P2_ k_) ∨ w.heap.size ≤ k_)) (.slice A0 l0.length c0) l0) ∧ Aside0 (Kd.V k27 27 wc w.heap.size (fun k_ => ((P0_ k_ ∨ P1_ k_ ∨ P2_ k_) ∨ w.heap.size ≤ k_)) (.slice A1 l1.length c1) l1) ∧ Aside0 (Kd.V k27 27 wc w.heap.size (fun k_ => ((P0_ k_ ∨ P1_ k_ ∨ P2_ k_) ∨ w.heap.size ≤ k_)) (.slice A2 l2.length c2) l2) ∧ Aside0 (Below w.heap.size w wc))
 case first =>
  have H := HC4.out
  clear HC4
  replace H := Option.bind_eq_some_iff.mp H
  obtain ⟨t418, A50, H⟩ := H
  replace H : (if t418 = true then ((corollaryref13_Small.f k l1).bind fun t419 => (if t419 = true then ((corollaryref13_Small.f k l2).bind fun t420 => (corollarylaw13_BagBack.j0 k l0 l1 l2 (!t420))) else (corollarylaw13_BagBack.j0 k l0 l1 l2 true))) else (corollarylaw13_BagBack.j0 k l0 l1 l2 true)) = some r := H
  have A5 := Aside0.mk A50
  clear A50
  by_cases c6 : t418 = true
  ·subst c6
   replace H := ifT_ H
   replace H := Option.bind_eq_some_iff.mp H
   obtain ⟨t419, A70, H⟩ := H
   replace H : (if t419 = true then ((corollaryref13_Small.f k l2).bind fun t420 => (corollarylaw13_BagBack.j0 k l0 l1 l2 (!t420))) else (corollarylaw13_BagBack.j0 k l0 l1 l2 true)) = some r := H
   have A7 := Aside0.mk A70
   clear A70
   by_cases c8 : t419 = true
   ·subst c8
    replace H := ifT_ H
    replace H := Option.bind_eq_some_iff.mp H
    obtain ⟨t420, A90, H⟩ := H
    replace H : (corollarylaw13_BagBack.j0 k l0 l1 l2 (!t420)) = some r := H
    have A9 := Aside0.mk A90
    clear A90
    have H' := Aside0.mk H
    clear H
    go_wp2_with (first | ((with_reducible refine gate_callee (f := 9) rfl ?_); refine goesL_ (some 16) rfl rfl Tryd.func9 (by kernel_rfl) rfl #[.slice A0 l0.length c0] rfl q2_ ?_; (with_reducible refine (corollaryref13_Small.calls k _ _ l0 true _ ?side1 ?side2 A5.out).mono ?_); (case side1 => repeat (first | exact (Kd.V_reads' HO0.out).2.2 | (with_reducible refine Kd.C_alloc ?_ _) | (with_reducible refine Kd.C_drewN ?_ _) | (with_reducible refine Kd.C_drew ?_))); (case side2 => exact (Kd.V_reads' HO0.out).2.1); rintro e w' ⟨rfl, ⟨nd, rfl⟩⟩; refine ⟨_, rfl, ?_⟩) | (go_at_call 9; (with_reducible refine (corollaryref13_Small.calls k _ _ l1 true _ ?side1 ?side2 A7.out).mono ?_); (case side1 => repeat (first | exact (Kd.V_reads' HO1.out).2.2 | (with_reducible refine Kd.C_alloc ?_ _) | (with_reducible refine Kd.C_drewN ?_ _) | (with_reducible refine Kd.C_drew ?_))); (case side2 => exact (Kd.V_reads' HO1.out).2.1); rintro e w' ⟨rfl, ⟨nd, rfl⟩⟩) | (go_at_call 9; (with_reducible refine (corollaryref13_Small.calls k _ _ l2 t420 _ ?side1 ?side2 A9.out).mono ?_); (case side1 => repeat (first | exact (Kd.V_reads' HO2.out).2.2 | (with_reducible refine Kd.C_alloc ?_ _) | (with_reducible refine Kd.C_drewN ?_ _) | (with_reducible refine Kd.C_drew ?_))); (case side2 => exact (Kd.V_reads' HO2.out).2.1); rintro e w' ⟨rfl, ⟨nd, rfl⟩⟩))
    go_meet
    case rel => exact ⟨_, (!t420), q9_, H', ⟨by first | omega | exact Nat.le_refl _⟩, ⟨q24_⟩, ⟨q35_⟩, ⟨by (with_reducible repeat (first | apply Kd.V_alloc | apply Kd.V_drewN | apply Kd.V_drew)); exact HO2.out⟩, ⟨q0_⟩⟩
   ·replace c8 := Bool.eq_false_iff.mpr c8
    subst c8
    replace H := ifF_ H
    have H' := Aside0.mk H
    clear H
    go_wp2_with (first | ((with_reducible refine gate_callee (f := 9) rfl ?_); refine goesL_ (some 16) rfl rfl Tryd.func9 (by kernel_rfl) rfl #[.slice A0 l0.length c0] rfl q2_ ?_; (with_reducible refine (corollaryref13_Small.calls k _ _ l0 true _ ?side1 ?side2 A5.out).mono ?_); (case side1 => repeat (first | exact (Kd.V_reads' HO0.out).2.2 | (with_reducible refine Kd.C_alloc ?_ _) | (with_reducible refine Kd.C_drewN ?_ _) | (with_reducible refine Kd.C_drew ?_))); (case side2 => exact (Kd.V_reads' HO0.out).2.1); rintro e w' ⟨rfl, ⟨nd, rfl⟩⟩; refine ⟨_, rfl, ?_⟩) | (go_at_call 9; (with_reducible refine (corollaryref13_Small.calls k _ _ l1 false _ ?side1 ?side2 A7.out).mono ?_); (case side1 => repeat (first | exact (Kd.V_reads' HO1.out).2.2 | (with_reducible refine Kd.C_alloc ?_ _) | (with_reducible refine Kd.C_drewN ?_ _) | (with_reducible refine Kd.C_drew ?_))); (case side2 => exact (Kd.V_reads' HO1.out).2.1); rintro e w' ⟨rfl, ⟨nd, rfl⟩⟩))
    go_meet
    case rel => exact ⟨_, (true), q9_, H', ⟨by first | omega | exact Nat.le_refl _⟩, ⟨q24_⟩, ⟨q35_⟩, ⟨by (with_reducible repeat (first | apply Kd.V_alloc | apply Kd.V_drewN | apply Kd.V_drew)); exact HO2.out⟩, ⟨q0_⟩⟩
  ·replace c6 := Bool.eq_false_iff.mpr c6
   subst c6
   replace H := ifF_ H
   have H' := Aside0.mk H
   clear H
   go_wp2_with (first | ((with_reducible refine gate_callee (f := 9) rfl ?_); refine goesL_ (some 16) rfl rfl Tryd.func9 (by kernel_rfl) rfl #[.slice A0 l0.length c0] rfl q2_ ?_; (with_reducible refine (corollaryref13_Small.calls k _ _ l0 false _ ?side1 ?side2 A5.out).mono ?_); (case side1 => repeat (first | exact (Kd.V_reads' HO0.out).2.2 | (with_reducible refine Kd.C_alloc ?_ _) | (with_reducible refine Kd.C_drewN ?_ _) | (with_reducible refine Kd.C_drew ?_))); (case side2 => exact (Kd.V_reads' HO0.out).2.1); rintro e w' ⟨rfl, ⟨nd, rfl⟩⟩; refine ⟨_, rfl, ?_⟩))
   go_meet
   case rel => exact ⟨_, (true), q9_, H', ⟨by first | omega | exact Nat.le_refl _⟩, ⟨q24_⟩, ⟨q35_⟩, ⟨by (with_reducible repeat (first | apply Kd.V_alloc | apply Kd.V_drewN | apply Kd.V_drew)); exact HO2.out⟩, ⟨q0_⟩⟩
 case rest =>
  clear HC4
  try clear c1
  try clear c2
  try clear p2
  try clear c6
  try clear c8
  try clear c9
  obtain ⟨kq, x27_3, rfl, HA, HJ3, HO_0, HO_1, HO_2, HB⟩ := hcut
  cases kq with
  | zero => exact absurd HA.out (by simp [corollarylaw13_BagBack.j0])
  | succ kj3 =>
   have H := HA.out
   clear HA
   simp only [corollarylaw13_BagBack.j0] at H
   by_cases c10 : x27_3 = true
   ·subst c10
    replace H := ifT_ H
    replace H := Option.bind_eq_some_iff.mp H
    obtain ⟨t421, A110, H⟩ := H
    replace H : (some t421) = some r := H
    have A11 := Aside0.mk A110
    clear A110
    obtain rfl := Option.some.inj H
    go_wp2_with (first | ((with_reducible refine gate_callee (f := 10) rfl ?_); refine goesL_ (some 28) rfl rfl Tryd.func10 (by kernel_rfl) rfl #[] rfl q2_ ?_; (with_reducible refine (corollarylaw13_awake.calls kj3  t421 _ A11.out q1_).mono ?_); rintro e w12 ⟨rfl, hb⟩; refine ⟨_, rfl, ?_⟩; have n0_ := Aside0.mk (Kd.V_below q6_ hb); have n1_ := Aside0.mk (Kd.V_below q8_ hb); have n2_ := Aside0.mk (Kd.V_below q45_ hb); have n3_ := Aside0.mk (below_step q0_ hb); clear HO_0; clear HO_1; clear HO_2; clear HB; have HO_0 := n0_; have HO_1 := n1_; have HO_2 := n2_; have HB := n3_; clear n0_ n1_ n2_ n3_; (try clear hb); (try clear hb2); (try clear hk); (try clear hi)))
    go_ret
    exact ⟨q4_, q0_⟩
   ·replace c10 := Bool.eq_false_iff.mpr c10
    subst c10
    replace H := ifF_ H
    obtain ⟨y422, hy422⟩ : ∃ y_ : List (List (S27)), y_ = (([l0, l1, l2] : List (List (S27)))) := ⟨_, rfl⟩
    replace H : ((bag_Sum.f kj3 y422).bind fun bt425 => ((bag_Sum.f kj3 (([l2, l0, l1] : List (List (S27))))).bind fun bt432 => (if bt425.2 = bt432.2 then ((corollaryref13_Equal.f kj3 bt425.1 bt432.1).bind fun t436 => (if t436 = true then ((bag_Right.f kj3 bt425.1).bind fun t437 => (corollarylaw13_BagBack.j1 kj3 l0 (!t437))) else (corollarylaw13_BagBack.j1 kj3 l0 true))) else (corollarylaw13_BagBack.j1 kj3 l0 true)))) = some r := by first | (rw [hy422]; with_reducible exact H) | (have H2_ := (Option.bind_some _ _).symm.trans H; rw [hy422]; with_reducible exact H2_) | (have H2_ := (Option.bind_some _ _).symm.trans H; with_reducible exact H2_) | with_reducible exact H | (rw [hy422]; exact H) | exact H
    have Ny422 := Aside0.mk hy422
    clear hy422
    replace H := Option.bind_eq_some_iff.mp H
    obtain ⟨⟨t425, t428⟩, A130, H⟩ := H
    replace H : ((bag_Sum.f kj3 (([l2, l0, l1] : List (List (S27))))).bind fun bt432 => (if t428 = bt432.2 then ((corollaryref13_Equal.f kj3 t425 bt432.1).bind fun t436 => (if t436 = true then ((bag_Right.f kj3 t425).bind fun t437 => (corollarylaw13_BagBack.j1 kj3 l0 (!t437))) else (corollarylaw13_BagBack.j1 kj3 l0 true))) else (corollarylaw13_BagBack.j1 kj3 l0 true))) = some r := H
    have A13 := Aside0.mk A130
    clear A130
    obtain ⟨y429, hy429⟩ : ∃ y_ : List (List (S27)), y_ = (([l2, l0, l1] : List (List (S27)))) := ⟨_, rfl⟩
    replace H : ((bag_Sum.f kj3 y429).bind fun bt432 => (if t428 = bt432.2 then ((corollaryref13_Equal.f kj3 t425 bt432.1).bind fun t436 => (if t436 = true then ((bag_Right.f kj3 t425).bind fun t437 => (corollarylaw13_BagBack.j1 kj3 l0 (!t437))) else (corollarylaw13_BagBack.j1 kj3 l0 true))) else (corollarylaw13_BagBack.j1 kj3 l0 true))) = some r := by first | (rw [hy429]; with_reducible exact H) | (have H2_ := (Option.bind_some _ _).symm.trans H; rw [hy429]; with_reducible exact H2_) | (have H2_ := (Option.bind_some _ _).symm.trans H; with_reducible exact H2_) | with_reducible exact H | (rw [hy429]; exact H) | exact H
    have Ny429 := Aside0.mk hy429
    clear hy429
    replace H := Option.bind_eq_some_iff.mp H
    obtain ⟨⟨t432, t435⟩, A140, H⟩ := H
    replace H : (if t428 = t435 then ((corollaryref13_Equal.f kj3 t425 t432).bind fun t436 => (if t436 = true then ((bag_Right.f kj3 t425).bind fun t437 => (corollarylaw13_BagBack.j1 kj3 l0 (!t437))) else (corollarylaw13_BagBack.j1 kj3 l0 true))) else (corollarylaw13_BagBack.j1 kj3 l0 true)) = some r := H
    have A14 := Aside0.mk A140
    clear A140
    have HC15 := Aside0.mk H
    clear H
    go_upto_region 5 with (first | ((with_reducible refine gate_dst (N := 33) rfl ?_); refine Kd.N_lit (Kd.slice 27 k27) _ 22 ?hg (N' := 33) ?hd (xs := ([l0, l1, l2] : List (List (S27)))) (inner := [.slice A0 l0.length c0, .slice A1 l1.length c1, .slice A2 l2.length c2]) (ok := (fun k_ => ((P0_ k_ ∨ P1_ k_ ∨ P2_ k_) ∨ w.heap.size ≤ k_))) (okp := (fun k_ => ((P0_ k_ ∨ P1_ k_ ∨ P2_ k_) ∨ w.heap.size ≤ k_))) ?hr ?hp (fun _ hk => hk) ((show ∀ k_, wc.heap.size ≤ k_ → (fun k_ => ((P0_ k_ ∨ P1_ k_ ∨ P2_ k_) ∨ w.heap.size ≤ k_)) k_ from fun k_ hk => (.inr (Nat.le_trans (below_size q0_) hk))) _ (Nat.le_refl _)) (Below.refl _ _) (Nat.le_refl _) (by simp) ?_; (case hd => rfl); (case hg => rfl); (case hr => first | (go_simp; done) | (go_simp; rfl)); (case hp => exact (Reps.one (show Kd.FK (Kd.slice 27 k27) _ _ l0 [.slice A0 l0.length c0] from (Kd.FK_slice_mk (Kd.V_reads' (Kd.V_mono (ok' := (fun k_ => ((P0_ k_ ∨ P1_ k_ ∨ P2_ k_) ∨ w.heap.size ≤ k_))) (HO_0.out) (fun k_ hk => hk))).2.1 (Kd.V_F (Kd.V_mono (ok' := (fun k_ => ((P0_ k_ ∨ P1_ k_ ∨ P2_ k_) ∨ w.heap.size ≤ k_))) (HO_0.out) (fun k_ hk => hk))))) (Reps.one (show Kd.FK (Kd.slice 27 k27) _ _ l1 [.slice A1 l1.length c1] from (Kd.FK_slice_mk (Kd.V_reads' (Kd.V_mono (ok' := (fun k_ => ((P0_ k_ ∨ P1_ k_ ∨ P2_ k_) ∨ w.heap.size ≤ k_))) (HO_1.out) (fun k_ hk => hk))).2.1 (Kd.V_F (Kd.V_mono (ok' := (fun k_ => ((P0_ k_ ∨ P1_ k_ ∨ P2_ k_) ∨ w.heap.size ≤ k_))) (HO_1.out) (fun k_ hk => hk))))) (Reps.one (show Kd.FK (Kd.slice 27 k27) _ _ l2 [.slice A2 l2.length c2] from (Kd.FK_slice_mk (Kd.V_reads' (Kd.V_mono (ok' := (fun k_ => ((P0_ k_ ∨ P1_ k_ ∨ P2_ k_) ∨ w.heap.size ≤ k_))) (HO_2.out) (fun k_ hk => hk))).2.1 (Kd.V_F (Kd.V_mono (ok' := (fun k_ => ((P0_ k_ ∨ P1_ k_ ∨ P2_ k_) ∨ w.heap.size ≤ k_))) (HO_2.out) (fun k_ hk => hk))))) (Reps.none _ _))))); intro v423 w16 ho17 hb hg_ hnew_; clear hg_ hnew_; (first | rw [← Ny422.out] at ho17 | (simp only [Int.reduceToNat] at ho17; rw [← Ny422.out] at ho17)); have n0_ := Aside0.mk (Kd.V_elder' q6_ (Kd.N_base ho17) hb); have n1_ := Aside0.mk (Kd.V_elder' q8_ (Kd.N_base ho17) hb); have n2_ := Aside0.mk (Kd.V_elder' q45_ (Kd.N_base ho17) hb); have n3_ := Aside0.mk (Kd.N_lower ho17 (below_size q0_)); have n4_ := Aside0.mk (below_step q0_ hb); clear HO_0; clear HO_1; clear HO_2; clear HB; have HO_0 := n0_; have HO_1 := n1_; have HO_2 := n2_; have HO424 := n3_; have HB := n4_; clear n0_ n1_ n2_ n3_ n4_; clear hb ho17; obtain ⟨Ao18, co18, eo18⟩ := Kd.N_slice HO424.out; subst eo18) | ((with_reducible refine gate_callee (f := 22) rfl ?_); refine goesL_ (some 34) rfl rfl Tryd.func22 (by kernel_rfl) rfl #[.slice Ao18 y422.length co18] rfl q2_ ?_; (with_reducible refine (bag_Sum.calls kj3 (fun k_ => ((P0_ k_ ∨ P1_ k_ ∨ P2_ k_) ∨ w.heap.size ≤ k_)) _ _ y422 t425 t428 _ ?side1 A13.out q1_).mono ?_); (case side1 => exact Kd.N_V (HO424.out)); rintro e w19 ⟨v426, rfl, ho0, hb⟩; refine ⟨_, rfl, ?_⟩; have n0_ := Aside0.mk (Kd.V_elder' q6_ (Kd.N_base ho0) hb); have n1_ := Aside0.mk (Kd.V_elder' q8_ (Kd.N_base ho0) hb); have n2_ := Aside0.mk (Kd.V_elder' q45_ (Kd.N_base ho0) hb); have n3_ := Aside0.mk (Kd.N_elder' q44_ (Kd.N_base ho0) hb); have n4_ := Aside0.mk (Kd.N_lower (Kd.N_mono (ok' := fun k_ => ((P0_ k_ ∨ P1_ k_ ∨ P2_ k_) ∨ w.heap.size ≤ k_)) ho0 (fun k_ hk_ => Or.elim hk_ (fun hs_ => hs_) (fun hn_ => (.inr (Nat.le_trans (below_size q0_) hn_))))) (below_size q0_)); have n5_ := Aside0.mk (below_step q0_ hb); clear HO_0; clear HO_1; clear HO_2; clear HO424; clear HB; have HO_0 := n0_; have HO_1 := n1_; have HO_2 := n2_; have HO424 := n3_; have HO427 := n4_; have HB := n5_; clear n0_ n1_ n2_ n3_ n4_ n5_; (try clear hb); (try clear hb2); (try clear hk); (try clear hi); (try clear ho0)) | ((with_reducible refine gate_dst (N := 41) rfl ?_); refine Kd.N_lit (Kd.slice 27 k27) _ 22 ?hg (N' := 41) ?hd (xs := ([l2, l0, l1] : List (List (S27)))) (inner := [.slice A2 l2.length c2, .slice A0 l0.length c0, .slice A1 l1.length c1]) (ok := (fun k_ => ((P0_ k_ ∨ P1_ k_ ∨ P2_ k_) ∨ w.heap.size ≤ k_) ∧ some k_ ≠ (.slice Ao18 y422.length co18 : Value).ownBlock ∧ some k_ ≠ (v426 : Value).ownBlock)) (okp := (fun k_ => ((P0_ k_ ∨ P1_ k_ ∨ P2_ k_) ∨ w.heap.size ≤ k_) ∧ some k_ ≠ (.slice Ao18 y422.length co18 : Value).ownBlock ∧ some k_ ≠ (v426 : Value).ownBlock)) ?hr ?hp (fun _ hk => hk) ((show ∀ k_, w19.heap.size ≤ k_ → (fun k_ => ((P0_ k_ ∨ P1_ k_ ∨ P2_ k_) ∨ w.heap.size ≤ k_) ∧ some k_ ≠ (.slice Ao18 y422.length co18 : Value).ownBlock ∧ some k_ ≠ (v426 : Value).ownBlock) k_ from fun k_ hk => ⟨(.inr (Nat.le_trans (below_size q0_) hk)), Kd.fresh' (Kd.N_lt q44_) k_ hk, Kd.fresh' (Kd.N_lt q48_) k_ hk⟩) _ (Nat.le_refl _)) (Below.refl _ _) (Nat.le_refl _) (by simp) ?_; (case hd => rfl); (case hg => rfl); (case hr => first | (go_simp; done) | (go_simp; rfl)); (case hp => exact (Reps.one (show Kd.FK (Kd.slice 27 k27) _ _ l2 [.slice A2 l2.length c2] from (Kd.FK_slice_mk (Kd.V_reads' (Kd.V_mono (ok' := (fun k_ => ((P0_ k_ ∨ P1_ k_ ∨ P2_ k_) ∨ w.heap.size ≤ k_) ∧ some k_ ≠ (.slice Ao18 y422.length co18 : Value).ownBlock ∧ some k_ ≠ (v426 : Value).ownBlock)) (HO_2.out) (fun k_ hk => ⟨hk.1.1, ⟨hk.1.2, hk.2⟩⟩))).2.1 (Kd.V_F (Kd.V_mono (ok' := (fun k_ => ((P0_ k_ ∨ P1_ k_ ∨ P2_ k_) ∨ w.heap.size ≤ k_) ∧ some k_ ≠ (.slice Ao18 y422.length co18 : Value).ownBlock ∧ some k_ ≠ (v426 : Value).ownBlock)) (HO_2.out) (fun k_ hk => ⟨hk.1.1, ⟨hk.1.2, hk.2⟩⟩))))) (Reps.one (show Kd.FK (Kd.slice 27 k27) _ _ l0 [.slice A0 l0.length c0] from (Kd.FK_slice_mk (Kd.V_reads' (Kd.V_mono (ok' := (fun k_ => ((P0_ k_ ∨ P1_ k_ ∨ P2_ k_) ∨ w.heap.size ≤ k_) ∧ some k_ ≠ (.slice Ao18 y422.length co18 : Value).ownBlock ∧ some k_ ≠ (v426 : Value).ownBlock)) (HO_0.out) (fun k_ hk => ⟨hk.1.1, ⟨hk.1.2, hk.2⟩⟩))).2.1 (Kd.V_F (Kd.V_mono (ok' := (fun k_ => ((P0_ k_ ∨ P1_ k_ ∨ P2_ k_) ∨ w.heap.size ≤ k_) ∧ some k_ ≠ (.slice Ao18 y422.length co18 : Value).ownBlock ∧ some k_ ≠ (v426 : Value).ownBlock)) (HO_0.out) (fun k_ hk => ⟨hk.1.1, ⟨hk.1.2, hk.2⟩⟩))))) (Reps.one (show Kd.FK (Kd.slice 27 k27) _ _ l1 [.slice A1 l1.length c1] from (Kd.FK_slice_mk (Kd.V_reads' (Kd.V_mono (ok' := (fun k_ => ((P0_ k_ ∨ P1_ k_ ∨ P2_ k_) ∨ w.heap.size ≤ k_) ∧ some k_ ≠ (.slice Ao18 y422.length co18 : Value).ownBlock ∧ some k_ ≠ (v426 : Value).ownBlock)) (HO_1.out) (fun k_ hk => ⟨hk.1.1, ⟨hk.1.2, hk.2⟩⟩))).2.1 (Kd.V_F (Kd.V_mono (ok' := (fun k_ => ((P0_ k_ ∨ P1_ k_ ∨ P2_ k_) ∨ w.heap.size ≤ k_) ∧ some k_ ≠ (.slice Ao18 y422.length co18 : Value).ownBlock ∧ some k_ ≠ (v426 : Value).ownBlock)) (HO_1.out) (fun k_ hk => ⟨hk.1.1, ⟨hk.1.2, hk.2⟩⟩))))) (Reps.none _ _))))); intro v430 w20 ho21 hb hg_ hnew_; clear hg_ hnew_; (first | rw [← Ny429.out] at ho21 | (simp only [Int.reduceToNat] at ho21; rw [← Ny429.out] at ho21)); have n0_ := Aside0.mk (Kd.V_elder' q6_ (Kd.N_base ho21) hb); have n1_ := Aside0.mk (Kd.V_elder' q8_ (Kd.N_base ho21) hb); have n2_ := Aside0.mk (Kd.V_elder' q45_ (Kd.N_base ho21) hb); have n3_ := Aside0.mk (Kd.N_elder' q44_ (Kd.N_base ho21) hb); have n4_ := Aside0.mk (Kd.N_elder' q48_ (Kd.N_base ho21) hb); have n5_ := Aside0.mk (Kd.N_lower ho21 (below_size q0_)); have n6_ := Aside0.mk (below_step q0_ hb); clear HO_0; clear HO_1; clear HO_2; clear HO424; clear HO427; clear HB; have HO_0 := n0_; have HO_1 := n1_; have HO_2 := n2_; have HO424 := n3_; have HO427 := n4_; have HO431 := n5_; have HB := n6_; clear n0_ n1_ n2_ n3_ n4_ n5_ n6_; clear hb ho21; obtain ⟨Ao22, co22, eo22⟩ := Kd.N_slice HO431.out; subst eo22) | ((with_reducible refine gate_callee (f := 22) rfl ?_); refine goesL_ (some 42) rfl rfl Tryd.func22 (by kernel_rfl) rfl #[.slice Ao22 y429.length co22] rfl q2_ ?_; (with_reducible refine (bag_Sum.calls kj3 (fun k_ => (((P0_ k_ ∨ P1_ k_ ∨ P2_ k_) ∨ w.heap.size ≤ k_) ∧ (some k_ ≠ (.slice Ao18 y422.length co18 : Value).ownBlock ∧ some k_ ≠ (v426 : Value).ownBlock))) _ _ y429 t432 t435 _ ?side1 A14.out q1_).mono ?_); (case side1 => exact Kd.N_V (HO431.out)); rintro e w23 ⟨v433, rfl, ho0, hb⟩; refine ⟨_, rfl, ?_⟩; have n0_ := Aside0.mk (Kd.V_elder' q6_ (Kd.N_base ho0) hb); have n1_ := Aside0.mk (Kd.V_elder' q8_ (Kd.N_base ho0) hb); have n2_ := Aside0.mk (Kd.V_elder' q45_ (Kd.N_base ho0) hb); have n3_ := Aside0.mk (Kd.N_elder' q44_ (Kd.N_base ho0) hb); have n4_ := Aside0.mk (Kd.N_elder' q48_ (Kd.N_base ho0) hb); have n5_ := Aside0.mk (Kd.N_elder' (by (with_reducible repeat (first | apply Kd.N_alloc | apply Kd.N_drewN | apply Kd.N_drew)); exact HO431.out) (Kd.N_base ho0) hb); have n6_ := Aside0.mk (Kd.N_lower (Kd.N_mono (ok' := fun k_ => ((P0_ k_ ∨ P1_ k_ ∨ P2_ k_) ∨ w.heap.size ≤ k_) ∧ some k_ ≠ (.slice Ao18 y422.length co18 : Value).ownBlock ∧ some k_ ≠ (v426 : Value).ownBlock) ho0 (fun k_ hk_ => ⟨Or.elim hk_ (fun hs_ => hs_.1) (fun hn_ => (.inr (Nat.le_trans (below_size q0_) hn_))), Or.elim hk_ (fun hs_ => hs_.2.1) (fun hn_ => (Kd.fresh' (Kd.N_lt q44_) k_ hn_)), Or.elim hk_ (fun hs_ => hs_.2.2) (fun hn_ => (Kd.fresh' (Kd.N_lt q48_) k_ hn_))⟩)) (below_size q0_)); have n7_ := Aside0.mk (below_step q0_ hb); clear HO_0; clear HO_1; clear HO_2; clear HO424; clear HO427; clear HO431; clear HB; have HO_0 := n0_; have HO_1 := n1_; have HO_2 := n2_; have HO424 := n3_; have HO427 := n4_; have HO431 := n5_; have HO434 := n6_; have HB := n7_; clear n0_ n1_ n2_ n3_ n4_ n5_ n6_ n7_; (try clear hb); (try clear hb2); (try clear hk); (try clear hi); (try clear ho0)))
    (try simp only [Act.put, List.setIfInBounds_toArray, List.set_cons_zero, List.set_cons_succ])
    go_cut [58] (fun v58 wc => ∃ (kq : Nat) (x58_14 : Bool), v58 = .bool x58_14 ∧ Aside0 (corollarylaw13_BagBack.j1 kq l0 x58_14 = some r) ∧ Aside0 (kq ≤ kj3) ∧ Aside0 (Kd.V k27 27 wc w.heap.size (fun k_ => ((P0_ k_ ∨ P1_ k_ ∨ P2_ k_) ∨ w.heap.size ≤ k_)) (.slice A0 l0.length c0) l0) ∧ Aside0 (Below w.heap.size w wc))
    case first =>
     have H := HC15.out
     clear HC15
     by_cases c24 : t428 = t435
     ·rw [if_pos c24] at H
      have c24b0 : (t428 == t435) = true := beq_iff_eq.mpr c24
      have c24b1 : (t428 != t435) = false := bne_eq_false_iff_eq.mpr c24
      clear c24
      (first | rw [c24b0] | (simp only [i64_w, i32_w]; rw [c24b0]) | skip)
      replace H := Option.bind_eq_some_iff.mp H
      obtain ⟨t436, A250, H⟩ := H
      replace H : (if t436 = true then ((bag_Right.f kj3 t425).bind fun t437 => (corollarylaw13_BagBack.j1 kj3 l0 (!t437))) else (corollarylaw13_BagBack.j1 kj3 l0 true)) = some r := H
      have A25 := Aside0.mk A250
      clear A250
      by_cases c26 : t436 = true
      ·subst c26
       replace H := ifT_ H
       replace H := Option.bind_eq_some_iff.mp H
       obtain ⟨t437, A270, H⟩ := H
       replace H : (corollarylaw13_BagBack.j1 kj3 l0 (!t437)) = some r := H
       have A27 := Aside0.mk A270
       clear A270
       have H' := Aside0.mk H
       clear H
       obtain ⟨Ao28, co28, eo28⟩ := Kd.N_slice HO427.out
       subst eo28
       obtain ⟨Ao29, co29, eo29⟩ := Kd.N_slice HO434.out
       subst eo29
       go_wp2_with (first | (go_at_call 21; (with_reducible refine (corollaryref13_Equal.calls kj3 _ _ t425 _ _ t432 true _ ?side1 ?side2 ?side3 ?side4 A25.out).mono ?_); (case side1 => repeat (first | exact (Kd.N_reads' HO427.out).2.2 | (with_reducible refine Kd.C_alloc ?_ _) | (with_reducible refine Kd.C_drewN ?_ _) | (with_reducible refine Kd.C_drew ?_))); (case side2 => exact (Kd.N_reads' HO427.out).2.1); (case side3 => repeat (first | exact (Kd.N_reads' HO434.out).2.2 | (with_reducible refine Kd.C_alloc ?_ _) | (with_reducible refine Kd.C_drewN ?_ _) | (with_reducible refine Kd.C_drew ?_))); (case side4 => exact (Kd.N_reads' HO434.out).2.1); rintro e w' ⟨rfl, ⟨nd, rfl⟩⟩) | (go_at_call 12; (with_reducible refine (bag_Right.calls kj3 _ _ t425 t437 _ ?side1 ?side2 A27.out q1_).mono ?_); (case side1 => repeat (first | exact (Kd.N_reads' HO427.out).2.2 | (with_reducible refine Kd.C_alloc ?_ _) | (with_reducible refine Kd.C_drewN ?_ _) | (with_reducible refine Kd.C_drew ?_))); (case side2 => exact (Kd.N_reads' HO427.out).2.1); rintro e w30 ⟨rfl, hb⟩; have n0_ := Aside0.mk (Kd.V_below q6_ hb); have n1_ := Aside0.mk (Kd.V_below q8_ hb); have n2_ := Aside0.mk (Kd.V_below q45_ hb); have n3_ := Aside0.mk (Kd.N_below q44_ hb); have n4_ := Aside0.mk (Kd.N_below q48_ hb); have n5_ := Aside0.mk (Kd.N_below (by (with_reducible repeat (first | apply Kd.N_alloc | apply Kd.N_drewN | apply Kd.N_drew)); exact HO431.out) hb); have n6_ := Aside0.mk (Kd.N_below (by (with_reducible repeat (first | apply Kd.N_alloc | apply Kd.N_drewN | apply Kd.N_drew)); exact HO434.out) hb); have n7_ := Aside0.mk (below_step q0_ hb); clear HO_0; clear HO_1; clear HO_2; clear HO424; clear HO427; clear HO431; clear HO434; clear HB; have HO_0 := n0_; have HO_1 := n1_; have HO_2 := n2_; have HO424 := n3_; have HO427 := n4_; have HO431 := n5_; have HO434 := n6_; have HB := n7_; clear n0_ n1_ n2_ n3_ n4_ n5_ n6_ n7_; (try clear hb); (try clear hb2); (try clear hk); (try clear hi)))
       go_meet
       case rel => exact ⟨_, (!t437), q9_, H', ⟨by have := HJ3.out; first | omega | exact Nat.le_refl _⟩, ⟨q62_⟩, ⟨q0_⟩⟩
      ·replace c26 := Bool.eq_false_iff.mpr c26
       subst c26
       replace H := ifF_ H
       have H' := Aside0.mk H
       clear H
       obtain ⟨Ao31, co31, eo31⟩ := Kd.N_slice HO427.out
       subst eo31
       obtain ⟨Ao32, co32, eo32⟩ := Kd.N_slice HO434.out
       subst eo32
       go_wp2_with (first | (go_at_call 21; (with_reducible refine (corollaryref13_Equal.calls kj3 _ _ t425 _ _ t432 false _ ?side1 ?side2 ?side3 ?side4 A25.out).mono ?_); (case side1 => repeat (first | exact (Kd.N_reads' HO427.out).2.2 | (with_reducible refine Kd.C_alloc ?_ _) | (with_reducible refine Kd.C_drewN ?_ _) | (with_reducible refine Kd.C_drew ?_))); (case side2 => exact (Kd.N_reads' HO427.out).2.1); (case side3 => repeat (first | exact (Kd.N_reads' HO434.out).2.2 | (with_reducible refine Kd.C_alloc ?_ _) | (with_reducible refine Kd.C_drewN ?_ _) | (with_reducible refine Kd.C_drew ?_))); (case side4 => exact (Kd.N_reads' HO434.out).2.1); rintro e w' ⟨rfl, ⟨nd, rfl⟩⟩))
       go_meet
       case rel => exact ⟨_, (true), q9_, H', ⟨by have := HJ3.out; first | omega | exact Nat.le_refl _⟩, ⟨q62_⟩, ⟨q0_⟩⟩
     ·rw [if_neg c24] at H
      have c24b0 : (t428 == t435) = false := beq_eq_false_iff_ne.mpr c24
      have c24b1 : (t428 != t435) = true := bne_iff_ne.mpr c24
      (first | rw [c24b0] | (simp only [i64_w, i32_w]; rw [c24b0]) | skip)
      have H' := Aside0.mk H
      clear H
      go_wp2
      go_meet
      case rel => exact ⟨_, (true), q9_, H', ⟨by have := HJ3.out; first | omega | exact Nat.le_refl _⟩, ⟨q62_⟩, ⟨q0_⟩⟩
    case rest =>
     clear HC15
     try clear c1
     try clear c2
     try clear p2
     try clear c6
     try clear c8
     try clear c9
     try clear c10
     try clear c22
     try clear c24
     try clear c24b0
     try clear c24b1
     try clear c26
     try clear p2
     obtain ⟨kq, x58_14, rfl, HA, HJ14, HO_0, HB⟩ := hcut
     cases kq with
     | zero => exact absurd HA.out (by simp [corollarylaw13_BagBack.j1])
     | succ kj14 =>
      have H := HA.out
      clear HA
      simp only [corollarylaw13_BagBack.j1] at H
      by_cases c33 : x58_14 = true
      ·subst c33
       replace H := ifT_ H
       obtain rfl := Option.some.inj H
       go_wp2
       go_ret
       exact ⟨q4_, q0_⟩
      ·replace c33 := Bool.eq_false_iff.mpr c33
       subst c33
       replace H := ifF_ H
       replace H := Option.bind_eq_some_iff.mp H
       obtain ⟨⟨t438, t439⟩, A340, H⟩ := H
       replace H : (if t439 = 0 then ((bag_Sum.f kj14 (([l0, t438] : List (List (S27))))).bind fun bt445 => (if (bt445.1.length : Int) > 0 then (some false) else (if bt445.2 = 0 then ((corollarylaw13_awake.f kj14).bind fun t449 => (some t449)) else (some false)))) else ((corollarylaw13_awake.f kj14).bind fun t450 => (some t450))) = some r := H
       have A34 := Aside0.mk A340
       clear A340
       by_cases c35 : t439 = 0
       ·rw [if_pos c35] at H
        have c35b0 : (t439 == 0) = true := beq_iff_eq.mpr c35
        have c35b1 : (t439 != 0) = false := bne_eq_false_iff_eq.mpr c35
        clear c35
        obtain ⟨y442, hy442⟩ : ∃ y_ : List (List (S27)), y_ = (([l0, t438] : List (List (S27)))) := ⟨_, rfl⟩
        replace H : ((bag_Sum.f kj14 y442).bind fun bt445 => (if (bt445.1.length : Int) > 0 then (some false) else (if bt445.2 = 0 then ((corollarylaw13_awake.f kj14).bind fun t449 => (some t449)) else (some false)))) = some r := by first | (rw [hy442]; with_reducible exact H) | (have H2_ := (Option.bind_some _ _).symm.trans H; rw [hy442]; with_reducible exact H2_) | (have H2_ := (Option.bind_some _ _).symm.trans H; with_reducible exact H2_) | with_reducible exact H | (rw [hy442]; exact H) | exact H
        have Ny442 := Aside0.mk hy442
        clear hy442
        replace H := Option.bind_eq_some_iff.mp H
        obtain ⟨⟨t445, t448⟩, A360, H⟩ := H
        replace H : (if (t445.length : Int) > 0 then (some false) else (if t448 = 0 then ((corollarylaw13_awake.f kj14).bind fun t449 => (some t449)) else (some false))) = some r := H
        have A36 := Aside0.mk A360
        clear A360
        by_cases c37 : (t445.length : Int) > 0
        ·rw [if_pos c37] at H
         have c37b0 : decide (0 < (t445.length : Int)) = true := decide_eq_true c37
         have c37b1 : decide (0 < t445.length) = true := decide_eq_true (by omega)
         clear c37
         obtain rfl := Option.some.inj H
         go_wp2_with (first | ((with_reducible refine gate_callee (f := 23) rfl ?_); refine goesL_ (some 61) rfl rfl Tryd.func23 (by kernel_rfl) rfl #[.slice A0 l0.length c0] rfl q2_ ?_; (with_reducible refine (bag_Neg.calls kj14 _ _ l0 t438 t439 _ ?side1 ?side2 A34.out q1_).mono ?_); (case side1 => repeat (first | exact (Kd.V_reads' HO_0.out).2.2 | (with_reducible refine Kd.C_alloc ?_ _) | (with_reducible refine Kd.C_drewN ?_ _) | (with_reducible refine Kd.C_drew ?_))); (case side2 => exact (Kd.V_reads' HO_0.out).2.1); rintro e w38 ⟨v440, rfl, ho0, hb⟩; refine ⟨_, rfl, ?_⟩; have n0_ := Aside0.mk (Kd.V_elder' q6_ (Kd.S_base ho0) hb); have n1_ := Aside0.mk (Kd.N_lower (Kd.N_mono (ok' := fun k_ => ((P0_ k_ ∨ P1_ k_ ∨ P2_ k_) ∨ w.heap.size ≤ k_)) (Kd.S_N (Kd.S_bound ho0)) (fun k_ hk_ => (.inr (Nat.le_trans (below_size q0_) hk_.2.1)))) (below_size q0_)); have n2_ := Aside0.mk (below_step q0_ hb); clear HO_0; clear HB; have HO_0 := n0_; have HO441 := n1_; have HB := n2_; clear n0_ n1_ n2_; (try clear hb); (try clear hb2); (try clear hk); (try clear hi); (try clear ho0); obtain ⟨Ao39, co39, eo39⟩ := Kd.N_slice HO441.out; subst eo39) | ((with_reducible refine gate_dst (N := 69) rfl ?_); refine Kd.N_lit (Kd.slice 27 k27) _ 22 ?hg (N' := 69) ?hd (xs := ([l0, t438] : List (List (S27)))) (inner := [.slice A0 l0.length c0, .slice Ao39 t438.length co39]) (ok := (fun k_ => ((P0_ k_ ∨ P1_ k_ ∨ P2_ k_) ∨ w.heap.size ≤ k_))) (okp := (fun k_ => ((P0_ k_ ∨ P1_ k_ ∨ P2_ k_) ∨ w.heap.size ≤ k_))) ?hr ?hp (fun _ hk => hk) ((show ∀ k_, w38.heap.size ≤ k_ → (fun k_ => ((P0_ k_ ∨ P1_ k_ ∨ P2_ k_) ∨ w.heap.size ≤ k_)) k_ from fun k_ hk => (.inr (Nat.le_trans (below_size q0_) hk))) _ (Nat.le_refl _)) (Below.refl _ _) (Nat.le_refl _) (by simp) ?_; (case hd => rfl); (case hg => rfl); (case hr => first | (go_simp; done) | (go_simp; rfl)); (case hp => exact (Reps.one (show Kd.FK (Kd.slice 27 k27) _ _ l0 [.slice A0 l0.length c0] from (Kd.FK_slice_mk (Kd.V_reads' (Kd.V_mono (ok' := (fun k_ => ((P0_ k_ ∨ P1_ k_ ∨ P2_ k_) ∨ w.heap.size ≤ k_))) (HO_0.out) (fun k_ hk => hk.1))).2.1 (Kd.V_F (Kd.V_mono (ok' := (fun k_ => ((P0_ k_ ∨ P1_ k_ ∨ P2_ k_) ∨ w.heap.size ≤ k_))) (HO_0.out) (fun k_ hk => hk.1))))) (Reps.one (show Kd.FK (Kd.slice 27 k27) _ _ t438 [.slice Ao39 t438.length co39] from (Kd.FK_slice_mk (Kd.N_reads' (Kd.N_mono (ok' := (fun k_ => ((P0_ k_ ∨ P1_ k_ ∨ P2_ k_) ∨ w.heap.size ≤ k_))) (HO441.out) (fun k_ hk => hk))).2.1 (Kd.N_F (Kd.N_mono (ok' := (fun k_ => ((P0_ k_ ∨ P1_ k_ ∨ P2_ k_) ∨ w.heap.size ≤ k_))) (HO441.out) (fun k_ hk => hk))))) (Reps.none _ _)))); intro v443 w40 ho41 hb hg_ hnew_; clear hg_ hnew_; (first | rw [← Ny442.out] at ho41 | (simp only [Int.reduceToNat] at ho41; rw [← Ny442.out] at ho41)); have n0_ := Aside0.mk (Kd.V_elder' q6_ (Kd.N_base ho41) hb); have n1_ := Aside0.mk (Kd.N_lower ho41 (below_size q0_)); have n2_ := Aside0.mk (below_step q0_ hb); clear HO_0; clear HB; clear HO441; have HO_0 := n0_; have HO444 := n1_; have HB := n2_; clear n0_ n1_ n2_; clear hb ho41; obtain ⟨Ao42, co42, eo42⟩ := Kd.N_slice HO444.out; subst eo42) | ((with_reducible refine gate_callee (f := 22) rfl ?_); refine goesL_ (some 70) rfl rfl Tryd.func22 (by kernel_rfl) rfl #[.slice Ao42 y442.length co42] rfl q2_ ?_; (with_reducible refine (bag_Sum.calls kj14 (fun k_ => ((P0_ k_ ∨ P1_ k_ ∨ P2_ k_) ∨ w.heap.size ≤ k_)) _ _ y442 t445 t448 _ ?side1 A36.out q1_).mono ?_); (case side1 => exact Kd.N_V (HO444.out)); rintro e w43 ⟨v446, rfl, ho0, hb⟩; refine ⟨_, rfl, ?_⟩; have n0_ := Aside0.mk (Kd.V_elder' q6_ (Kd.N_base ho0) hb); have n1_ := Aside0.mk (Kd.N_elder' q55_ (Kd.N_base ho0) hb); have n2_ := Aside0.mk (Kd.N_lower (Kd.N_mono (ok' := fun k_ => ((P0_ k_ ∨ P1_ k_ ∨ P2_ k_) ∨ w.heap.size ≤ k_)) ho0 (fun k_ hk_ => Or.elim hk_ (fun hs_ => hs_) (fun hn_ => (.inr (Nat.le_trans (below_size q0_) hn_))))) (below_size q0_)); have n3_ := Aside0.mk (below_step q0_ hb); clear HO_0; clear HO444; clear HB; have HO_0 := n0_; have HO444 := n1_; have HO447 := n2_; have HB := n3_; clear n0_ n1_ n2_ n3_; (try clear hb); (try clear hb2); (try clear hk); (try clear hi); (try clear ho0); obtain ⟨Ao44, co44, eo44⟩ := Kd.N_slice HO447.out; subst eo44))
         go_ret
         exact ⟨q4_, q0_⟩
        ·rw [if_neg c37] at H
         have c37b0 : decide (0 < (t445.length : Int)) = false := decide_eq_false c37
         have c37b1 : decide (0 < t445.length) = false := decide_eq_false (by omega)
         clear c37
         by_cases c45 : t448 = 0
         ·rw [if_pos c45] at H
          have c45b0 : (t448 == 0) = true := beq_iff_eq.mpr c45
          have c45b1 : (t448 != 0) = false := bne_eq_false_iff_eq.mpr c45
          clear c45
          replace H := Option.bind_eq_some_iff.mp H
          obtain ⟨t449, A460, H⟩ := H
          replace H : (some t449) = some r := H
          have A46 := Aside0.mk A460
          clear A460
          obtain rfl := Option.some.inj H
          go_wp2_with (first | ((with_reducible refine gate_callee (f := 23) rfl ?_); refine goesL_ (some 61) rfl rfl Tryd.func23 (by kernel_rfl) rfl #[.slice A0 l0.length c0] rfl q2_ ?_; (with_reducible refine (bag_Neg.calls kj14 _ _ l0 t438 t439 _ ?side1 ?side2 A34.out q1_).mono ?_); (case side1 => repeat (first | exact (Kd.V_reads' HO_0.out).2.2 | (with_reducible refine Kd.C_alloc ?_ _) | (with_reducible refine Kd.C_drewN ?_ _) | (with_reducible refine Kd.C_drew ?_))); (case side2 => exact (Kd.V_reads' HO_0.out).2.1); rintro e w47 ⟨v440, rfl, ho0, hb⟩; refine ⟨_, rfl, ?_⟩; have n0_ := Aside0.mk (Kd.V_elder' q6_ (Kd.S_base ho0) hb); have n1_ := Aside0.mk (Kd.N_lower (Kd.N_mono (ok' := fun k_ => ((P0_ k_ ∨ P1_ k_ ∨ P2_ k_) ∨ w.heap.size ≤ k_)) (Kd.S_N (Kd.S_bound ho0)) (fun k_ hk_ => (.inr (Nat.le_trans (below_size q0_) hk_.2.1)))) (below_size q0_)); have n2_ := Aside0.mk (below_step q0_ hb); clear HO_0; clear HB; have HO_0 := n0_; have HO441 := n1_; have HB := n2_; clear n0_ n1_ n2_; (try clear hb); (try clear hb2); (try clear hk); (try clear hi); (try clear ho0); obtain ⟨Ao48, co48, eo48⟩ := Kd.N_slice HO441.out; subst eo48) | ((with_reducible refine gate_dst (N := 69) rfl ?_); refine Kd.N_lit (Kd.slice 27 k27) _ 22 ?hg (N' := 69) ?hd (xs := ([l0, t438] : List (List (S27)))) (inner := [.slice A0 l0.length c0, .slice Ao48 t438.length co48]) (ok := (fun k_ => ((P0_ k_ ∨ P1_ k_ ∨ P2_ k_) ∨ w.heap.size ≤ k_))) (okp := (fun k_ => ((P0_ k_ ∨ P1_ k_ ∨ P2_ k_) ∨ w.heap.size ≤ k_))) ?hr ?hp (fun _ hk => hk) ((show ∀ k_, w47.heap.size ≤ k_ → (fun k_ => ((P0_ k_ ∨ P1_ k_ ∨ P2_ k_) ∨ w.heap.size ≤ k_)) k_ from fun k_ hk => (.inr (Nat.le_trans (below_size q0_) hk))) _ (Nat.le_refl _)) (Below.refl _ _) (Nat.le_refl _) (by simp) ?_; (case hd => rfl); (case hg => rfl); (case hr => first | (go_simp; done) | (go_simp; rfl)); (case hp => exact (Reps.one (show Kd.FK (Kd.slice 27 k27) _ _ l0 [.slice A0 l0.length c0] from (Kd.FK_slice_mk (Kd.V_reads' (Kd.V_mono (ok' := (fun k_ => ((P0_ k_ ∨ P1_ k_ ∨ P2_ k_) ∨ w.heap.size ≤ k_))) (HO_0.out) (fun k_ hk => hk.1))).2.1 (Kd.V_F (Kd.V_mono (ok' := (fun k_ => ((P0_ k_ ∨ P1_ k_ ∨ P2_ k_) ∨ w.heap.size ≤ k_))) (HO_0.out) (fun k_ hk => hk.1))))) (Reps.one (show Kd.FK (Kd.slice 27 k27) _ _ t438 [.slice Ao48 t438.length co48] from (Kd.FK_slice_mk (Kd.N_reads' (Kd.N_mono (ok' := (fun k_ => ((P0_ k_ ∨ P1_ k_ ∨ P2_ k_) ∨ w.heap.size ≤ k_))) (HO441.out) (fun k_ hk => hk))).2.1 (Kd.N_F (Kd.N_mono (ok' := (fun k_ => ((P0_ k_ ∨ P1_ k_ ∨ P2_ k_) ∨ w.heap.size ≤ k_))) (HO441.out) (fun k_ hk => hk))))) (Reps.none _ _)))); intro v443 w49 ho50 hb hg_ hnew_; clear hg_ hnew_; (first | rw [← Ny442.out] at ho50 | (simp only [Int.reduceToNat] at ho50; rw [← Ny442.out] at ho50)); have n0_ := Aside0.mk (Kd.V_elder' q6_ (Kd.N_base ho50) hb); have n1_ := Aside0.mk (Kd.N_lower ho50 (below_size q0_)); have n2_ := Aside0.mk (below_step q0_ hb); clear HO_0; clear HB; clear HO441; have HO_0 := n0_; have HO444 := n1_; have HB := n2_; clear n0_ n1_ n2_; clear hb ho50; obtain ⟨Ao51, co51, eo51⟩ := Kd.N_slice HO444.out; subst eo51) | ((with_reducible refine gate_callee (f := 22) rfl ?_); refine goesL_ (some 70) rfl rfl Tryd.func22 (by kernel_rfl) rfl #[.slice Ao51 y442.length co51] rfl q2_ ?_; (with_reducible refine (bag_Sum.calls kj14 (fun k_ => ((P0_ k_ ∨ P1_ k_ ∨ P2_ k_) ∨ w.heap.size ≤ k_)) _ _ y442 t445 t448 _ ?side1 A36.out q1_).mono ?_); (case side1 => exact Kd.N_V (HO444.out)); rintro e w52 ⟨v446, rfl, ho0, hb⟩; refine ⟨_, rfl, ?_⟩; have n0_ := Aside0.mk (Kd.V_elder' q6_ (Kd.N_base ho0) hb); have n1_ := Aside0.mk (Kd.N_elder' q55_ (Kd.N_base ho0) hb); have n2_ := Aside0.mk (Kd.N_lower (Kd.N_mono (ok' := fun k_ => ((P0_ k_ ∨ P1_ k_ ∨ P2_ k_) ∨ w.heap.size ≤ k_)) ho0 (fun k_ hk_ => Or.elim hk_ (fun hs_ => hs_) (fun hn_ => (.inr (Nat.le_trans (below_size q0_) hn_))))) (below_size q0_)); have n3_ := Aside0.mk (below_step q0_ hb); clear HO_0; clear HO444; clear HB; have HO_0 := n0_; have HO444 := n1_; have HO447 := n2_; have HB := n3_; clear n0_ n1_ n2_ n3_; (try clear hb); (try clear hb2); (try clear hk); (try clear hi); (try clear ho0); obtain ⟨Ao53, co53, eo53⟩ := Kd.N_slice HO447.out; subst eo53) | ((with_reducible refine gate_callee (f := 10) rfl ?_); refine goesL_ (some 80) rfl rfl Tryd.func10 (by kernel_rfl) rfl #[] rfl q2_ ?_; (with_reducible refine (corollarylaw13_awake.calls kj14  t449 _ A46.out q1_).mono ?_); rintro e w54 ⟨rfl, hb⟩; refine ⟨_, rfl, ?_⟩; have n0_ := Aside0.mk (Kd.V_below q6_ hb); have n1_ := Aside0.mk (Kd.N_below q55_ hb); have n2_ := Aside0.mk (Kd.N_below (by (with_reducible repeat (first | apply Kd.N_alloc | apply Kd.N_drewN | apply Kd.N_drew)); exact HO447.out) hb); have n3_ := Aside0.mk (below_step q0_ hb); clear HO_0; clear HO444; clear HO447; clear HB; have HO_0 := n0_; have HO444 := n1_; have HO447 := n2_; have HB := n3_; clear n0_ n1_ n2_ n3_; (try clear hb); (try clear hb2); (try clear hk); (try clear hi)))
          go_ret
          exact ⟨q4_, q0_⟩
         ·rw [if_neg c45] at H
          have c45b0 : (t448 == 0) = false := beq_eq_false_iff_ne.mpr c45
          have c45b1 : (t448 != 0) = true := bne_iff_ne.mpr c45
          obtain rfl := Option.some.inj H
          go_wp2_with (first | ((with_reducible refine gate_callee (f := 23) rfl ?_); refine goesL_ (some 61) rfl rfl Tryd.func23 (by kernel_rfl) rfl #[.slice A0 l0.length c0] rfl q2_ ?_; (with_reducible refine (bag_Neg.calls kj14 _ _ l0 t438 t439 _ ?side1 ?side2 A34.out q1_).mono ?_); (case side1 => repeat (first | exact (Kd.V_reads' HO_0.out).2.2 | (with_reducible refine Kd.C_alloc ?_ _) | (with_reducible refine Kd.C_drewN ?_ _) | (with_reducible refine Kd.C_drew ?_))); (case side2 => exact (Kd.V_reads' HO_0.out).2.1); rintro e w55 ⟨v440, rfl, ho0, hb⟩; refine ⟨_, rfl, ?_⟩; have n0_ := Aside0.mk (Kd.V_elder' q6_ (Kd.S_base ho0) hb); have n1_ := Aside0.mk (Kd.N_lower (Kd.N_mono (ok' := fun k_ => ((P0_ k_ ∨ P1_ k_ ∨ P2_ k_) ∨ w.heap.size ≤ k_)) (Kd.S_N (Kd.S_bound ho0)) (fun k_ hk_ => (.inr (Nat.le_trans (below_size q0_) hk_.2.1)))) (below_size q0_)); have n2_ := Aside0.mk (below_step q0_ hb); clear HO_0; clear HB; have HO_0 := n0_; have HO441 := n1_; have HB := n2_; clear n0_ n1_ n2_; (try clear hb); (try clear hb2); (try clear hk); (try clear hi); (try clear ho0); obtain ⟨Ao56, co56, eo56⟩ := Kd.N_slice HO441.out; subst eo56) | ((with_reducible refine gate_dst (N := 69) rfl ?_); refine Kd.N_lit (Kd.slice 27 k27) _ 22 ?hg (N' := 69) ?hd (xs := ([l0, t438] : List (List (S27)))) (inner := [.slice A0 l0.length c0, .slice Ao56 t438.length co56]) (ok := (fun k_ => ((P0_ k_ ∨ P1_ k_ ∨ P2_ k_) ∨ w.heap.size ≤ k_))) (okp := (fun k_ => ((P0_ k_ ∨ P1_ k_ ∨ P2_ k_) ∨ w.heap.size ≤ k_))) ?hr ?hp (fun _ hk => hk) ((show ∀ k_, w55.heap.size ≤ k_ → (fun k_ => ((P0_ k_ ∨ P1_ k_ ∨ P2_ k_) ∨ w.heap.size ≤ k_)) k_ from fun k_ hk => (.inr (Nat.le_trans (below_size q0_) hk))) _ (Nat.le_refl _)) (Below.refl _ _) (Nat.le_refl _) (by simp) ?_; (case hd => rfl); (case hg => rfl); (case hr => first | (go_simp; done) | (go_simp; rfl)); (case hp => exact (Reps.one (show Kd.FK (Kd.slice 27 k27) _ _ l0 [.slice A0 l0.length c0] from (Kd.FK_slice_mk (Kd.V_reads' (Kd.V_mono (ok' := (fun k_ => ((P0_ k_ ∨ P1_ k_ ∨ P2_ k_) ∨ w.heap.size ≤ k_))) (HO_0.out) (fun k_ hk => hk.1))).2.1 (Kd.V_F (Kd.V_mono (ok' := (fun k_ => ((P0_ k_ ∨ P1_ k_ ∨ P2_ k_) ∨ w.heap.size ≤ k_))) (HO_0.out) (fun k_ hk => hk.1))))) (Reps.one (show Kd.FK (Kd.slice 27 k27) _ _ t438 [.slice Ao56 t438.length co56] from (Kd.FK_slice_mk (Kd.N_reads' (Kd.N_mono (ok' := (fun k_ => ((P0_ k_ ∨ P1_ k_ ∨ P2_ k_) ∨ w.heap.size ≤ k_))) (HO441.out) (fun k_ hk => hk))).2.1 (Kd.N_F (Kd.N_mono (ok' := (fun k_ => ((P0_ k_ ∨ P1_ k_ ∨ P2_ k_) ∨ w.heap.size ≤ k_))) (HO441.out) (fun k_ hk => hk))))) (Reps.none _ _)))); intro v443 w57 ho58 hb hg_ hnew_; clear hg_ hnew_; (first | rw [← Ny442.out] at ho58 | (simp only [Int.reduceToNat] at ho58; rw [← Ny442.out] at ho58)); have n0_ := Aside0.mk (Kd.V_elder' q6_ (Kd.N_base ho58) hb); have n1_ := Aside0.mk (Kd.N_lower ho58 (below_size q0_)); have n2_ := Aside0.mk (below_step q0_ hb); clear HO_0; clear HB; clear HO441; have HO_0 := n0_; have HO444 := n1_; have HB := n2_; clear n0_ n1_ n2_; clear hb ho58; obtain ⟨Ao59, co59, eo59⟩ := Kd.N_slice HO444.out; subst eo59) | ((with_reducible refine gate_callee (f := 22) rfl ?_); refine goesL_ (some 70) rfl rfl Tryd.func22 (by kernel_rfl) rfl #[.slice Ao59 y442.length co59] rfl q2_ ?_; (with_reducible refine (bag_Sum.calls kj14 (fun k_ => ((P0_ k_ ∨ P1_ k_ ∨ P2_ k_) ∨ w.heap.size ≤ k_)) _ _ y442 t445 t448 _ ?side1 A36.out q1_).mono ?_); (case side1 => exact Kd.N_V (HO444.out)); rintro e w60 ⟨v446, rfl, ho0, hb⟩; refine ⟨_, rfl, ?_⟩; have n0_ := Aside0.mk (Kd.V_elder' q6_ (Kd.N_base ho0) hb); have n1_ := Aside0.mk (Kd.N_elder' q55_ (Kd.N_base ho0) hb); have n2_ := Aside0.mk (Kd.N_lower (Kd.N_mono (ok' := fun k_ => ((P0_ k_ ∨ P1_ k_ ∨ P2_ k_) ∨ w.heap.size ≤ k_)) ho0 (fun k_ hk_ => Or.elim hk_ (fun hs_ => hs_) (fun hn_ => (.inr (Nat.le_trans (below_size q0_) hn_))))) (below_size q0_)); have n3_ := Aside0.mk (below_step q0_ hb); clear HO_0; clear HO444; clear HB; have HO_0 := n0_; have HO444 := n1_; have HO447 := n2_; have HB := n3_; clear n0_ n1_ n2_ n3_; (try clear hb); (try clear hb2); (try clear hk); (try clear hi); (try clear ho0); obtain ⟨Ao61, co61, eo61⟩ := Kd.N_slice HO447.out; subst eo61))
          go_ret
          exact ⟨q4_, q0_⟩
       ·rw [if_neg c35] at H
        have c35b0 : (t439 == 0) = false := beq_eq_false_iff_ne.mpr c35
        have c35b1 : (t439 != 0) = true := bne_iff_ne.mpr c35
        replace H := Option.bind_eq_some_iff.mp H
        obtain ⟨t450, A620, H⟩ := H
        replace H : (some t450) = some r := H
        have A62 := Aside0.mk A620
        clear A620
        obtain rfl := Option.some.inj H
        go_wp2_with (first | ((with_reducible refine gate_callee (f := 23) rfl ?_); refine goesL_ (some 61) rfl rfl Tryd.func23 (by kernel_rfl) rfl #[.slice A0 l0.length c0] rfl q2_ ?_; (with_reducible refine (bag_Neg.calls kj14 _ _ l0 t438 t439 _ ?side1 ?side2 A34.out q1_).mono ?_); (case side1 => repeat (first | exact (Kd.V_reads' HO_0.out).2.2 | (with_reducible refine Kd.C_alloc ?_ _) | (with_reducible refine Kd.C_drewN ?_ _) | (with_reducible refine Kd.C_drew ?_))); (case side2 => exact (Kd.V_reads' HO_0.out).2.1); rintro e w63 ⟨v440, rfl, ho0, hb⟩; refine ⟨_, rfl, ?_⟩; have n0_ := Aside0.mk (Kd.V_elder' q6_ (Kd.S_base ho0) hb); have n1_ := Aside0.mk (Kd.N_lower (Kd.N_mono (ok' := fun k_ => ((P0_ k_ ∨ P1_ k_ ∨ P2_ k_) ∨ w.heap.size ≤ k_)) (Kd.S_N (Kd.S_bound ho0)) (fun k_ hk_ => (.inr (Nat.le_trans (below_size q0_) hk_.2.1)))) (below_size q0_)); have n2_ := Aside0.mk (below_step q0_ hb); clear HO_0; clear HB; have HO_0 := n0_; have HO441 := n1_; have HB := n2_; clear n0_ n1_ n2_; (try clear hb); (try clear hb2); (try clear hk); (try clear hi); (try clear ho0)) | ((with_reducible refine gate_callee (f := 10) rfl ?_); refine goesL_ (some 80) rfl rfl Tryd.func10 (by kernel_rfl) rfl #[] rfl q2_ ?_; (with_reducible refine (corollarylaw13_awake.calls kj14  t450 _ A62.out q1_).mono ?_); rintro e w64 ⟨rfl, hb⟩; refine ⟨_, rfl, ?_⟩; have n0_ := Aside0.mk (Kd.V_below q6_ hb); have n1_ := Aside0.mk (Kd.N_below (by (with_reducible repeat (first | apply Kd.N_alloc | apply Kd.N_drewN | apply Kd.N_drew)); exact HO441.out) hb); have n2_ := Aside0.mk (below_step q0_ hb); clear HO_0; clear HO441; clear HB; have HO_0 := n0_; have HO441 := n1_; have HB := n2_; clear n0_ n1_ n2_; (try clear hb); (try clear hb2); (try clear hk); (try clear hi)))
        go_ret
        exact ⟨q4_, q0_⟩

end Go.Proofs.YtckligjgnbgdiaaDoor.P
