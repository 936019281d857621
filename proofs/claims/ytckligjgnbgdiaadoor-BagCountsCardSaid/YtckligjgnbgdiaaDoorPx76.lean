-- HALVED
-- Written by our own program (wip/xprint) over the seat's translation. Lean checks it.
import Derived.Test.YtckligjgnbgdiaaDoorPx0
import Derived.Test.YtckligjgnbgdiaaDoorPx1
import Derived.Test.YtckligjgnbgdiaaDoorPx22
import Derived.Test.YtckligjgnbgdiaaDoorPx52
import Derived.Test.YtckligjgnbgdiaaDoorPx71
namespace Go.Proofs.YtckligjgnbgdiaaDoor.P
open Go.RowKit Go.Proofs.YtckligjgnbgdiaaDoorW.PrintWords Go.Proofs.YtckligjgnbgdiaaDoorW.PrintLast Go.Proofs.YtckligjgnbgdiaaDoorW.PrintMore
attribute [local go_sem] max2_int min2_mn max_two min_two max_three min_three max_four min_four   -- for this text's walks alone
set_option linter.unusedVariables false
set_option linter.unusedSimpArgs false


/-! ### corollarylaw13_BagCounts: function 6 -/
def corollarylaw13_BagCounts.j0 : Nat → List (S27) → List (S27) → List (S51) → Bool → Option (Bool)
 | 0, _, _, _, _ => none
 | k + 1, x0, x1, x2, x21 => if x21 = true then ((corollarylaw13_awake.f k).bind fun t357 => (some t357)) else ((bag_Sum.f k (([x0, x1] : List (List (S27))))).bind fun bt361 => (if bt361.2 = 0 then ((bag_N.f k bt361.1 x2).bind fun t366 => ((bag_N.f k x0 x2).bind fun t367 => ((bag_N.f k x1 x2).bind fun t368 => (if t366 = (wrap64 (t367 + t368)) then ((bag_Size.f k bt361.1).bind fun t369 => ((bag_Size.f k x0).bind fun t370 => ((bag_Size.f k x1).bind fun t371 => (if t369 = (wrap64 (t370 + t371)) then ((corollarylaw13_awake.f k).bind fun t372 => (some t372)) else (some false))))) else (some false))))) else (if (bt361.1.length : Int) = 0 then ((corollarylaw13_awake.f k).bind fun t365 => (some t365)) else (some false))))
def corollarylaw13_BagCounts.f (k : Nat) (l0 : List (S27)) (l1 : List (S27)) (l2 : List (S51)) : Option (Bool) := (corollaryref13_Small.f k l0).bind fun t355 => (if t355 = true then ((corollaryref13_Small.f k l1).bind fun t356 => (if t356 = true then (corollarylaw13_BagCounts.j0 k l0 l1 l2 (decide ((l2.length : Int) > 40))) else (corollarylaw13_BagCounts.j0 k l0 l1 l2 true))) else (corollarylaw13_BagCounts.j0 k l0 l1 l2 true))
theorem corollarylaw13_BagCounts.mono_l : ∀ k, (∀ y0 y1 y2 y3, LeO (corollarylaw13_BagCounts.j0 k y0 y1 y2 y3) (corollarylaw13_BagCounts.j0 (k + 1) y0 y1 y2 y3))
 | 0 => fun _ _ _ _ r h => by simp [corollarylaw13_BagCounts.j0] at h
 | k + 1 => by
  have ih0 := corollarylaw13_BagCounts.mono_l k
  ·intro y0 y1 y2 y3
   unfold corollarylaw13_BagCounts.j0
   repeat' first
   | (with_reducible exact ih0 _ _ _ _)
   | (with_reducible exact bag_N.mono _ _ _)
   | (with_reducible exact bag_Size.mono _ _)
   | (with_reducible exact bag_Sum.mono _ _)
   | (with_reducible exact corollarylaw13_awake.mono _)
   | (with_reducible exact corollaryref13_Small.mono _ _)
   | (with_reducible exact LeO.refl _)
   | (with_reducible exact LeO.none _)
   | (with_reducible refine LeO.ite ?_ ?_)
   | (with_reducible refine LeO.bind ?_ (fun _ => ?_))
   | exact ih0 _ _ _ _
   | exact bag_N.mono _ _ _
   | exact bag_Size.mono _ _
   | exact bag_Sum.mono _ _
   | exact corollarylaw13_awake.mono _
   | exact corollaryref13_Small.mono _ _
   | exact LeO.none _
   | refine LeO.ite ?_ ?_
   | refine LeO.bind ?_ (fun _ => ?_)
theorem corollarylaw13_BagCounts.mono : ∀ a0 a1 a2 k, LeO (corollarylaw13_BagCounts.f k a0 a1 a2) (corollarylaw13_BagCounts.f (k + 1) a0 a1 a2) := by
 intro a0 a1 a2 k
 have ih0 := corollarylaw13_BagCounts.mono_l k
 unfold corollarylaw13_BagCounts.f
 repeat' first
   | (with_reducible exact ih0 _ _ _ _)
   | (with_reducible exact bag_N.mono _ _ _)
   | (with_reducible exact bag_Size.mono _ _)
   | (with_reducible exact bag_Sum.mono _ _)
   | (with_reducible exact corollarylaw13_awake.mono _)
   | (with_reducible exact corollaryref13_Small.mono _ _)
   | (with_reducible exact LeO.refl _)
   | (with_reducible exact LeO.none _)
   | (with_reducible refine LeO.ite ?_ ?_)
   | (with_reducible refine LeO.bind ?_ (fun _ => ?_))
   | exact ih0 _ _ _ _
   | exact bag_N.mono _ _ _
   | exact bag_Size.mono _ _
   | exact bag_Sum.mono _ _
   | exact corollarylaw13_awake.mono _
   | exact corollaryref13_Small.mono _ _
   | exact LeO.none _
   | refine LeO.ite ?_ ?_
   | refine LeO.bind ?_ (fun _ => ?_)
set_option maxHeartbeats 8000000 in
set_option maxRecDepth 100000 in
theorem corollarylaw13_BagCounts.calls (k : Nat) (P0_ : Nat → Prop) (A0 : Option Addr) (c0 : Nat) (l0 : List (S27)) (P1_ : Nat → Prop) (A1 : Option Addr) (c1 : Nat) (l1 : List (S27)) (A2 : Option Addr) (c2 : Nat) (l2 : List (S51)) (r : Bool) (w : World) (hs0 : Kd.V k27 27 w w.heap.size (fun k_ => P0_ k_) (.slice A0 l0.length c0) l0) (hs1 : Kd.V k27 27 w w.heap.size (fun k_ => P1_ k_) (.slice A1 l1.length c1) l1) (hr2 : Kd.C k51 w A2 l2.length l2) (hc2 : l2.length ≤ c2) (h : corollarylaw13_BagCounts.f k l0 l1 l2 = some r) (hG : Glob w) :
  Calls Tryd.prog 6 #[.slice A0 l0.length c0, .slice A1 l1.length c1, .slice A2 l2.length c2] w fun e w' => e = .returned (.bool r) ∧ Below w.heap.size w w' := by
 have HG := Aside0.mk hG
 clear hG
 have HO0 := Aside0.mk (show Kd.V k27 27 w w.heap.size (fun k_ => ((P0_ k_ ∨ P1_ k_) ∨ w.heap.size ≤ k_)) (.slice A0 l0.length c0) l0 from Kd.V_mono hs0 (fun k_ hk => .inl (.inl hk)))
 have HO1 := Aside0.mk (show Kd.V k27 27 w w.heap.size (fun k_ => ((P0_ k_ ∨ P1_ k_) ∨ w.heap.size ≤ k_)) (.slice A1 l1.length c1) l1 from Kd.V_mono hs1 (fun k_ hk => .inl (.inr hk)))
 have HR2 := Aside0.mk hr2
 have HC2 := Aside0.mk hc2
 clear hr2 hc2
 have HB := Aside0.mk (Below.refl w.heap.size w)
 have H : ((corollaryref13_Small.f k l0).bind fun t355 => (if t355 = true then ((corollaryref13_Small.f k l1).bind fun t356 => (if t356 = true then (corollarylaw13_BagCounts.j0 k l0 l1 l2 (decide ((l2.length : Int) > 40))) else (corollarylaw13_BagCounts.j0 k l0 l1 l2 true))) else (corollarylaw13_BagCounts.j0 k l0 l1 l2 true))) = some r := h
 clear h
 have HC4 := Aside0.mk H
 clear H
 go_enter Tryd.func6, Tryd.ntmps6
 go_upto_region 1 with (fail)
 go_cut [21] (fun v21 wc => ∃ (kq : Nat) (x21_3 : Bool), v21 = .bool x21_3 ∧ Aside0 (corollarylaw13_BagCounts.j0 kq l0 l1 l2 x21_3 = some r) ∧ Aside0 (kq ≤ k) ∧ Aside0 (Kd.V k27 27 wc w.heap.size (fun k_ => ((P0_ k_ ∨ P1_ k_) ∨ w.heap.size ≤ k_)) (.slice A0 l0.length c0) l0) ∧ Aside0 (Kd.V k27 27 wc w.heap.size (fun k_ => ((P0_ k_ ∨ P1_ k_) ∨ w.heap.size ≤ k_)) (.slice A1 l1.length c1) l1) ∧ Aside0 (Below w.heap.size w wc))
 case first =>
  have H := HC4.out
  clear HC4
  replace H := Option.bind_eq_some_iff.mp H
  obtain ⟨t355, A50, H⟩ := H
  replace H : (if t355 = true then ((corollaryref13_Small.f k l1).bind fun t356 => (if t356 = true then (corollarylaw13_BagCounts.j0 k l0 l1 l2 (decide ((l2.length : Int) > 40))) else (corollarylaw13_BagCounts.j0 k l0 l1 l2 true))) else (corollarylaw13_BagCounts.j0 k l0 l1 l2 true)) = some r := H
  have A5 := Aside0.mk A50
  clear A50
  by_cases c6 : t355 = true
  ·subst c6
   replace H := ifT_ H
   replace H := Option.bind_eq_some_iff.mp H
   obtain ⟨t356, A70, H⟩ := H
   replace H : (if t356 = true then (corollarylaw13_BagCounts.j0 k l0 l1 l2 (decide ((l2.length : Int) > 40))) else (corollarylaw13_BagCounts.j0 k l0 l1 l2 true)) = some r := H
   have A7 := Aside0.mk A70
   clear A70
   by_cases c8 : t356 = true
   ·subst c8
    replace H := ifT_ H
    have H' := Aside0.mk H
    clear H
    go_wp2_with (first | ((with_reducible refine gate_callee (f := 9) rfl ?_); refine goesL_ (some 10) rfl rfl Tryd.func9 (by kernel_rfl) rfl #[.slice A0 l0.length c0] rfl q2_ ?_; (with_reducible refine (corollaryref13_Small.calls k _ _ l0 true _ ?side1 ?side2 A5.out).mono ?_); (case side1 => repeat (first | exact (Kd.V_reads' HO0.out).2.2 | (with_reducible refine Kd.C_alloc ?_ _) | (with_reducible refine Kd.C_drewN ?_ _) | (with_reducible refine Kd.C_drew ?_))); (case side2 => exact (Kd.V_reads' HO0.out).2.1); rintro e w' ⟨rfl, ⟨nd, rfl⟩⟩; refine ⟨_, rfl, ?_⟩) | (go_at_call 9; (with_reducible refine (corollaryref13_Small.calls k _ _ l1 true _ ?side1 ?side2 A7.out).mono ?_); (case side1 => repeat (first | exact (Kd.V_reads' HO1.out).2.2 | (with_reducible refine Kd.C_alloc ?_ _) | (with_reducible refine Kd.C_drewN ?_ _) | (with_reducible refine Kd.C_drew ?_))); (case side2 => exact (Kd.V_reads' HO1.out).2.1); rintro e w' ⟨rfl, ⟨nd, rfl⟩⟩))
    go_meet
    case rel => exact ⟨_, (decide ((l2.length : Int) > 40)), q9_, H', ⟨by first | omega | exact Nat.le_refl _⟩, ⟨q24_⟩, ⟨q35_⟩, ⟨q0_⟩⟩
   ·replace c8 := Bool.eq_false_iff.mpr c8
    subst c8
    replace H := ifF_ H
    have H' := Aside0.mk H
    clear H
    go_wp2_with (first | ((with_reducible refine gate_callee (f := 9) rfl ?_); refine goesL_ (some 10) rfl rfl Tryd.func9 (by kernel_rfl) rfl #[.slice A0 l0.length c0] rfl q2_ ?_; (with_reducible refine (corollaryref13_Small.calls k _ _ l0 true _ ?side1 ?side2 A5.out).mono ?_); (case side1 => repeat (first | exact (Kd.V_reads' HO0.out).2.2 | (with_reducible refine Kd.C_alloc ?_ _) | (with_reducible refine Kd.C_drewN ?_ _) | (with_reducible refine Kd.C_drew ?_))); (case side2 => exact (Kd.V_reads' HO0.out).2.1); rintro e w' ⟨rfl, ⟨nd, rfl⟩⟩; refine ⟨_, rfl, ?_⟩) | (go_at_call 9; (with_reducible refine (corollaryref13_Small.calls k _ _ l1 false _ ?side1 ?side2 A7.out).mono ?_); (case side1 => repeat (first | exact (Kd.V_reads' HO1.out).2.2 | (with_reducible refine Kd.C_alloc ?_ _) | (with_reducible refine Kd.C_drewN ?_ _) | (with_reducible refine Kd.C_drew ?_))); (case side2 => exact (Kd.V_reads' HO1.out).2.1); rintro e w' ⟨rfl, ⟨nd, rfl⟩⟩))
    go_meet
    case rel => exact ⟨_, (true), q9_, H', ⟨by first | omega | exact Nat.le_refl _⟩, ⟨q24_⟩, ⟨q35_⟩, ⟨q0_⟩⟩
  ·replace c6 := Bool.eq_false_iff.mpr c6
   subst c6
   replace H := ifF_ H
   have H' := Aside0.mk H
   clear H
   go_wp2_with (first | ((with_reducible refine gate_callee (f := 9) rfl ?_); refine goesL_ (some 10) rfl rfl Tryd.func9 (by kernel_rfl) rfl #[.slice A0 l0.length c0] rfl q2_ ?_; (with_reducible refine (corollaryref13_Small.calls k _ _ l0 false _ ?side1 ?side2 A5.out).mono ?_); (case side1 => repeat (first | exact (Kd.V_reads' HO0.out).2.2 | (with_reducible refine Kd.C_alloc ?_ _) | (with_reducible refine Kd.C_drewN ?_ _) | (with_reducible refine Kd.C_drew ?_))); (case side2 => exact (Kd.V_reads' HO0.out).2.1); rintro e w' ⟨rfl, ⟨nd, rfl⟩⟩; refine ⟨_, rfl, ?_⟩))
   go_meet
   case rel => exact ⟨_, (true), q9_, H', ⟨by first | omega | exact Nat.le_refl _⟩, ⟨q24_⟩, ⟨q35_⟩, ⟨q0_⟩⟩
 case rest =>
  clear HC4
  try clear c1
  try clear c2
  try clear p2
  try clear c6
  try clear c8
  obtain ⟨kq, x21_3, rfl, HA, HJ3, HO_0, HO_1, HB⟩ := hcut
  cases kq with
  | zero => exact absurd HA.out (by simp [corollarylaw13_BagCounts.j0])
  | succ kj3 =>
   have H := HA.out
   clear HA
   simp only [corollarylaw13_BagCounts.j0] at H
   by_cases c9 : x21_3 = true
   ·subst c9
    replace H := ifT_ H
    replace H := Option.bind_eq_some_iff.mp H
    obtain ⟨t357, A100, H⟩ := H
    replace H : (some t357) = some r := H
    have A10 := Aside0.mk A100
    clear A100
    obtain rfl := Option.some.inj H
    go_wp2_with (first | ((with_reducible refine gate_callee (f := 10) rfl ?_); refine goesL_ (some 22) rfl rfl Tryd.func10 (by kernel_rfl) rfl #[] rfl q2_ ?_; (with_reducible refine (corollarylaw13_awake.calls kj3  t357 _ A10.out q1_).mono ?_); rintro e w11 ⟨rfl, hb⟩; refine ⟨_, rfl, ?_⟩; have n0_ := Aside0.mk (Kd.V_below q6_ hb); have n1_ := Aside0.mk (Kd.V_below q8_ hb); have n2_ := Aside0.mk (below_step q0_ hb); clear HO_0; clear HO_1; clear HB; have HO_0 := n0_; have HO_1 := n1_; have HB := n2_; clear n0_ n1_ n2_; (try clear hb); (try clear hb2); (try clear hk); (try clear hi)))
    go_ret
    exact ⟨q4_, q0_⟩
   ·replace c9 := Bool.eq_false_iff.mpr c9
    subst c9
    replace H := ifF_ H
    obtain ⟨y358, hy358⟩ : ∃ y_ : List (List (S27)), y_ = (([l0, l1] : List (List (S27)))) := ⟨_, rfl⟩
    replace H : ((bag_Sum.f kj3 y358).bind fun bt361 => (if bt361.2 = 0 then ((bag_N.f kj3 bt361.1 l2).bind fun t366 => ((bag_N.f kj3 l0 l2).bind fun t367 => ((bag_N.f kj3 l1 l2).bind fun t368 => (if t366 = (wrap64 (t367 + t368)) then ((bag_Size.f kj3 bt361.1).bind fun t369 => ((bag_Size.f kj3 l0).bind fun t370 => ((bag_Size.f kj3 l1).bind fun t371 => (if t369 = (wrap64 (t370 + t371)) then ((corollarylaw13_awake.f kj3).bind fun t372 => (some t372)) else (some false))))) else (some false))))) else (if (bt361.1.length : Int) = 0 then ((corollarylaw13_awake.f kj3).bind fun t365 => (some t365)) else (some false)))) = some r := by first | (rw [hy358]; with_reducible exact H) | (have H2_ := (Option.bind_some _ _).symm.trans H; rw [hy358]; with_reducible exact H2_) | (have H2_ := (Option.bind_some _ _).symm.trans H; with_reducible exact H2_) | with_reducible exact H | (rw [hy358]; exact H) | exact H
    have Ny358 := Aside0.mk hy358
    clear hy358
    replace H := Option.bind_eq_some_iff.mp H
    obtain ⟨⟨t361, t364⟩, A120, H⟩ := H
    replace H : (if t364 = 0 then ((bag_N.f kj3 t361 l2).bind fun t366 => ((bag_N.f kj3 l0 l2).bind fun t367 => ((bag_N.f kj3 l1 l2).bind fun t368 => (if t366 = (wrap64 (t367 + t368)) then ((bag_Size.f kj3 t361).bind fun t369 => ((bag_Size.f kj3 l0).bind fun t370 => ((bag_Size.f kj3 l1).bind fun t371 => (if t369 = (wrap64 (t370 + t371)) then ((corollarylaw13_awake.f kj3).bind fun t372 => (some t372)) else (some false))))) else (some false))))) else (if (t361.length : Int) = 0 then ((corollarylaw13_awake.f kj3).bind fun t365 => (some t365)) else (some false))) = some r := H
    have A12 := Aside0.mk A120
    clear A120
    by_cases c13 : t364 = 0
    ·rw [if_pos c13] at H
     have c13b0 : (t364 == 0) = true := beq_iff_eq.mpr c13
     have c13b1 : (t364 != 0) = false := bne_eq_false_iff_eq.mpr c13
     clear c13
     replace H := Option.bind_eq_some_iff.mp H
     obtain ⟨t366, A140, H⟩ := H
     replace H : ((bag_N.f kj3 l0 l2).bind fun t367 => ((bag_N.f kj3 l1 l2).bind fun t368 => (if t366 = (wrap64 (t367 + t368)) then ((bag_Size.f kj3 t361).bind fun t369 => ((bag_Size.f kj3 l0).bind fun t370 => ((bag_Size.f kj3 l1).bind fun t371 => (if t369 = (wrap64 (t370 + t371)) then ((corollarylaw13_awake.f kj3).bind fun t372 => (some t372)) else (some false))))) else (some false)))) = some r := H
     have A14 := Aside0.mk A140
     clear A140
     replace H := Option.bind_eq_some_iff.mp H
     obtain ⟨t367, A150, H⟩ := H
     replace H : ((bag_N.f kj3 l1 l2).bind fun t368 => (if t366 = (wrap64 (t367 + t368)) then ((bag_Size.f kj3 t361).bind fun t369 => ((bag_Size.f kj3 l0).bind fun t370 => ((bag_Size.f kj3 l1).bind fun t371 => (if t369 = (wrap64 (t370 + t371)) then ((corollarylaw13_awake.f kj3).bind fun t372 => (some t372)) else (some false))))) else (some false))) = some r := H
     have A15 := Aside0.mk A150
     clear A150
     replace H := Option.bind_eq_some_iff.mp H
     obtain ⟨t368, A160, H⟩ := H
     replace H : (if t366 = (wrap64 (t367 + t368)) then ((bag_Size.f kj3 t361).bind fun t369 => ((bag_Size.f kj3 l0).bind fun t370 => ((bag_Size.f kj3 l1).bind fun t371 => (if t369 = (wrap64 (t370 + t371)) then ((corollarylaw13_awake.f kj3).bind fun t372 => (some t372)) else (some false))))) else (some false)) = some r := H
     have A16 := Aside0.mk A160
     clear A160
     by_cases c17 : t366 = (wrap64 (t367 + t368))
     ·rw [if_pos c17] at H
      have c17b0 : (t366 == (wrap64 (t367 + t368))) = true := beq_iff_eq.mpr c17
      have c17b1 : (t366 != (wrap64 (t367 + t368))) = false := bne_eq_false_iff_eq.mpr c17
      clear c17
      replace H := Option.bind_eq_some_iff.mp H
      obtain ⟨t369, A180, H⟩ := H
      replace H : ((bag_Size.f kj3 l0).bind fun t370 => ((bag_Size.f kj3 l1).bind fun t371 => (if t369 = (wrap64 (t370 + t371)) then ((corollarylaw13_awake.f kj3).bind fun t372 => (some t372)) else (some false)))) = some r := H
      have A18 := Aside0.mk A180
      clear A180
      replace H := Option.bind_eq_some_iff.mp H
      obtain ⟨t370, A190, H⟩ := H
      replace H : ((bag_Size.f kj3 l1).bind fun t371 => (if t369 = (wrap64 (t370 + t371)) then ((corollarylaw13_awake.f kj3).bind fun t372 => (some t372)) else (some false))) = some r := H
      have A19 := Aside0.mk A190
      clear A190
      replace H := Option.bind_eq_some_iff.mp H
      obtain ⟨t371, A200, H⟩ := H
      replace H : (if t369 = (wrap64 (t370 + t371)) then ((corollarylaw13_awake.f kj3).bind fun t372 => (some t372)) else (some false)) = some r := H
      have A20 := Aside0.mk A200
      clear A200
      by_cases c21 : t369 = (wrap64 (t370 + t371))
      ·rw [if_pos c21] at H
       have c21b0 : (t369 == (wrap64 (t370 + t371))) = true := beq_iff_eq.mpr c21
       have c21b1 : (t369 != (wrap64 (t370 + t371))) = false := bne_eq_false_iff_eq.mpr c21
       clear c21
       replace H := Option.bind_eq_some_iff.mp H
       obtain ⟨t372, A220, H⟩ := H
       replace H : (some t372) = some r := H
       have A22 := Aside0.mk A220
       clear A220
       obtain rfl := Option.some.inj H
       go_wp2_with (first | ((with_reducible refine gate_dst (N := 26) rfl ?_); (try (refine gate_guard (by rfl) ?_; dsimp only)); refine Kd.N_lit (Kd.slice 27 k27) _ 22 ?hg (N' := 26) ?hd (xs := ([l0, l1] : List (List (S27)))) (inner := [.slice A0 l0.length c0, .slice A1 l1.length c1]) (ok := (fun k_ => ((P0_ k_ ∨ P1_ k_) ∨ w.heap.size ≤ k_))) (okp := (fun k_ => ((P0_ k_ ∨ P1_ k_) ∨ w.heap.size ≤ k_))) ?hr ?hp (fun _ hk => hk) ((show ∀ k_, wc.heap.size ≤ k_ → (fun k_ => ((P0_ k_ ∨ P1_ k_) ∨ w.heap.size ≤ k_)) k_ from fun k_ hk => (.inr (Nat.le_trans (below_size q0_) hk))) _ (Nat.le_refl _)) (Below.refl _ _) (Nat.le_refl _) (by simp) ?_; (case hd => rfl); (case hg => rfl); (case hr => first | (go_simp; done) | (go_simp; rfl)); (case hp => exact (Reps.one (show Kd.FK (Kd.slice 27 k27) _ _ l0 [.slice A0 l0.length c0] from (Kd.FK_slice_mk (Kd.V_reads' (Kd.V_mono (ok' := (fun k_ => ((P0_ k_ ∨ P1_ k_) ∨ w.heap.size ≤ k_))) (HO_0.out) (fun k_ hk => hk))).2.1 (Kd.V_F (Kd.V_mono (ok' := (fun k_ => ((P0_ k_ ∨ P1_ k_) ∨ w.heap.size ≤ k_))) (HO_0.out) (fun k_ hk => hk))))) (Reps.one (show Kd.FK (Kd.slice 27 k27) _ _ l1 [.slice A1 l1.length c1] from (Kd.FK_slice_mk (Kd.V_reads' (Kd.V_mono (ok' := (fun k_ => ((P0_ k_ ∨ P1_ k_) ∨ w.heap.size ≤ k_))) (HO_1.out) (fun k_ hk => hk))).2.1 (Kd.V_F (Kd.V_mono (ok' := (fun k_ => ((P0_ k_ ∨ P1_ k_) ∨ w.heap.size ≤ k_))) (HO_1.out) (fun k_ hk => hk))))) (Reps.none _ _)))); intro v359 w23 ho24 hb hg_ hnew_; clear hg_ hnew_; (first | rw [← Ny358.out] at ho24 | (simp only [Int.reduceToNat] at ho24; rw [← Ny358.out] at ho24)); have n0_ := Aside0.mk (Kd.V_elder' q6_ (Kd.N_base ho24) hb); have n1_ := Aside0.mk (Kd.V_elder' q8_ (Kd.N_base ho24) hb); have n2_ := Aside0.mk (Kd.N_lower ho24 (below_size q0_)); have n3_ := Aside0.mk (below_step q0_ hb); clear HO_0; clear HO_1; clear HB; have HO_0 := n0_; have HO_1 := n1_; have HO360 := n2_; have HB := n3_; clear n0_ n1_ n2_ n3_; clear hb ho24; obtain ⟨Ao25, co25, eo25⟩ := Kd.N_slice HO360.out; subst eo25) | ((with_reducible refine gate_callee (f := 22) rfl ?_); refine goesL_ (some 27) rfl rfl Tryd.func22 (by kernel_rfl) rfl #[.slice Ao25 y358.length co25] rfl q2_ ?_; (with_reducible refine (bag_Sum.calls kj3 (fun k_ => ((P0_ k_ ∨ P1_ k_) ∨ w.heap.size ≤ k_)) _ _ y358 t361 t364 _ ?side1 A12.out q1_).mono ?_); (case side1 => exact Kd.N_V (HO360.out)); rintro e w26 ⟨v362, rfl, ho0, hb⟩; refine ⟨_, rfl, ?_⟩; have n0_ := Aside0.mk (Kd.V_elder' q6_ (Kd.N_base ho0) hb); have n1_ := Aside0.mk (Kd.V_elder' q8_ (Kd.N_base ho0) hb); have n2_ := Aside0.mk (Kd.N_elder' q15_ (Kd.N_base ho0) hb); have n3_ := Aside0.mk (Kd.N_lower (Kd.N_mono (ok' := fun k_ => ((P0_ k_ ∨ P1_ k_) ∨ w.heap.size ≤ k_)) ho0 (fun k_ hk_ => Or.elim hk_ (fun hs_ => hs_) (fun hn_ => (.inr (Nat.le_trans (below_size q0_) hn_))))) (below_size q0_)); have n4_ := Aside0.mk (below_step q0_ hb); clear HO_0; clear HO_1; clear HO360; clear HB; have HO_0 := n0_; have HO_1 := n1_; have HO360 := n2_; have HO363 := n3_; have HB := n4_; clear n0_ n1_ n2_ n3_ n4_; (try clear hb); (try clear hb2); (try clear hk); (try clear hi); (try clear ho0); obtain ⟨Ao27, co27, eo27⟩ := Kd.N_slice HO363.out; subst eo27) | ((with_reducible refine gate_callee (f := 14) rfl ?_); refine goesL_ (some 40) rfl rfl Tryd.func14 (by kernel_rfl) rfl #[.slice Ao27 t361.length co27, .slice A2 l2.length c2] rfl q2_ ?_; (with_reducible refine (bag_N.calls kj3 _ _ t361 _ _ l2 t366 _ ?side1 ?side2 ?side3 ?side4 A14.out q1_).mono ?_); (case side1 => repeat (first | exact (Kd.N_reads' HO363.out).2.2 | (with_reducible refine Kd.C_alloc ?_ _) | (with_reducible refine Kd.C_drewN ?_ _) | (with_reducible refine Kd.C_drew ?_))); (case side2 => exact (Kd.N_reads' HO363.out).2.1); (case side3 => repeat (first | exact (Kd.C_below HR2.out HB.out) | (with_reducible refine Kd.C_alloc ?_ _) | (with_reducible refine Kd.C_drewN ?_ _) | (with_reducible refine Kd.C_drew ?_))); (case side4 => exact HC2.out); rintro e w28 ⟨rfl, hb⟩; refine ⟨_, rfl, ?_⟩; have n0_ := Aside0.mk (Kd.V_below q6_ hb); have n1_ := Aside0.mk (Kd.V_below q8_ hb); have n2_ := Aside0.mk (Kd.N_below q15_ hb); have n3_ := Aside0.mk (Kd.N_below q22_ hb); have n4_ := Aside0.mk (below_step q0_ hb); clear HO_0; clear HO_1; clear HO360; clear HO363; clear HB; have HO_0 := n0_; have HO_1 := n1_; have HO360 := n2_; have HO363 := n3_; have HB := n4_; clear n0_ n1_ n2_ n3_ n4_; (try clear hb); (try clear hb2); (try clear hk); (try clear hi)) | ((with_reducible refine gate_callee (f := 14) rfl ?_); refine goesL_ (some 43) rfl rfl Tryd.func14 (by kernel_rfl) rfl #[.slice A0 l0.length c0, .slice A2 l2.length c2] rfl q2_ ?_; (with_reducible refine (bag_N.calls kj3 _ _ l0 _ _ l2 t367 _ ?side1 ?side2 ?side3 ?side4 A15.out q1_).mono ?_); (case side1 => repeat (first | exact (Kd.V_reads' HO_0.out).2.2 | (with_reducible refine Kd.C_alloc ?_ _) | (with_reducible refine Kd.C_drewN ?_ _) | (with_reducible refine Kd.C_drew ?_))); (case side2 => exact (Kd.V_reads' HO_0.out).2.1); (case side3 => repeat (first | exact (Kd.C_below HR2.out HB.out) | (with_reducible refine Kd.C_alloc ?_ _) | (with_reducible refine Kd.C_drewN ?_ _) | (with_reducible refine Kd.C_drew ?_))); (case side4 => exact HC2.out); rintro e w29 ⟨rfl, hb⟩; refine ⟨_, rfl, ?_⟩; have n0_ := Aside0.mk (Kd.V_below q6_ hb); have n1_ := Aside0.mk (Kd.V_below q8_ hb); have n2_ := Aside0.mk (Kd.N_below q15_ hb); have n3_ := Aside0.mk (Kd.N_below q22_ hb); have n4_ := Aside0.mk (below_step q0_ hb); clear HO_0; clear HO_1; clear HO360; clear HO363; clear HB; have HO_0 := n0_; have HO_1 := n1_; have HO360 := n2_; have HO363 := n3_; have HB := n4_; clear n0_ n1_ n2_ n3_ n4_; (try clear hb); (try clear hb2); (try clear hk); (try clear hi)) | ((with_reducible refine gate_callee (f := 14) rfl ?_); refine goesL_ (some 46) rfl rfl Tryd.func14 (by kernel_rfl) rfl #[.slice A1 l1.length c1, .slice A2 l2.length c2] rfl q2_ ?_; (with_reducible refine (bag_N.calls kj3 _ _ l1 _ _ l2 t368 _ ?side1 ?side2 ?side3 ?side4 A16.out q1_).mono ?_); (case side1 => repeat (first | exact (Kd.V_reads' HO_1.out).2.2 | (with_reducible refine Kd.C_alloc ?_ _) | (with_reducible refine Kd.C_drewN ?_ _) | (with_reducible refine Kd.C_drew ?_))); (case side2 => exact (Kd.V_reads' HO_1.out).2.1); (case side3 => repeat (first | exact (Kd.C_below HR2.out HB.out) | (with_reducible refine Kd.C_alloc ?_ _) | (with_reducible refine Kd.C_drewN ?_ _) | (with_reducible refine Kd.C_drew ?_))); (case side4 => exact HC2.out); rintro e w30 ⟨rfl, hb⟩; refine ⟨_, rfl, ?_⟩; have n0_ := Aside0.mk (Kd.V_below q6_ hb); have n1_ := Aside0.mk (Kd.V_below q8_ hb); have n2_ := Aside0.mk (Kd.N_below q15_ hb); have n3_ := Aside0.mk (Kd.N_below q22_ hb); have n4_ := Aside0.mk (below_step q0_ hb); clear HO_0; clear HO_1; clear HO360; clear HO363; clear HB; have HO_0 := n0_; have HO_1 := n1_; have HO360 := n2_; have HO363 := n3_; have HB := n4_; clear n0_ n1_ n2_ n3_ n4_; (try clear hb); (try clear hb2); (try clear hk); (try clear hi)) | (go_at_call 15; (with_reducible refine (bag_Size.calls kj3 _ _ t361 t369 _ ?side1 ?side2 A18.out q1_).mono ?_); (case side1 => repeat (first | exact (Kd.N_reads' HO363.out).2.2 | (with_reducible refine Kd.C_alloc ?_ _) | (with_reducible refine Kd.C_drewN ?_ _) | (with_reducible refine Kd.C_drew ?_))); (case side2 => exact (Kd.N_reads' HO363.out).2.1); rintro e w31 ⟨rfl, hb⟩; have n0_ := Aside0.mk (Kd.V_below q6_ hb); have n1_ := Aside0.mk (Kd.V_below q8_ hb); have n2_ := Aside0.mk (Kd.N_below q15_ hb); have n3_ := Aside0.mk (Kd.N_below q22_ hb); have n4_ := Aside0.mk (below_step q0_ hb); clear HO_0; clear HO_1; clear HO360; clear HO363; clear HB; have HO_0 := n0_; have HO_1 := n1_; have HO360 := n2_; have HO363 := n3_; have HB := n4_; clear n0_ n1_ n2_ n3_ n4_; (try clear hb); (try clear hb2); (try clear hk); (try clear hi)) | (go_at_call 15; (with_reducible refine (bag_Size.calls kj3 _ _ l0 t370 _ ?side1 ?side2 A19.out q1_).mono ?_); (case side1 => repeat (first | exact (Kd.V_reads' HO_0.out).2.2 | (with_reducible refine Kd.C_alloc ?_ _) | (with_reducible refine Kd.C_drewN ?_ _) | (with_reducible refine Kd.C_drew ?_))); (case side2 => exact (Kd.V_reads' HO_0.out).2.1); rintro e w32 ⟨rfl, hb⟩; have n0_ := Aside0.mk (Kd.V_below q6_ hb); have n1_ := Aside0.mk (Kd.V_below q8_ hb); have n2_ := Aside0.mk (Kd.N_below q15_ hb); have n3_ := Aside0.mk (Kd.N_below q22_ hb); have n4_ := Aside0.mk (below_step q0_ hb); clear HO_0; clear HO_1; clear HO360; clear HO363; clear HB; have HO_0 := n0_; have HO_1 := n1_; have HO360 := n2_; have HO363 := n3_; have HB := n4_; clear n0_ n1_ n2_ n3_ n4_; (try clear hb); (try clear hb2); (try clear hk); (try clear hi)) | (go_at_call 15; (with_reducible refine (bag_Size.calls kj3 _ _ l1 t371 _ ?side1 ?side2 A20.out q1_).mono ?_); (case side1 => repeat (first | exact (Kd.V_reads' HO_1.out).2.2 | (with_reducible refine Kd.C_alloc ?_ _) | (with_reducible refine Kd.C_drewN ?_ _) | (with_reducible refine Kd.C_drew ?_))); (case side2 => exact (Kd.V_reads' HO_1.out).2.1); rintro e w33 ⟨rfl, hb⟩; have n0_ := Aside0.mk (Kd.V_below q6_ hb); have n1_ := Aside0.mk (Kd.V_below q8_ hb); have n2_ := Aside0.mk (Kd.N_below q15_ hb); have n3_ := Aside0.mk (Kd.N_below q22_ hb); have n4_ := Aside0.mk (below_step q0_ hb); clear HO_0; clear HO_1; clear HO360; clear HO363; clear HB; have HO_0 := n0_; have HO_1 := n1_; have HO360 := n2_; have HO363 := n3_; have HB := n4_; clear n0_ n1_ n2_ n3_ n4_; (try clear hb); (try clear hb2); (try clear hk); (try clear hi)) | (go_at_call 10; (with_reducible refine (corollarylaw13_awake.calls kj3  t372 _ A22.out q1_).mono ?_); rintro e w34 ⟨rfl, hb⟩; have n0_ := Aside0.mk (Kd.V_below q6_ hb); have n1_ := Aside0.mk (Kd.V_below q8_ hb); have n2_ := Aside0.mk (Kd.N_below q15_ hb); have n3_ := Aside0.mk (Kd.N_below q22_ hb); have n4_ := Aside0.mk (below_step q0_ hb); clear HO_0; clear HO_1; clear HO360; clear HO363; clear HB; have HO_0 := n0_; have HO_1 := n1_; have HO360 := n2_; have HO363 := n3_; have HB := n4_; clear n0_ n1_ n2_ n3_ n4_; (try clear hb); (try clear hb2); (try clear hk); (try clear hi)))
       go_ret
       exact ⟨q4_, q0_⟩
      ·rw [if_neg c21] at H
       have c21b0 : (t369 == (wrap64 (t370 + t371))) = false := beq_eq_false_iff_ne.mpr c21
       have c21b1 : (t369 != (wrap64 (t370 + t371))) = true := bne_iff_ne.mpr c21
       obtain rfl := Option.some.inj H
       go_wp2_with (first | ((with_reducible refine gate_dst (N := 26) rfl ?_); (try (refine gate_guard (by rfl) ?_; dsimp only)); refine Kd.N_lit (Kd.slice 27 k27) _ 22 ?hg (N' := 26) ?hd (xs := ([l0, l1] : List (List (S27)))) (inner := [.slice A0 l0.length c0, .slice A1 l1.length c1]) (ok := (fun k_ => ((P0_ k_ ∨ P1_ k_) ∨ w.heap.size ≤ k_))) (okp := (fun k_ => ((P0_ k_ ∨ P1_ k_) ∨ w.heap.size ≤ k_))) ?hr ?hp (fun _ hk => hk) ((show ∀ k_, wc.heap.size ≤ k_ → (fun k_ => ((P0_ k_ ∨ P1_ k_) ∨ w.heap.size ≤ k_)) k_ from fun k_ hk => (.inr (Nat.le_trans (below_size q0_) hk))) _ (Nat.le_refl _)) (Below.refl _ _) (Nat.le_refl _) (by simp) ?_; (case hd => rfl); (case hg => rfl); (case hr => first | (go_simp; done) | (go_simp; rfl)); (case hp => exact (Reps.one (show Kd.FK (Kd.slice 27 k27) _ _ l0 [.slice A0 l0.length c0] from (Kd.FK_slice_mk (Kd.V_reads' (Kd.V_mono (ok' := (fun k_ => ((P0_ k_ ∨ P1_ k_) ∨ w.heap.size ≤ k_))) (HO_0.out) (fun k_ hk => hk))).2.1 (Kd.V_F (Kd.V_mono (ok' := (fun k_ => ((P0_ k_ ∨ P1_ k_) ∨ w.heap.size ≤ k_))) (HO_0.out) (fun k_ hk => hk))))) (Reps.one (show Kd.FK (Kd.slice 27 k27) _ _ l1 [.slice A1 l1.length c1] from (Kd.FK_slice_mk (Kd.V_reads' (Kd.V_mono (ok' := (fun k_ => ((P0_ k_ ∨ P1_ k_) ∨ w.heap.size ≤ k_))) (HO_1.out) (fun k_ hk => hk))).2.1 (Kd.V_F (Kd.V_mono (ok' := (fun k_ => ((P0_ k_ ∨ P1_ k_) ∨ w.heap.size ≤ k_))) (HO_1.out) (fun k_ hk => hk))))) (Reps.none _ _)))); intro v359 w35 ho36 hb hg_ hnew_; clear hg_ hnew_; (first | rw [← Ny358.out] at ho36 | (simp only [Int.reduceToNat] at ho36; rw [← Ny358.out] at ho36)); have n0_ := Aside0.mk (Kd.V_elder' q6_ (Kd.N_base ho36) hb); have n1_ := Aside0.mk (Kd.V_elder' q8_ (Kd.N_base ho36) hb); have n2_ := Aside0.mk (Kd.N_lower ho36 (below_size q0_)); have n3_ := Aside0.mk (below_step q0_ hb); clear HO_0; clear HO_1; clear HB; have HO_0 := n0_; have HO_1 := n1_; have HO360 := n2_; have HB := n3_; clear n0_ n1_ n2_ n3_; clear hb ho36; obtain ⟨Ao37, co37, eo37⟩ := Kd.N_slice HO360.out; subst eo37) | ((with_reducible refine gate_callee (f := 22) rfl ?_); refine goesL_ (some 27) rfl rfl Tryd.func22 (by kernel_rfl) rfl #[.slice Ao37 y358.length co37] rfl q2_ ?_; (with_reducible refine (bag_Sum.calls kj3 (fun k_ => ((P0_ k_ ∨ P1_ k_) ∨ w.heap.size ≤ k_)) _ _ y358 t361 t364 _ ?side1 A12.out q1_).mono ?_); (case side1 => exact Kd.N_V (HO360.out)); rintro e w38 ⟨v362, rfl, ho0, hb⟩; refine ⟨_, rfl, ?_⟩; have n0_ := Aside0.mk (Kd.V_elder' q6_ (Kd.N_base ho0) hb); have n1_ := Aside0.mk (Kd.V_elder' q8_ (Kd.N_base ho0) hb); have n2_ := Aside0.mk (Kd.N_elder' q15_ (Kd.N_base ho0) hb); have n3_ := Aside0.mk (Kd.N_lower (Kd.N_mono (ok' := fun k_ => ((P0_ k_ ∨ P1_ k_) ∨ w.heap.size ≤ k_)) ho0 (fun k_ hk_ => Or.elim hk_ (fun hs_ => hs_) (fun hn_ => (.inr (Nat.le_trans (below_size q0_) hn_))))) (below_size q0_)); have n4_ := Aside0.mk (below_step q0_ hb); clear HO_0; clear HO_1; clear HO360; clear HB; have HO_0 := n0_; have HO_1 := n1_; have HO360 := n2_; have HO363 := n3_; have HB := n4_; clear n0_ n1_ n2_ n3_ n4_; (try clear hb); (try clear hb2); (try clear hk); (try clear hi); (try clear ho0); obtain ⟨Ao39, co39, eo39⟩ := Kd.N_slice HO363.out; subst eo39) | ((with_reducible refine gate_callee (f := 14) rfl ?_); refine goesL_ (some 40) rfl rfl Tryd.func14 (by kernel_rfl) rfl #[.slice Ao39 t361.length co39, .slice A2 l2.length c2] rfl q2_ ?_; (with_reducible refine (bag_N.calls kj3 _ _ t361 _ _ l2 t366 _ ?side1 ?side2 ?side3 ?side4 A14.out q1_).mono ?_); (case side1 => repeat (first | exact (Kd.N_reads' HO363.out).2.2 | (with_reducible refine Kd.C_alloc ?_ _) | (with_reducible refine Kd.C_drewN ?_ _) | (with_reducible refine Kd.C_drew ?_))); (case side2 => exact (Kd.N_reads' HO363.out).2.1); (case side3 => repeat (first | exact (Kd.C_below HR2.out HB.out) | (with_reducible refine Kd.C_alloc ?_ _) | (with_reducible refine Kd.C_drewN ?_ _) | (with_reducible refine Kd.C_drew ?_))); (case side4 => exact HC2.out); rintro e w40 ⟨rfl, hb⟩; refine ⟨_, rfl, ?_⟩; have n0_ := Aside0.mk (Kd.V_below q6_ hb); have n1_ := Aside0.mk (Kd.V_below q8_ hb); have n2_ := Aside0.mk (Kd.N_below q15_ hb); have n3_ := Aside0.mk (Kd.N_below q22_ hb); have n4_ := Aside0.mk (below_step q0_ hb); clear HO_0; clear HO_1; clear HO360; clear HO363; clear HB; have HO_0 := n0_; have HO_1 := n1_; have HO360 := n2_; have HO363 := n3_; have HB := n4_; clear n0_ n1_ n2_ n3_ n4_; (try clear hb); (try clear hb2); (try clear hk); (try clear hi)) | ((with_reducible refine gate_callee (f := 14) rfl ?_); refine goesL_ (some 43) rfl rfl Tryd.func14 (by kernel_rfl) rfl #[.slice A0 l0.length c0, .slice A2 l2.length c2] rfl q2_ ?_; (with_reducible refine (bag_N.calls kj3 _ _ l0 _ _ l2 t367 _ ?side1 ?side2 ?side3 ?side4 A15.out q1_).mono ?_); (case side1 => repeat (first | exact (Kd.V_reads' HO_0.out).2.2 | (with_reducible refine Kd.C_alloc ?_ _) | (with_reducible refine Kd.C_drewN ?_ _) | (with_reducible refine Kd.C_drew ?_))); (case side2 => exact (Kd.V_reads' HO_0.out).2.1); (case side3 => repeat (first | exact (Kd.C_below HR2.out HB.out) | (with_reducible refine Kd.C_alloc ?_ _) | (with_reducible refine Kd.C_drewN ?_ _) | (with_reducible refine Kd.C_drew ?_))); (case side4 => exact HC2.out); rintro e w41 ⟨rfl, hb⟩; refine ⟨_, rfl, ?_⟩; have n0_ := Aside0.mk (Kd.V_below q6_ hb); have n1_ := Aside0.mk (Kd.V_below q8_ hb); have n2_ := Aside0.mk (Kd.N_below q15_ hb); have n3_ := Aside0.mk (Kd.N_below q22_ hb); have n4_ := Aside0.mk (below_step q0_ hb); clear HO_0; clear HO_1; clear HO360; clear HO363; clear HB; have HO_0 := n0_; have HO_1 := n1_; have HO360 := n2_; have HO363 := n3_; have HB := n4_; clear n0_ n1_ n2_ n3_ n4_; (try clear hb); (try clear hb2); (try clear hk); (try clear hi)) | ((with_reducible refine gate_callee (f := 14) rfl ?_); refine goesL_ (some 46) rfl rfl Tryd.func14 (by kernel_rfl) rfl #[.slice A1 l1.length c1, .slice A2 l2.length c2] rfl q2_ ?_; (with_reducible refine (bag_N.calls kj3 _ _ l1 _ _ l2 t368 _ ?side1 ?side2 ?side3 ?side4 A16.out q1_).mono ?_); (case side1 => repeat (first | exact (Kd.V_reads' HO_1.out).2.2 | (with_reducible refine Kd.C_alloc ?_ _) | (with_reducible refine Kd.C_drewN ?_ _) | (with_reducible refine Kd.C_drew ?_))); (case side2 => exact (Kd.V_reads' HO_1.out).2.1); (case side3 => repeat (first | exact (Kd.C_below HR2.out HB.out) | (with_reducible refine Kd.C_alloc ?_ _) | (with_reducible refine Kd.C_drewN ?_ _) | (with_reducible refine Kd.C_drew ?_))); (case side4 => exact HC2.out); rintro e w42 ⟨rfl, hb⟩; refine ⟨_, rfl, ?_⟩; have n0_ := Aside0.mk (Kd.V_below q6_ hb); have n1_ := Aside0.mk (Kd.V_below q8_ hb); have n2_ := Aside0.mk (Kd.N_below q15_ hb); have n3_ := Aside0.mk (Kd.N_below q22_ hb); have n4_ := Aside0.mk (below_step q0_ hb); clear HO_0; clear HO_1; clear HO360; clear HO363; clear HB; have HO_0 := n0_; have HO_1 := n1_; have HO360 := n2_; have HO363 := n3_; have HB := n4_; clear n0_ n1_ n2_ n3_ n4_; (try clear hb); (try clear hb2); (try clear hk); (try clear hi)) | (go_at_call 15; (with_reducible refine (bag_Size.calls kj3 _ _ t361 t369 _ ?side1 ?side2 A18.out q1_).mono ?_); (case side1 => repeat (first | exact (Kd.N_reads' HO363.out).2.2 | (with_reducible refine Kd.C_alloc ?_ _) | (with_reducible refine Kd.C_drewN ?_ _) | (with_reducible refine Kd.C_drew ?_))); (case side2 => exact (Kd.N_reads' HO363.out).2.1); rintro e w43 ⟨rfl, hb⟩; have n0_ := Aside0.mk (Kd.V_below q6_ hb); have n1_ := Aside0.mk (Kd.V_below q8_ hb); have n2_ := Aside0.mk (Kd.N_below q15_ hb); have n3_ := Aside0.mk (Kd.N_below q22_ hb); have n4_ := Aside0.mk (below_step q0_ hb); clear HO_0; clear HO_1; clear HO360; clear HO363; clear HB; have HO_0 := n0_; have HO_1 := n1_; have HO360 := n2_; have HO363 := n3_; have HB := n4_; clear n0_ n1_ n2_ n3_ n4_; (try clear hb); (try clear hb2); (try clear hk); (try clear hi)) | (go_at_call 15; (with_reducible refine (bag_Size.calls kj3 _ _ l0 t370 _ ?side1 ?side2 A19.out q1_).mono ?_); (case side1 => repeat (first | exact (Kd.V_reads' HO_0.out).2.2 | (with_reducible refine Kd.C_alloc ?_ _) | (with_reducible refine Kd.C_drewN ?_ _) | (with_reducible refine Kd.C_drew ?_))); (case side2 => exact (Kd.V_reads' HO_0.out).2.1); rintro e w44 ⟨rfl, hb⟩; have n0_ := Aside0.mk (Kd.V_below q6_ hb); have n1_ := Aside0.mk (Kd.V_below q8_ hb); have n2_ := Aside0.mk (Kd.N_below q15_ hb); have n3_ := Aside0.mk (Kd.N_below q22_ hb); have n4_ := Aside0.mk (below_step q0_ hb); clear HO_0; clear HO_1; clear HO360; clear HO363; clear HB; have HO_0 := n0_; have HO_1 := n1_; have HO360 := n2_; have HO363 := n3_; have HB := n4_; clear n0_ n1_ n2_ n3_ n4_; (try clear hb); (try clear hb2); (try clear hk); (try clear hi)) | (go_at_call 15; (with_reducible refine (bag_Size.calls kj3 _ _ l1 t371 _ ?side1 ?side2 A20.out q1_).mono ?_); (case side1 => repeat (first | exact (Kd.V_reads' HO_1.out).2.2 | (with_reducible refine Kd.C_alloc ?_ _) | (with_reducible refine Kd.C_drewN ?_ _) | (with_reducible refine Kd.C_drew ?_))); (case side2 => exact (Kd.V_reads' HO_1.out).2.1); rintro e w45 ⟨rfl, hb⟩; have n0_ := Aside0.mk (Kd.V_below q6_ hb); have n1_ := Aside0.mk (Kd.V_below q8_ hb); have n2_ := Aside0.mk (Kd.N_below q15_ hb); have n3_ := Aside0.mk (Kd.N_below q22_ hb); have n4_ := Aside0.mk (below_step q0_ hb); clear HO_0; clear HO_1; clear HO360; clear HO363; clear HB; have HO_0 := n0_; have HO_1 := n1_; have HO360 := n2_; have HO363 := n3_; have HB := n4_; clear n0_ n1_ n2_ n3_ n4_; (try clear hb); (try clear hb2); (try clear hk); (try clear hi)))
       go_ret
       exact ⟨q4_, q0_⟩
     ·rw [if_neg c17] at H
      have c17b0 : (t366 == (wrap64 (t367 + t368))) = false := beq_eq_false_iff_ne.mpr c17
      have c17b1 : (t366 != (wrap64 (t367 + t368))) = true := bne_iff_ne.mpr c17
      obtain rfl := Option.some.inj H
      go_wp2_with (first | ((with_reducible refine gate_dst (N := 26) rfl ?_); (try (refine gate_guard (by rfl) ?_; dsimp only)); refine Kd.N_lit (Kd.slice 27 k27) _ 22 ?hg (N' := 26) ?hd (xs := ([l0, l1] : List (List (S27)))) (inner := [.slice A0 l0.length c0, .slice A1 l1.length c1]) (ok := (fun k_ => ((P0_ k_ ∨ P1_ k_) ∨ w.heap.size ≤ k_))) (okp := (fun k_ => ((P0_ k_ ∨ P1_ k_) ∨ w.heap.size ≤ k_))) ?hr ?hp (fun _ hk => hk) ((show ∀ k_, wc.heap.size ≤ k_ → (fun k_ => ((P0_ k_ ∨ P1_ k_) ∨ w.heap.size ≤ k_)) k_ from fun k_ hk => (.inr (Nat.le_trans (below_size q0_) hk))) _ (Nat.le_refl _)) (Below.refl _ _) (Nat.le_refl _) (by simp) ?_; (case hd => rfl); (case hg => rfl); (case hr => first | (go_simp; done) | (go_simp; rfl)); (case hp => exact (Reps.one (show Kd.FK (Kd.slice 27 k27) _ _ l0 [.slice A0 l0.length c0] from (Kd.FK_slice_mk (Kd.V_reads' (Kd.V_mono (ok' := (fun k_ => ((P0_ k_ ∨ P1_ k_) ∨ w.heap.size ≤ k_))) (HO_0.out) (fun k_ hk => hk))).2.1 (Kd.V_F (Kd.V_mono (ok' := (fun k_ => ((P0_ k_ ∨ P1_ k_) ∨ w.heap.size ≤ k_))) (HO_0.out) (fun k_ hk => hk))))) (Reps.one (show Kd.FK (Kd.slice 27 k27) _ _ l1 [.slice A1 l1.length c1] from (Kd.FK_slice_mk (Kd.V_reads' (Kd.V_mono (ok' := (fun k_ => ((P0_ k_ ∨ P1_ k_) ∨ w.heap.size ≤ k_))) (HO_1.out) (fun k_ hk => hk))).2.1 (Kd.V_F (Kd.V_mono (ok' := (fun k_ => ((P0_ k_ ∨ P1_ k_) ∨ w.heap.size ≤ k_))) (HO_1.out) (fun k_ hk => hk))))) (Reps.none _ _)))); intro v359 w46 ho47 hb hg_ hnew_; clear hg_ hnew_; (first | rw [← Ny358.out] at ho47 | (simp only [Int.reduceToNat] at ho47; rw [← Ny358.out] at ho47)); have n0_ := Aside0.mk (Kd.V_elder' q6_ (Kd.N_base ho47) hb); have n1_ := Aside0.mk (Kd.V_elder' q8_ (Kd.N_base ho47) hb); have n2_ := Aside0.mk (Kd.N_lower ho47 (below_size q0_)); have n3_ := Aside0.mk (below_step q0_ hb); clear HO_0; clear HO_1; clear HB; have HO_0 := n0_; have HO_1 := n1_; have HO360 := n2_; have HB := n3_; clear n0_ n1_ n2_ n3_; clear hb ho47; obtain ⟨Ao48, co48, eo48⟩ := Kd.N_slice HO360.out; subst eo48) | ((with_reducible refine gate_callee (f := 22) rfl ?_); refine goesL_ (some 27) rfl rfl Tryd.func22 (by kernel_rfl) rfl #[.slice Ao48 y358.length co48] rfl q2_ ?_; (with_reducible refine (bag_Sum.calls kj3 (fun k_ => ((P0_ k_ ∨ P1_ k_) ∨ w.heap.size ≤ k_)) _ _ y358 t361 t364 _ ?side1 A12.out q1_).mono ?_); (case side1 => exact Kd.N_V (HO360.out)); rintro e w49 ⟨v362, rfl, ho0, hb⟩; refine ⟨_, rfl, ?_⟩; have n0_ := Aside0.mk (Kd.V_elder' q6_ (Kd.N_base ho0) hb); have n1_ := Aside0.mk (Kd.V_elder' q8_ (Kd.N_base ho0) hb); have n2_ := Aside0.mk (Kd.N_elder' q15_ (Kd.N_base ho0) hb); have n3_ := Aside0.mk (Kd.N_lower (Kd.N_mono (ok' := fun k_ => ((P0_ k_ ∨ P1_ k_) ∨ w.heap.size ≤ k_)) ho0 (fun k_ hk_ => Or.elim hk_ (fun hs_ => hs_) (fun hn_ => (.inr (Nat.le_trans (below_size q0_) hn_))))) (below_size q0_)); have n4_ := Aside0.mk (below_step q0_ hb); clear HO_0; clear HO_1; clear HO360; clear HB; have HO_0 := n0_; have HO_1 := n1_; have HO360 := n2_; have HO363 := n3_; have HB := n4_; clear n0_ n1_ n2_ n3_ n4_; (try clear hb); (try clear hb2); (try clear hk); (try clear hi); (try clear ho0); obtain ⟨Ao50, co50, eo50⟩ := Kd.N_slice HO363.out; subst eo50) | ((with_reducible refine gate_callee (f := 14) rfl ?_); refine goesL_ (some 40) rfl rfl Tryd.func14 (by kernel_rfl) rfl #[.slice Ao50 t361.length co50, .slice A2 l2.length c2] rfl q2_ ?_; (with_reducible refine (bag_N.calls kj3 _ _ t361 _ _ l2 t366 _ ?side1 ?side2 ?side3 ?side4 A14.out q1_).mono ?_); (case side1 => repeat (first | exact (Kd.N_reads' HO363.out).2.2 | (with_reducible refine Kd.C_alloc ?_ _) | (with_reducible refine Kd.C_drewN ?_ _) | (with_reducible refine Kd.C_drew ?_))); (case side2 => exact (Kd.N_reads' HO363.out).2.1); (case side3 => repeat (first | exact (Kd.C_below HR2.out HB.out) | (with_reducible refine Kd.C_alloc ?_ _) | (with_reducible refine Kd.C_drewN ?_ _) | (with_reducible refine Kd.C_drew ?_))); (case side4 => exact HC2.out); rintro e w51 ⟨rfl, hb⟩; refine ⟨_, rfl, ?_⟩; have n0_ := Aside0.mk (Kd.V_below q6_ hb); have n1_ := Aside0.mk (Kd.V_below q8_ hb); have n2_ := Aside0.mk (Kd.N_below q15_ hb); have n3_ := Aside0.mk (Kd.N_below q22_ hb); have n4_ := Aside0.mk (below_step q0_ hb); clear HO_0; clear HO_1; clear HO360; clear HO363; clear HB; have HO_0 := n0_; have HO_1 := n1_; have HO360 := n2_; have HO363 := n3_; have HB := n4_; clear n0_ n1_ n2_ n3_ n4_; (try clear hb); (try clear hb2); (try clear hk); (try clear hi)) | ((with_reducible refine gate_callee (f := 14) rfl ?_); refine goesL_ (some 43) rfl rfl Tryd.func14 (by kernel_rfl) rfl #[.slice A0 l0.length c0, .slice A2 l2.length c2] rfl q2_ ?_; (with_reducible refine (bag_N.calls kj3 _ _ l0 _ _ l2 t367 _ ?side1 ?side2 ?side3 ?side4 A15.out q1_).mono ?_); (case side1 => repeat (first | exact (Kd.V_reads' HO_0.out).2.2 | (with_reducible refine Kd.C_alloc ?_ _) | (with_reducible refine Kd.C_drewN ?_ _) | (with_reducible refine Kd.C_drew ?_))); (case side2 => exact (Kd.V_reads' HO_0.out).2.1); (case side3 => repeat (first | exact (Kd.C_below HR2.out HB.out) | (with_reducible refine Kd.C_alloc ?_ _) | (with_reducible refine Kd.C_drewN ?_ _) | (with_reducible refine Kd.C_drew ?_))); (case side4 => exact HC2.out); rintro e w52 ⟨rfl, hb⟩; refine ⟨_, rfl, ?_⟩; have n0_ := Aside0.mk (Kd.V_below q6_ hb); have n1_ := Aside0.mk (Kd.V_below q8_ hb); have n2_ := Aside0.mk (Kd.N_below q15_ hb); have n3_ := Aside0.mk (Kd.N_below q22_ hb); have n4_ := Aside0.mk (below_step q0_ hb); clear HO_0; clear HO_1; clear HO360; clear HO363; clear HB; have HO_0 := n0_; have HO_1 := n1_; have HO360 := n2_; have HO363 := n3_; have HB := n4_; clear n0_ n1_ n2_ n3_ n4_; (try clear hb); (try clear hb2); (try clear hk); (try clear hi)) | ((with_reducible refine gate_callee (f := 14) rfl ?_); refine goesL_ (some 46) rfl rfl Tryd.func14 (by kernel_rfl) rfl #[.slice A1 l1.length c1, .slice A2 l2.length c2] rfl q2_ ?_; (with_reducible refine (bag_N.calls kj3 _ _ l1 _ _ l2 t368 _ ?side1 ?side2 ?side3 ?side4 A16.out q1_).mono ?_); (case side1 => repeat (first | exact (Kd.V_reads' HO_1.out).2.2 | (with_reducible refine Kd.C_alloc ?_ _) | (with_reducible refine Kd.C_drewN ?_ _) | (with_reducible refine Kd.C_drew ?_))); (case side2 => exact (Kd.V_reads' HO_1.out).2.1); (case side3 => repeat (first | exact (Kd.C_below HR2.out HB.out) | (with_reducible refine Kd.C_alloc ?_ _) | (with_reducible refine Kd.C_drewN ?_ _) | (with_reducible refine Kd.C_drew ?_))); (case side4 => exact HC2.out); rintro e w53 ⟨rfl, hb⟩; refine ⟨_, rfl, ?_⟩; have n0_ := Aside0.mk (Kd.V_below q6_ hb); have n1_ := Aside0.mk (Kd.V_below q8_ hb); have n2_ := Aside0.mk (Kd.N_below q15_ hb); have n3_ := Aside0.mk (Kd.N_below q22_ hb); have n4_ := Aside0.mk (below_step q0_ hb); clear HO_0; clear HO_1; clear HO360; clear HO363; clear HB; have HO_0 := n0_; have HO_1 := n1_; have HO360 := n2_; have HO363 := n3_; have HB := n4_; clear n0_ n1_ n2_ n3_ n4_; (try clear hb); (try clear hb2); (try clear hk); (try clear hi)))
      go_ret
      exact ⟨q4_, q0_⟩
    ·rw [if_neg c13] at H
     have c13b0 : (t364 == 0) = false := beq_eq_false_iff_ne.mpr c13
     have c13b1 : (t364 != 0) = true := bne_iff_ne.mpr c13
     by_cases c54 : (t361.length : Int) = 0
     ·rw [if_pos c54] at H
      have c54b0 : ((t361.length : Int) == 0) = true := beq_iff_eq.mpr c54
      have c54b1 : ((t361.length : Int) != 0) = false := bne_eq_false_iff_eq.mpr c54
      clear c54
      replace H := Option.bind_eq_some_iff.mp H
      obtain ⟨t365, A550, H⟩ := H
      replace H : (some t365) = some r := H
      have A55 := Aside0.mk A550
      clear A550
      obtain rfl := Option.some.inj H
      go_wp2_with (first | ((with_reducible refine gate_dst (N := 26) rfl ?_); (try (refine gate_guard (by rfl) ?_; dsimp only)); refine Kd.N_lit (Kd.slice 27 k27) _ 22 ?hg (N' := 26) ?hd (xs := ([l0, l1] : List (List (S27)))) (inner := [.slice A0 l0.length c0, .slice A1 l1.length c1]) (ok := (fun k_ => ((P0_ k_ ∨ P1_ k_) ∨ w.heap.size ≤ k_))) (okp := (fun k_ => ((P0_ k_ ∨ P1_ k_) ∨ w.heap.size ≤ k_))) ?hr ?hp (fun _ hk => hk) ((show ∀ k_, wc.heap.size ≤ k_ → (fun k_ => ((P0_ k_ ∨ P1_ k_) ∨ w.heap.size ≤ k_)) k_ from fun k_ hk => (.inr (Nat.le_trans (below_size q0_) hk))) _ (Nat.le_refl _)) (Below.refl _ _) (Nat.le_refl _) (by simp) ?_; (case hd => rfl); (case hg => rfl); (case hr => first | (go_simp; done) | (go_simp; rfl)); (case hp => exact (Reps.one (show Kd.FK (Kd.slice 27 k27) _ _ l0 [.slice A0 l0.length c0] from (Kd.FK_slice_mk (Kd.V_reads' (Kd.V_mono (ok' := (fun k_ => ((P0_ k_ ∨ P1_ k_) ∨ w.heap.size ≤ k_))) (HO_0.out) (fun k_ hk => hk))).2.1 (Kd.V_F (Kd.V_mono (ok' := (fun k_ => ((P0_ k_ ∨ P1_ k_) ∨ w.heap.size ≤ k_))) (HO_0.out) (fun k_ hk => hk))))) (Reps.one (show Kd.FK (Kd.slice 27 k27) _ _ l1 [.slice A1 l1.length c1] from (Kd.FK_slice_mk (Kd.V_reads' (Kd.V_mono (ok' := (fun k_ => ((P0_ k_ ∨ P1_ k_) ∨ w.heap.size ≤ k_))) (HO_1.out) (fun k_ hk => hk))).2.1 (Kd.V_F (Kd.V_mono (ok' := (fun k_ => ((P0_ k_ ∨ P1_ k_) ∨ w.heap.size ≤ k_))) (HO_1.out) (fun k_ hk => hk))))) (Reps.none _ _)))); intro v359 w56 ho57 hb hg_ hnew_; clear hg_ hnew_; (first | rw [← Ny358.out] at ho57 | (simp only [Int.reduceToNat] at ho57; rw [← Ny358.out] at ho57)); have n0_ := Aside0.mk (Kd.V_elder' q6_ (Kd.N_base ho57) hb); have n1_ := Aside0.mk (Kd.V_elder' q8_ (Kd.N_base ho57) hb); have n2_ := Aside0.mk (Kd.N_lower ho57 (below_size q0_)); have n3_ := Aside0.mk (below_step q0_ hb); clear HO_0; clear HO_1; clear HB; have HO_0 := n0_; have HO_1 := n1_; have HO360 := n2_; have HB := n3_; clear n0_ n1_ n2_ n3_; clear hb ho57; obtain ⟨Ao58, co58, eo58⟩ := Kd.N_slice HO360.out; subst eo58) | ((with_reducible refine gate_callee (f := 22) rfl ?_); refine goesL_ (some 27) rfl rfl Tryd.func22 (by kernel_rfl) rfl #[.slice Ao58 y358.length co58] rfl q2_ ?_; (with_reducible refine (bag_Sum.calls kj3 (fun k_ => ((P0_ k_ ∨ P1_ k_) ∨ w.heap.size ≤ k_)) _ _ y358 t361 t364 _ ?side1 A12.out q1_).mono ?_); (case side1 => exact Kd.N_V (HO360.out)); rintro e w59 ⟨v362, rfl, ho0, hb⟩; refine ⟨_, rfl, ?_⟩; have n0_ := Aside0.mk (Kd.V_elder' q6_ (Kd.N_base ho0) hb); have n1_ := Aside0.mk (Kd.V_elder' q8_ (Kd.N_base ho0) hb); have n2_ := Aside0.mk (Kd.N_elder' q15_ (Kd.N_base ho0) hb); have n3_ := Aside0.mk (Kd.N_lower (Kd.N_mono (ok' := fun k_ => ((P0_ k_ ∨ P1_ k_) ∨ w.heap.size ≤ k_)) ho0 (fun k_ hk_ => Or.elim hk_ (fun hs_ => hs_) (fun hn_ => (.inr (Nat.le_trans (below_size q0_) hn_))))) (below_size q0_)); have n4_ := Aside0.mk (below_step q0_ hb); clear HO_0; clear HO_1; clear HO360; clear HB; have HO_0 := n0_; have HO_1 := n1_; have HO360 := n2_; have HO363 := n3_; have HB := n4_; clear n0_ n1_ n2_ n3_ n4_; (try clear hb); (try clear hb2); (try clear hk); (try clear hi); (try clear ho0); obtain ⟨Ao60, co60, eo60⟩ := Kd.N_slice HO363.out; subst eo60) | (go_at_call 10; (with_reducible refine (corollarylaw13_awake.calls kj3  t365 _ A55.out q1_).mono ?_); rintro e w61 ⟨rfl, hb⟩; have n0_ := Aside0.mk (Kd.V_below q6_ hb); have n1_ := Aside0.mk (Kd.V_below q8_ hb); have n2_ := Aside0.mk (Kd.N_below q15_ hb); have n3_ := Aside0.mk (Kd.N_below q22_ hb); have n4_ := Aside0.mk (below_step q0_ hb); clear HO_0; clear HO_1; clear HO360; clear HO363; clear HB; have HO_0 := n0_; have HO_1 := n1_; have HO360 := n2_; have HO363 := n3_; have HB := n4_; clear n0_ n1_ n2_ n3_ n4_; (try clear hb); (try clear hb2); (try clear hk); (try clear hi)))
      go_ret
      exact ⟨q4_, q0_⟩
     ·rw [if_neg c54] at H
      have c54b0 : ((t361.length : Int) == 0) = false := beq_eq_false_iff_ne.mpr c54
      have c54b1 : ((t361.length : Int) != 0) = true := bne_iff_ne.mpr c54
      have c54b2 : ¬ (t361 = []) := fun h_ => c54 (by rw [h_]; rfl)
      obtain rfl := Option.some.inj H
      go_wp2_with (first | ((with_reducible refine gate_dst (N := 26) rfl ?_); (try (refine gate_guard (by rfl) ?_; dsimp only)); refine Kd.N_lit (Kd.slice 27 k27) _ 22 ?hg (N' := 26) ?hd (xs := ([l0, l1] : List (List (S27)))) (inner := [.slice A0 l0.length c0, .slice A1 l1.length c1]) (ok := (fun k_ => ((P0_ k_ ∨ P1_ k_) ∨ w.heap.size ≤ k_))) (okp := (fun k_ => ((P0_ k_ ∨ P1_ k_) ∨ w.heap.size ≤ k_))) ?hr ?hp (fun _ hk => hk) ((show ∀ k_, wc.heap.size ≤ k_ → (fun k_ => ((P0_ k_ ∨ P1_ k_) ∨ w.heap.size ≤ k_)) k_ from fun k_ hk => (.inr (Nat.le_trans (below_size q0_) hk))) _ (Nat.le_refl _)) (Below.refl _ _) (Nat.le_refl _) (by simp) ?_; (case hd => rfl); (case hg => rfl); (case hr => first | (go_simp; done) | (go_simp; rfl)); (case hp => exact (Reps.one (show Kd.FK (Kd.slice 27 k27) _ _ l0 [.slice A0 l0.length c0] from (Kd.FK_slice_mk (Kd.V_reads' (Kd.V_mono (ok' := (fun k_ => ((P0_ k_ ∨ P1_ k_) ∨ w.heap.size ≤ k_))) (HO_0.out) (fun k_ hk => hk))).2.1 (Kd.V_F (Kd.V_mono (ok' := (fun k_ => ((P0_ k_ ∨ P1_ k_) ∨ w.heap.size ≤ k_))) (HO_0.out) (fun k_ hk => hk))))) (Reps.one (show Kd.FK (Kd.slice 27 k27) _ _ l1 [.slice A1 l1.length c1] from (Kd.FK_slice_mk (Kd.V_reads' (Kd.V_mono (ok' := (fun k_ => ((P0_ k_ ∨ P1_ k_) ∨ w.heap.size ≤ k_))) (HO_1.out) (fun k_ hk => hk))).2.1 (Kd.V_F (Kd.V_mono (ok' := (fun k_ => ((P0_ k_ ∨ P1_ k_) ∨ w.heap.size ≤ k_))) (HO_1.out) (fun k_ hk => hk))))) (Reps.none _ _)))); intro v359 w62 ho63 hb hg_ hnew_; clear hg_ hnew_; (first | rw [← Ny358.out] at ho63 | (simp only [Int.reduceToNat] at ho63; rw [← Ny358.out] at ho63)); have n0_ := Aside0.mk (Kd.V_elder' q6_ (Kd.N_base ho63) hb); have n1_ := Aside0.mk (Kd.V_elder' q8_ (Kd.N_base ho63) hb); have n2_ := Aside0.mk (Kd.N_lower ho63 (below_size q0_)); have n3_ := Aside0.mk (below_step q0_ hb); clear HO_0; clear HO_1; clear HB; have HO_0 := n0_; have HO_1 := n1_; have HO360 := n2_; have HB := n3_; clear n0_ n1_ n2_ n3_; clear hb ho63; obtain ⟨Ao64, co64, eo64⟩ := Kd.N_slice HO360.out; subst eo64) | ((with_reducible refine gate_callee (f := 22) rfl ?_); refine goesL_ (some 27) rfl rfl Tryd.func22 (by kernel_rfl) rfl #[.slice Ao64 y358.length co64] rfl q2_ ?_; (with_reducible refine (bag_Sum.calls kj3 (fun k_ => ((P0_ k_ ∨ P1_ k_) ∨ w.heap.size ≤ k_)) _ _ y358 t361 t364 _ ?side1 A12.out q1_).mono ?_); (case side1 => exact Kd.N_V (HO360.out)); rintro e w65 ⟨v362, rfl, ho0, hb⟩; refine ⟨_, rfl, ?_⟩; have n0_ := Aside0.mk (Kd.V_elder' q6_ (Kd.N_base ho0) hb); have n1_ := Aside0.mk (Kd.V_elder' q8_ (Kd.N_base ho0) hb); have n2_ := Aside0.mk (Kd.N_elder' q15_ (Kd.N_base ho0) hb); have n3_ := Aside0.mk (Kd.N_lower (Kd.N_mono (ok' := fun k_ => ((P0_ k_ ∨ P1_ k_) ∨ w.heap.size ≤ k_)) ho0 (fun k_ hk_ => Or.elim hk_ (fun hs_ => hs_) (fun hn_ => (.inr (Nat.le_trans (below_size q0_) hn_))))) (below_size q0_)); have n4_ := Aside0.mk (below_step q0_ hb); clear HO_0; clear HO_1; clear HO360; clear HB; have HO_0 := n0_; have HO_1 := n1_; have HO360 := n2_; have HO363 := n3_; have HB := n4_; clear n0_ n1_ n2_ n3_ n4_; (try clear hb); (try clear hb2); (try clear hk); (try clear hi); (try clear ho0); obtain ⟨Ao66, co66, eo66⟩ := Kd.N_slice HO363.out; subst eo66))
      go_ret
      exact ⟨q4_, q0_⟩

end Go.Proofs.YtckligjgnbgdiaaDoor.P
