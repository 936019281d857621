-- Written by our own program (wip/xprint) over the seat's translation. Lean checks it.
import Derived.Test.YtmdnnpahmoaicaaDoorPx0
import Derived.Test.YtmdnnpahmoaicaaDoorPx48
import Derived.Test.YtmdnnpahmoaicaaDoorPx78
namespace Go.Proofs.YtmdnnpahmoaicaaDoor.P
open Go.RowKit Go.Proofs.YtmdnnpahmoaicaaDoorW.PrintWords Go.Proofs.YtmdnnpahmoaicaaDoorW.PrintLast Go.Proofs.YtmdnnpahmoaicaaDoorW.PrintMore
attribute [local go_sem] max2_int min2_mn max_two min_two max_three min_three max_four min_four   -- for this text's walks alone
set_option linter.unusedVariables false
set_option linter.unusedSimpArgs false


/-! ### corollarylaw01_ValueRows: function 11 -/
def corollarylaw01_ValueRows.j0 : Nat → List (S23) → List (S23) → Bool → Option (Bool)
  | 0, _, _, _ => none
  | k + 1, x0, x1, x12 => if x12 = true then ((corollarylaw01_awake.f k).bind fun t393 => (some t393)) else ((value_Rows.f k x0 x1).bind fun t394 => ((corollaryref01_Rows.f k x0 x1).bind fun t395 => (if t394 = t395 then ((value_Rows.f k x1 x0).bind fun t396 => ((value_Rows.f k x0 x1).bind fun t397 => (if t396 = (wrap64 (-t397)) then ((corollarylaw01_awake.f k).bind fun t398 => (some t398)) else (some false)))) else (some false))))
def corollarylaw01_ValueRows.f (k : Nat) (l0 : List (S23)) (l1 : List (S23)) : Option (Bool) := if (l0.length : Int) > 100 then (corollarylaw01_ValueRows.j0 k l0 l1 true) else (corollarylaw01_ValueRows.j0 k l0 l1 (decide ((l1.length : Int) > 100)))
theorem corollarylaw01_ValueRows.mono_l : ∀ k, (∀ y0 y1 y2, LeO (corollarylaw01_ValueRows.j0 k y0 y1 y2) (corollarylaw01_ValueRows.j0 (k + 1) y0 y1 y2))
  | 0 => fun _ _ _ r h => by simp [corollarylaw01_ValueRows.j0] at h
  | k + 1 => by
    have ih0 := corollarylaw01_ValueRows.mono_l k
    · intro y0 y1 y2
      unfold corollarylaw01_ValueRows.j0
      repeat' first
      | (with_reducible exact ih0 _ _ _)
      | (with_reducible exact corollarylaw01_awake.mono _)
      | (with_reducible exact corollaryref01_Rows.mono _ _ _)
      | (with_reducible exact value_Rows.mono _ _ _)
      | (with_reducible exact LeO.refl _)
      | (with_reducible exact LeO.none _)
      | (with_reducible refine LeO.ite ?_ ?_)
      | (with_reducible refine LeO.bind ?_ (fun _ => ?_))
      | exact ih0 _ _ _
      | exact corollarylaw01_awake.mono _
      | exact corollaryref01_Rows.mono _ _ _
      | exact value_Rows.mono _ _ _
      | exact LeO.none _
      | refine LeO.ite ?_ ?_
      | refine LeO.bind ?_ (fun _ => ?_)
theorem corollarylaw01_ValueRows.mono : ∀ a0 a1 k, LeO (corollarylaw01_ValueRows.f k a0 a1) (corollarylaw01_ValueRows.f (k + 1) a0 a1) := by
  intro a0 a1 k
  have ih0 := corollarylaw01_ValueRows.mono_l k
  unfold corollarylaw01_ValueRows.f
  repeat' first
      | (with_reducible exact ih0 _ _ _)
      | (with_reducible exact corollarylaw01_awake.mono _)
      | (with_reducible exact corollaryref01_Rows.mono _ _ _)
      | (with_reducible exact value_Rows.mono _ _ _)
      | (with_reducible exact LeO.refl _)
      | (with_reducible exact LeO.none _)
      | (with_reducible refine LeO.ite ?_ ?_)
      | (with_reducible refine LeO.bind ?_ (fun _ => ?_))
      | exact ih0 _ _ _
      | exact corollarylaw01_awake.mono _
      | exact corollaryref01_Rows.mono _ _ _
      | exact value_Rows.mono _ _ _
      | exact LeO.none _
      | refine LeO.ite ?_ ?_
      | refine LeO.bind ?_ (fun _ => ?_)
set_option maxHeartbeats 8000000 in
set_option maxRecDepth 100000 in
theorem corollarylaw01_ValueRows.calls (k : Nat) (A0 : Option Addr) (c0 : Nat) (l0 : List (S23)) (A1 : Option Addr) (c1 : Nat) (l1 : List (S23)) (r : Bool) (w : World) (hr0 : Kd.C k23 w A0 l0.length l0) (hc0 : l0.length ≤ c0) (hr1 : Kd.C k23 w A1 l1.length l1) (hc1 : l1.length ≤ c1) (h : corollarylaw01_ValueRows.f k l0 l1 = some r) (hG : Glob w) :
    Calls Tryd.prog 11 #[.slice A0 l0.length c0, .slice A1 l1.length c1] w fun e w' => e = .returned (.bool r) ∧ Below w.heap.size w w' := by
  have HG := Aside0.mk hG
  clear hG
  have HR0 := Aside0.mk hr0
  have HC0 := Aside0.mk hc0
  clear hr0 hc0
  have HR1 := Aside0.mk hr1
  have HC1 := Aside0.mk hc1
  clear hr1 hc1
  have HB := Aside0.mk (Below.refl w.heap.size w)
  have H : (if (l0.length : Int) > 100 then (corollarylaw01_ValueRows.j0 k l0 l1 true) else (corollarylaw01_ValueRows.j0 k l0 l1 (decide ((l1.length : Int) > 100)))) = some r := h
  clear h
  have HC3 := Aside0.mk H
  clear H
  go_enter Tryd.func11, Tryd.ntmps11
  go_upto_region 1 with (fail)
  go_cut [12] (fun v12 wc => ∃ (kq : Nat) (x12_2 : Bool), v12 = .bool x12_2 ∧ Aside0 (corollarylaw01_ValueRows.j0 kq l0 l1 x12_2 = some r) ∧ Aside0 (kq ≤ k) ∧ Aside0 (Below w.heap.size w wc))
  case first =>
    have H := HC3.out
    clear HC3
    by_cases c4 : (l0.length : Int) > 100
    · rw [if_pos c4] at H
      have c4b0 : decide (100 < (l0.length : Int)) = true := decide_eq_true c4
      have c4b1 : decide (100 < l0.length) = true := decide_eq_true (by omega)
      clear c4
      (first | rw [c4b0] | (simp only [i64_w, i32_w]; rw [c4b0]) | skip)
      have H' := Aside0.mk H
      clear H
      go_wp2
      go_meet
      case rel => exact ⟨_, (true), q5_, H', ⟨by first | omega | exact Nat.le_refl _⟩, ⟨q0_⟩⟩
    · rw [if_neg c4] at H
      have c4b0 : decide (100 < (l0.length : Int)) = false := decide_eq_false c4
      have c4b1 : decide (100 < l0.length) = false := decide_eq_false (by omega)
      clear c4
      (first | rw [c4b0] | (simp only [i64_w, i32_w]; rw [c4b0]) | skip)
      have H' := Aside0.mk H
      clear H
      go_wp2
      go_meet
      case rel => exact ⟨_, (decide ((l1.length : Int) > 100)), q5_, H', ⟨by first | omega | exact Nat.le_refl _⟩, ⟨q0_⟩⟩
  case rest =>
    clear HC3
    try clear c1
    try clear p2
    try clear c4
    try clear c4b0
    try clear c4b1
    obtain ⟨kq, x12_2, rfl, HA, HJ2, HB⟩ := hcut
    cases kq with
    | zero => exact absurd HA.out (by simp [corollarylaw01_ValueRows.j0])
    | succ kj2 =>
      have H := HA.out
      clear HA
      simp only [corollarylaw01_ValueRows.j0] at H
      by_cases c5 : x12_2 = true
      · subst c5
        replace H := ifT_ H
        replace H := Option.bind_eq_some_iff.mp H
        obtain ⟨t393, A60, H⟩ := H
        replace H : (some t393) = some r := H
        have A6 := Aside0.mk A60
        clear A60
        obtain rfl := Option.some.inj H
        go_wp2_with (first | ((with_reducible refine gate_callee (f := 14) rfl ?_); refine goesL_ (some 13) rfl rfl Tryd.func14 (by kernel_rfl) rfl #[] rfl q2_ ?_; (with_reducible refine (corollarylaw01_awake.calls kj2  t393 _ A6.out q35_).mono ?_); rintro e w7 ⟨rfl, hb⟩; refine ⟨_, rfl, ?_⟩; have n0_ := Aside0.mk (below_step q0_ hb); clear HB; have HB := n0_; clear n0_; (try clear hb); (try clear hb2); (try clear hk); (try clear hi)))
        go_ret
        exact ⟨q3_, q0_⟩
      · replace c5 := Bool.eq_false_iff.mpr c5
        subst c5
        replace H := ifF_ H
        replace H := Option.bind_eq_some_iff.mp H
        obtain ⟨t394, A80, H⟩ := H
        replace H : ((corollaryref01_Rows.f kj2 l0 l1).bind fun t395 => (if t394 = t395 then ((value_Rows.f kj2 l1 l0).bind fun t396 => ((value_Rows.f kj2 l0 l1).bind fun t397 => (if t396 = (wrap64 (-t397)) then ((corollarylaw01_awake.f kj2).bind fun t398 => (some t398)) else (some false)))) else (some false))) = some r := H
        have A8 := Aside0.mk A80
        clear A80
        replace H := Option.bind_eq_some_iff.mp H
        obtain ⟨t395, A90, H⟩ := H
        replace H : (if t394 = t395 then ((value_Rows.f kj2 l1 l0).bind fun t396 => ((value_Rows.f kj2 l0 l1).bind fun t397 => (if t396 = (wrap64 (-t397)) then ((corollarylaw01_awake.f kj2).bind fun t398 => (some t398)) else (some false)))) else (some false)) = some r := H
        have A9 := Aside0.mk A90
        clear A90
        by_cases c10 : t394 = t395
        · rw [if_pos c10] at H
          have c10b0 : (t394 == t395) = true := beq_iff_eq.mpr c10
          have c10b1 : (t394 != t395) = false := bne_eq_false_iff_eq.mpr c10
          clear c10
          replace H := Option.bind_eq_some_iff.mp H
          obtain ⟨t396, A110, H⟩ := H
          replace H : ((value_Rows.f kj2 l0 l1).bind fun t397 => (if t396 = (wrap64 (-t397)) then ((corollarylaw01_awake.f kj2).bind fun t398 => (some t398)) else (some false))) = some r := H
          have A11 := Aside0.mk A110
          clear A110
          replace H := Option.bind_eq_some_iff.mp H
          obtain ⟨t397, A120, H⟩ := H
          replace H : (if t396 = (wrap64 (-t397)) then ((corollarylaw01_awake.f kj2).bind fun t398 => (some t398)) else (some false)) = some r := H
          have A12 := Aside0.mk A120
          clear A120
          by_cases c13 : t396 = (wrap64 (-t397))
          · rw [if_pos c13] at H
            have c13b0 : (t396 == (wrap64 (-t397))) = true := beq_iff_eq.mpr c13
            have c13b1 : (t396 != (wrap64 (-t397))) = false := bne_eq_false_iff_eq.mpr c13
            clear c13
            replace H := Option.bind_eq_some_iff.mp H
            obtain ⟨t398, A140, H⟩ := H
            replace H : (some t398) = some r := H
            have A14 := Aside0.mk A140
            clear A140
            obtain rfl := Option.some.inj H
            go_wp2_with (first | ((with_reducible refine gate_callee (f := 27) rfl ?_); refine goesL_ (some 16) rfl rfl Tryd.func27 (by kernel_rfl) rfl #[.slice A0 l0.length c0, .slice A1 l1.length c1] rfl q2_ ?_; (with_reducible refine (value_Rows.calls kj2 _ _ l0 _ _ l1 t394 _ ?side1 ?side2 ?side3 ?side4 A8.out).mono ?_); (case side1 => repeat (first | exact (Kd.C_below HR0.out HB.out) | (with_reducible refine Kd.C_alloc ?_ _) | (with_reducible refine Kd.C_drewN ?_ _) | (with_reducible refine Kd.C_drew ?_))); (case side2 => exact HC0.out); (case side3 => repeat (first | exact (Kd.C_below HR1.out HB.out) | (with_reducible refine Kd.C_alloc ?_ _) | (with_reducible refine Kd.C_drewN ?_ _) | (with_reducible refine Kd.C_drew ?_))); (case side4 => exact HC1.out); rintro e w15 ⟨rfl, hb⟩; refine ⟨_, rfl, ?_⟩; have n0_ := Aside0.mk (below_step q0_ hb); clear HB; have HB := n0_; clear n0_; (try clear hb); (try clear hb2); (try clear hk); (try clear hi)) | ((with_reducible refine gate_callee (f := 28) rfl ?_); refine goesL_ (some 19) rfl rfl Tryd.func28 (by kernel_rfl) rfl #[.slice A0 l0.length c0, .slice A1 l1.length c1] rfl q2_ ?_; (with_reducible refine (corollaryref01_Rows.calls kj2 _ _ l0 _ _ l1 t395 _ ?side1 ?side2 ?side3 ?side4 A9.out).mono ?_); (case side1 => repeat (first | exact (Kd.C_below HR0.out HB.out) | (with_reducible refine Kd.C_alloc ?_ _) | (with_reducible refine Kd.C_drewN ?_ _) | (with_reducible refine Kd.C_drew ?_))); (case side2 => exact HC0.out); (case side3 => repeat (first | exact (Kd.C_below HR1.out HB.out) | (with_reducible refine Kd.C_alloc ?_ _) | (with_reducible refine Kd.C_drewN ?_ _) | (with_reducible refine Kd.C_drew ?_))); (case side4 => exact HC1.out); rintro e w16 ⟨rfl, hb⟩; refine ⟨_, rfl, ?_⟩; have n0_ := Aside0.mk (below_step q0_ hb); clear HB; have HB := n0_; clear n0_; (try clear hb); (try clear hb2); (try clear hk); (try clear hi)) | (go_at_call 27; (with_reducible refine (value_Rows.calls kj2 _ _ l1 _ _ l0 t396 _ ?side1 ?side2 ?side3 ?side4 A11.out).mono ?_); (case side1 => repeat (first | exact (Kd.C_below HR1.out HB.out) | (with_reducible refine Kd.C_alloc ?_ _) | (with_reducible refine Kd.C_drewN ?_ _) | (with_reducible refine Kd.C_drew ?_))); (case side2 => exact HC1.out); (case side3 => repeat (first | exact (Kd.C_below HR0.out HB.out) | (with_reducible refine Kd.C_alloc ?_ _) | (with_reducible refine Kd.C_drewN ?_ _) | (with_reducible refine Kd.C_drew ?_))); (case side4 => exact HC0.out); rintro e w17 ⟨rfl, hb⟩; have n0_ := Aside0.mk (below_step q0_ hb); clear HB; have HB := n0_; clear n0_; (try clear hb); (try clear hb2); (try clear hk); (try clear hi)) | (go_at_call 27; (with_reducible refine (value_Rows.calls kj2 _ _ l0 _ _ l1 t397 _ ?side1 ?side2 ?side3 ?side4 A12.out).mono ?_); (case side1 => repeat (first | exact (Kd.C_below HR0.out HB.out) | (with_reducible refine Kd.C_alloc ?_ _) | (with_reducible refine Kd.C_drewN ?_ _) | (with_reducible refine Kd.C_drew ?_))); (case side2 => exact HC0.out); (case side3 => repeat (first | exact (Kd.C_below HR1.out HB.out) | (with_reducible refine Kd.C_alloc ?_ _) | (with_reducible refine Kd.C_drewN ?_ _) | (with_reducible refine Kd.C_drew ?_))); (case side4 => exact HC1.out); rintro e w18 ⟨rfl, hb⟩; have n0_ := Aside0.mk (below_step q0_ hb); clear HB; have HB := n0_; clear n0_; (try clear hb); (try clear hb2); (try clear hk); (try clear hi)) | (go_at_call 14; (with_reducible refine (corollarylaw01_awake.calls kj2  t398 _ A14.out q35_).mono ?_); rintro e w19 ⟨rfl, hb⟩; have n0_ := Aside0.mk (below_step q0_ hb); clear HB; have HB := n0_; clear n0_; (try clear hb); (try clear hb2); (try clear hk); (try clear hi)))
            go_ret
            exact ⟨q3_, q0_⟩
          · rw [if_neg c13] at H
            have c13b0 : (t396 == (wrap64 (-t397))) = false := beq_eq_false_iff_ne.mpr c13
            have c13b1 : (t396 != (wrap64 (-t397))) = true := bne_iff_ne.mpr c13
            obtain rfl := Option.some.inj H
            go_wp2_with (first | ((with_reducible refine gate_callee (f := 27) rfl ?_); refine goesL_ (some 16) rfl rfl Tryd.func27 (by kernel_rfl) rfl #[.slice A0 l0.length c0, .slice A1 l1.length c1] rfl q2_ ?_; (with_reducible refine (value_Rows.calls kj2 _ _ l0 _ _ l1 t394 _ ?side1 ?side2 ?side3 ?side4 A8.out).mono ?_); (case side1 => repeat (first | exact (Kd.C_below HR0.out HB.out) | (with_reducible refine Kd.C_alloc ?_ _) | (with_reducible refine Kd.C_drewN ?_ _) | (with_reducible refine Kd.C_drew ?_))); (case side2 => exact HC0.out); (case side3 => repeat (first | exact (Kd.C_below HR1.out HB.out) | (with_reducible refine Kd.C_alloc ?_ _) | (with_reducible refine Kd.C_drewN ?_ _) | (with_reducible refine Kd.C_drew ?_))); (case side4 => exact HC1.out); rintro e w20 ⟨rfl, hb⟩; refine ⟨_, rfl, ?_⟩; have n0_ := Aside0.mk (below_step q0_ hb); clear HB; have HB := n0_; clear n0_; (try clear hb); (try clear hb2); (try clear hk); (try clear hi)) | ((with_reducible refine gate_callee (f := 28) rfl ?_); refine goesL_ (some 19) rfl rfl Tryd.func28 (by kernel_rfl) rfl #[.slice A0 l0.length c0, .slice A1 l1.length c1] rfl q2_ ?_; (with_reducible refine (corollaryref01_Rows.calls kj2 _ _ l0 _ _ l1 t395 _ ?side1 ?side2 ?side3 ?side4 A9.out).mono ?_); (case side1 => repeat (first | exact (Kd.C_below HR0.out HB.out) | (with_reducible refine Kd.C_alloc ?_ _) | (with_reducible refine Kd.C_drewN ?_ _) | (with_reducible refine Kd.C_drew ?_))); (case side2 => exact HC0.out); (case side3 => repeat (first | exact (Kd.C_below HR1.out HB.out) | (with_reducible refine Kd.C_alloc ?_ _) | (with_reducible refine Kd.C_drewN ?_ _) | (with_reducible refine Kd.C_drew ?_))); (case side4 => exact HC1.out); rintro e w21 ⟨rfl, hb⟩; refine ⟨_, rfl, ?_⟩; have n0_ := Aside0.mk (below_step q0_ hb); clear HB; have HB := n0_; clear n0_; (try clear hb); (try clear hb2); (try clear hk); (try clear hi)) | (go_at_call 27; (with_reducible refine (value_Rows.calls kj2 _ _ l1 _ _ l0 t396 _ ?side1 ?side2 ?side3 ?side4 A11.out).mono ?_); (case side1 => repeat (first | exact (Kd.C_below HR1.out HB.out) | (with_reducible refine Kd.C_alloc ?_ _) | (with_reducible refine Kd.C_drewN ?_ _) | (with_reducible refine Kd.C_drew ?_))); (case side2 => exact HC1.out); (case side3 => repeat (first | exact (Kd.C_below HR0.out HB.out) | (with_reducible refine Kd.C_alloc ?_ _) | (with_reducible refine Kd.C_drewN ?_ _) | (with_reducible refine Kd.C_drew ?_))); (case side4 => exact HC0.out); rintro e w22 ⟨rfl, hb⟩; have n0_ := Aside0.mk (below_step q0_ hb); clear HB; have HB := n0_; clear n0_; (try clear hb); (try clear hb2); (try clear hk); (try clear hi)) | (go_at_call 27; (with_reducible refine (value_Rows.calls kj2 _ _ l0 _ _ l1 t397 _ ?side1 ?side2 ?side3 ?side4 A12.out).mono ?_); (case side1 => repeat (first | exact (Kd.C_below HR0.out HB.out) | (with_reducible refine Kd.C_alloc ?_ _) | (with_reducible refine Kd.C_drewN ?_ _) | (with_reducible refine Kd.C_drew ?_))); (case side2 => exact HC0.out); (case side3 => repeat (first | exact (Kd.C_below HR1.out HB.out) | (with_reducible refine Kd.C_alloc ?_ _) | (with_reducible refine Kd.C_drewN ?_ _) | (with_reducible refine Kd.C_drew ?_))); (case side4 => exact HC1.out); rintro e w23 ⟨rfl, hb⟩; have n0_ := Aside0.mk (below_step q0_ hb); clear HB; have HB := n0_; clear n0_; (try clear hb); (try clear hb2); (try clear hk); (try clear hi)))
            go_ret
            exact ⟨q3_, q0_⟩
        · rw [if_neg c10] at H
          have c10b0 : (t394 == t395) = false := beq_eq_false_iff_ne.mpr c10
          have c10b1 : (t394 != t395) = true := bne_iff_ne.mpr c10
          obtain rfl := Option.some.inj H
          go_wp2_with (first | ((with_reducible refine gate_callee (f := 27) rfl ?_); refine goesL_ (some 16) rfl rfl Tryd.func27 (by kernel_rfl) rfl #[.slice A0 l0.length c0, .slice A1 l1.length c1] rfl q2_ ?_; (with_reducible refine (value_Rows.calls kj2 _ _ l0 _ _ l1 t394 _ ?side1 ?side2 ?side3 ?side4 A8.out).mono ?_); (case side1 => repeat (first | exact (Kd.C_below HR0.out HB.out) | (with_reducible refine Kd.C_alloc ?_ _) | (with_reducible refine Kd.C_drewN ?_ _) | (with_reducible refine Kd.C_drew ?_))); (case side2 => exact HC0.out); (case side3 => repeat (first | exact (Kd.C_below HR1.out HB.out) | (with_reducible refine Kd.C_alloc ?_ _) | (with_reducible refine Kd.C_drewN ?_ _) | (with_reducible refine Kd.C_drew ?_))); (case side4 => exact HC1.out); rintro e w24 ⟨rfl, hb⟩; refine ⟨_, rfl, ?_⟩; have n0_ := Aside0.mk (below_step q0_ hb); clear HB; have HB := n0_; clear n0_; (try clear hb); (try clear hb2); (try clear hk); (try clear hi)) | ((with_reducible refine gate_callee (f := 28) rfl ?_); refine goesL_ (some 19) rfl rfl Tryd.func28 (by kernel_rfl) rfl #[.slice A0 l0.length c0, .slice A1 l1.length c1] rfl q2_ ?_; (with_reducible refine (corollaryref01_Rows.calls kj2 _ _ l0 _ _ l1 t395 _ ?side1 ?side2 ?side3 ?side4 A9.out).mono ?_); (case side1 => repeat (first | exact (Kd.C_below HR0.out HB.out) | (with_reducible refine Kd.C_alloc ?_ _) | (with_reducible refine Kd.C_drewN ?_ _) | (with_reducible refine Kd.C_drew ?_))); (case side2 => exact HC0.out); (case side3 => repeat (first | exact (Kd.C_below HR1.out HB.out) | (with_reducible refine Kd.C_alloc ?_ _) | (with_reducible refine Kd.C_drewN ?_ _) | (with_reducible refine Kd.C_drew ?_))); (case side4 => exact HC1.out); rintro e w25 ⟨rfl, hb⟩; refine ⟨_, rfl, ?_⟩; have n0_ := Aside0.mk (below_step q0_ hb); clear HB; have HB := n0_; clear n0_; (try clear hb); (try clear hb2); (try clear hk); (try clear hi)))
          go_ret
          exact ⟨q3_, q0_⟩

end Go.Proofs.YtmdnnpahmoaicaaDoor.P
