-- Written by our own program (wip/xprint) over the seat's translation. Lean checks it.
import Derived.Test.YtjcjndpfihchnaaDoorPx0
namespace Go.Proofs.YtjcjndpfihchnaaDoor.P
open Go.RowKit Go.Proofs.YtjcjndpfihchnaaDoorW.PrintWords Go.Proofs.YtjcjndpfihchnaaDoorW.PrintLast Go.Proofs.YtjcjndpfihchnaaDoorW.PrintMore
attribute [local go_sem] max2_int min2_int max_two min_two max_three min_three max_four min_four   -- for this text's walks alone
set_option linter.unusedVariables false
set_option linter.unusedSimpArgs false


/-! ### corollaryref01_Times: function 38 -/
mutual
def corollaryref01_Times.j0 : Nat → Int → Int → Bool → Option (Int × Bool)
  | 0, _, _, _ => none
  | k + 1, x0, x1, x14 => if x14 = true then (some (0, true)) else (if x1 < 0 then (if x0 < 0 then (if x0 > 0 then (corollaryref01_Times.j1 k (wrap64 (-x0)) x1 (-9223372036854775807) false) else (corollaryref01_Times.j1 k x0 x1 (-9223372036854775807) false)) else (if x0 > 0 then (corollaryref01_Times.j4 k (wrap64 (-x0)) x1 (-9223372036854775808) true) else (corollaryref01_Times.j4 k x0 x1 (-9223372036854775808) true))) else (if x0 < 0 then (if x0 > 0 then (corollaryref01_Times.j7 k (wrap64 (-x0)) x1 (-9223372036854775808) true) else (corollaryref01_Times.j7 k x0 x1 (-9223372036854775808) true)) else (if x0 > 0 then (corollaryref01_Times.j10 k (wrap64 (-x0)) x1 (-9223372036854775807) false) else (corollaryref01_Times.j10 k x0 x1 (-9223372036854775807) false))))
def corollaryref01_Times.j1 : Nat → Int → Int → Int → Bool → Option (Int × Bool)
  | 0, _, _, _, _ => none
  | k + 1, x0, x1, x6, x7 => if x1 > 0 then (corollaryref01_Times.j2 k x0 (wrap64 (-x1)) x6 x7) else (corollaryref01_Times.j2 k x0 x1 x6 x7)
def corollaryref01_Times.j2 : Nat → Int → Int → Int → Bool → Option (Int × Bool)
  | 0, _, _, _, _ => none
  | k + 1, x0, x1, x6, x7 => if x1 = (-1) then (if x0 < x6 then (corollaryref01_Times.j3 k x0 x1 x7 true) else (if x1 < (-1) then (if x1 = 0 then (none) else (corollaryref01_Times.j3 k x0 x1 x7 (decide (x0 < (wrap64 (-(wrap64 (Int.tdiv x6 x1)))))))) else (corollaryref01_Times.j3 k x0 x1 x7 false))) else (if x1 < (-1) then (if x1 = 0 then (none) else (corollaryref01_Times.j3 k x0 x1 x7 (decide (x0 < (wrap64 (-(wrap64 (Int.tdiv x6 x1)))))))) else (corollaryref01_Times.j3 k x0 x1 x7 false))
def corollaryref01_Times.j3 : Nat → Int → Int → Bool → Bool → Option (Int × Bool)
  | 0, _, _, _, _ => none
  | k + 1, x0, x1, x7, x47 => if x47 = true then (some (0, false)) else (if x1 > (-9223372036854775808) then (if x7 = true then (some (wrap64 (x0 * (wrap64 (-x1))), true)) else (some (wrap64 (-(wrap64 (x0 * (wrap64 (-x1))))), true))) else (if x7 = true then (some (x1, true)) else (some (wrap64 (-x1), true))))
def corollaryref01_Times.j4 : Nat → Int → Int → Int → Bool → Option (Int × Bool)
  | 0, _, _, _, _ => none
  | k + 1, x0, x1, x6, x7 => if x1 > 0 then (corollaryref01_Times.j5 k x0 (wrap64 (-x1)) x6 x7) else (corollaryref01_Times.j5 k x0 x1 x6 x7)
def corollaryref01_Times.j5 : Nat → Int → Int → Int → Bool → Option (Int × Bool)
  | 0, _, _, _, _ => none
  | k + 1, x0, x1, x6, x7 => if x1 = (-1) then (if x0 < x6 then (corollaryref01_Times.j6 k x0 x1 x7 true) else (if x1 < (-1) then (if x1 = 0 then (none) else (corollaryref01_Times.j6 k x0 x1 x7 (decide (x0 < (wrap64 (-(wrap64 (Int.tdiv x6 x1)))))))) else (corollaryref01_Times.j6 k x0 x1 x7 false))) else (if x1 < (-1) then (if x1 = 0 then (none) else (corollaryref01_Times.j6 k x0 x1 x7 (decide (x0 < (wrap64 (-(wrap64 (Int.tdiv x6 x1)))))))) else (corollaryref01_Times.j6 k x0 x1 x7 false))
def corollaryref01_Times.j6 : Nat → Int → Int → Bool → Bool → Option (Int × Bool)
  | 0, _, _, _, _ => none
  | k + 1, x0, x1, x7, x47 => if x47 = true then (some (0, false)) else (if x1 > (-9223372036854775808) then (if x7 = true then (some (wrap64 (x0 * (wrap64 (-x1))), true)) else (some (wrap64 (-(wrap64 (x0 * (wrap64 (-x1))))), true))) else (if x7 = true then (some (x1, true)) else (some (wrap64 (-x1), true))))
def corollaryref01_Times.j7 : Nat → Int → Int → Int → Bool → Option (Int × Bool)
  | 0, _, _, _, _ => none
  | k + 1, x0, x1, x6, x7 => if x1 > 0 then (corollaryref01_Times.j8 k x0 (wrap64 (-x1)) x6 x7) else (corollaryref01_Times.j8 k x0 x1 x6 x7)
def corollaryref01_Times.j8 : Nat → Int → Int → Int → Bool → Option (Int × Bool)
  | 0, _, _, _, _ => none
  | k + 1, x0, x1, x6, x7 => if x1 = (-1) then (if x0 < x6 then (corollaryref01_Times.j9 k x0 x1 x7 true) else (if x1 < (-1) then (if x1 = 0 then (none) else (corollaryref01_Times.j9 k x0 x1 x7 (decide (x0 < (wrap64 (-(wrap64 (Int.tdiv x6 x1)))))))) else (corollaryref01_Times.j9 k x0 x1 x7 false))) else (if x1 < (-1) then (if x1 = 0 then (none) else (corollaryref01_Times.j9 k x0 x1 x7 (decide (x0 < (wrap64 (-(wrap64 (Int.tdiv x6 x1)))))))) else (corollaryref01_Times.j9 k x0 x1 x7 false))
def corollaryref01_Times.j9 : Nat → Int → Int → Bool → Bool → Option (Int × Bool)
  | 0, _, _, _, _ => none
  | k + 1, x0, x1, x7, x47 => if x47 = true then (some (0, false)) else (if x1 > (-9223372036854775808) then (if x7 = true then (some (wrap64 (x0 * (wrap64 (-x1))), true)) else (some (wrap64 (-(wrap64 (x0 * (wrap64 (-x1))))), true))) else (if x7 = true then (some (x1, true)) else (some (wrap64 (-x1), true))))
def corollaryref01_Times.j10 : Nat → Int → Int → Int → Bool → Option (Int × Bool)
  | 0, _, _, _, _ => none
  | k + 1, x0, x1, x6, x7 => if x1 > 0 then (corollaryref01_Times.j11 k x0 (wrap64 (-x1)) x6 x7) else (corollaryref01_Times.j11 k x0 x1 x6 x7)
def corollaryref01_Times.j11 : Nat → Int → Int → Int → Bool → Option (Int × Bool)
  | 0, _, _, _, _ => none
  | k + 1, x0, x1, x6, x7 => if x1 = (-1) then (if x0 < x6 then (corollaryref01_Times.j12 k x0 x1 x7 true) else (if x1 < (-1) then (if x1 = 0 then (none) else (corollaryref01_Times.j12 k x0 x1 x7 (decide (x0 < (wrap64 (-(wrap64 (Int.tdiv x6 x1)))))))) else (corollaryref01_Times.j12 k x0 x1 x7 false))) else (if x1 < (-1) then (if x1 = 0 then (none) else (corollaryref01_Times.j12 k x0 x1 x7 (decide (x0 < (wrap64 (-(wrap64 (Int.tdiv x6 x1)))))))) else (corollaryref01_Times.j12 k x0 x1 x7 false))
def corollaryref01_Times.j12 : Nat → Int → Int → Bool → Bool → Option (Int × Bool)
  | 0, _, _, _, _ => none
  | k + 1, x0, x1, x7, x47 => if x47 = true then (some (0, false)) else (if x1 > (-9223372036854775808) then (if x7 = true then (some (wrap64 (x0 * (wrap64 (-x1))), true)) else (some (wrap64 (-(wrap64 (x0 * (wrap64 (-x1))))), true))) else (if x7 = true then (some (x1, true)) else (some (wrap64 (-x1), true))))
end
def corollaryref01_Times.f (k : Nat) (a0 : Int) (a1 : Int) : Option (Int × Bool) := if a0 = 0 then (corollaryref01_Times.j0 k a0 a1 true) else (corollaryref01_Times.j0 k a0 a1 (a1 == 0))
theorem corollaryref01_Times.mono_l : ∀ k, (∀ y0 y1 y2, LeO (corollaryref01_Times.j0 k y0 y1 y2) (corollaryref01_Times.j0 (k + 1) y0 y1 y2)) ∧ (∀ y0 y1 y2 y3, LeO (corollaryref01_Times.j1 k y0 y1 y2 y3) (corollaryref01_Times.j1 (k + 1) y0 y1 y2 y3)) ∧ (∀ y0 y1 y2 y3, LeO (corollaryref01_Times.j2 k y0 y1 y2 y3) (corollaryref01_Times.j2 (k + 1) y0 y1 y2 y3)) ∧ (∀ y0 y1 y2 y3, LeO (corollaryref01_Times.j3 k y0 y1 y2 y3) (corollaryref01_Times.j3 (k + 1) y0 y1 y2 y3)) ∧ (∀ y0 y1 y2 y3, LeO (corollaryref01_Times.j4 k y0 y1 y2 y3) (corollaryref01_Times.j4 (k + 1) y0 y1 y2 y3)) ∧ (∀ y0 y1 y2 y3, LeO (corollaryref01_Times.j5 k y0 y1 y2 y3) (corollaryref01_Times.j5 (k + 1) y0 y1 y2 y3)) ∧ (∀ y0 y1 y2 y3, LeO (corollaryref01_Times.j6 k y0 y1 y2 y3) (corollaryref01_Times.j6 (k + 1) y0 y1 y2 y3)) ∧ (∀ y0 y1 y2 y3, LeO (corollaryref01_Times.j7 k y0 y1 y2 y3) (corollaryref01_Times.j7 (k + 1) y0 y1 y2 y3)) ∧ (∀ y0 y1 y2 y3, LeO (corollaryref01_Times.j8 k y0 y1 y2 y3) (corollaryref01_Times.j8 (k + 1) y0 y1 y2 y3)) ∧ (∀ y0 y1 y2 y3, LeO (corollaryref01_Times.j9 k y0 y1 y2 y3) (corollaryref01_Times.j9 (k + 1) y0 y1 y2 y3)) ∧ (∀ y0 y1 y2 y3, LeO (corollaryref01_Times.j10 k y0 y1 y2 y3) (corollaryref01_Times.j10 (k + 1) y0 y1 y2 y3)) ∧ (∀ y0 y1 y2 y3, LeO (corollaryref01_Times.j11 k y0 y1 y2 y3) (corollaryref01_Times.j11 (k + 1) y0 y1 y2 y3)) ∧ (∀ y0 y1 y2 y3, LeO (corollaryref01_Times.j12 k y0 y1 y2 y3) (corollaryref01_Times.j12 (k + 1) y0 y1 y2 y3))
  | 0 => ⟨fun _ _ _ r h => by simp [corollaryref01_Times.j0] at h, fun _ _ _ _ r h => by simp [corollaryref01_Times.j1] at h, fun _ _ _ _ r h => by simp [corollaryref01_Times.j2] at h, fun _ _ _ _ r h => by simp [corollaryref01_Times.j3] at h, fun _ _ _ _ r h => by simp [corollaryref01_Times.j4] at h, fun _ _ _ _ r h => by simp [corollaryref01_Times.j5] at h, fun _ _ _ _ r h => by simp [corollaryref01_Times.j6] at h, fun _ _ _ _ r h => by simp [corollaryref01_Times.j7] at h, fun _ _ _ _ r h => by simp [corollaryref01_Times.j8] at h, fun _ _ _ _ r h => by simp [corollaryref01_Times.j9] at h, fun _ _ _ _ r h => by simp [corollaryref01_Times.j10] at h, fun _ _ _ _ r h => by simp [corollaryref01_Times.j11] at h, fun _ _ _ _ r h => by simp [corollaryref01_Times.j12] at h⟩
  | k + 1 => by
    obtain ⟨ih0, ih1, ih2, ih3, ih4, ih5, ih6, ih7, ih8, ih9, ih10, ih11, ih12⟩ := corollaryref01_Times.mono_l k
    refine ⟨?_, ?_, ?_, ?_, ?_, ?_, ?_, ?_, ?_, ?_, ?_, ?_, ?_⟩
    all_goals intros
    all_goals first
      | unfold corollaryref01_Times.j0
      | unfold corollaryref01_Times.j1
      | unfold corollaryref01_Times.j2
      | unfold corollaryref01_Times.j3
      | unfold corollaryref01_Times.j4
      | unfold corollaryref01_Times.j5
      | unfold corollaryref01_Times.j6
      | unfold corollaryref01_Times.j7
      | unfold corollaryref01_Times.j8
      | unfold corollaryref01_Times.j9
      | unfold corollaryref01_Times.j10
      | unfold corollaryref01_Times.j11
      | unfold corollaryref01_Times.j12
    all_goals repeat' first
      | (with_reducible exact ih0 _ _ _)
      | (with_reducible exact ih1 _ _ _ _)
      | (with_reducible exact ih2 _ _ _ _)
      | (with_reducible exact ih3 _ _ _ _)
      | (with_reducible exact ih4 _ _ _ _)
      | (with_reducible exact ih5 _ _ _ _)
      | (with_reducible exact ih6 _ _ _ _)
      | (with_reducible exact ih7 _ _ _ _)
      | (with_reducible exact ih8 _ _ _ _)
      | (with_reducible exact ih9 _ _ _ _)
      | (with_reducible exact ih10 _ _ _ _)
      | (with_reducible exact ih11 _ _ _ _)
      | (with_reducible exact ih12 _ _ _ _)
      | (with_reducible exact LeO.refl _)
      | (with_reducible exact LeO.none _)
      | (with_reducible refine LeO.ite ?_ ?_)
      | (with_reducible refine LeO.bind ?_ (fun _ => ?_))
      | exact ih0 _ _ _
      | exact ih1 _ _ _ _
      | exact ih2 _ _ _ _
      | exact ih3 _ _ _ _
      | exact ih4 _ _ _ _
      | exact ih5 _ _ _ _
      | exact ih6 _ _ _ _
      | exact ih7 _ _ _ _
      | exact ih8 _ _ _ _
      | exact ih9 _ _ _ _
      | exact ih10 _ _ _ _
      | exact ih11 _ _ _ _
      | exact ih12 _ _ _ _
      | exact LeO.none _
      | refine LeO.ite ?_ ?_
      | refine LeO.bind ?_ (fun _ => ?_)
theorem corollaryref01_Times.mono : ∀ a0 a1 k, LeO (corollaryref01_Times.f k a0 a1) (corollaryref01_Times.f (k + 1) a0 a1) := by
  intro a0 a1 k
  obtain ⟨ih0, ih1, ih2, ih3, ih4, ih5, ih6, ih7, ih8, ih9, ih10, ih11, ih12⟩ := corollaryref01_Times.mono_l k
  unfold corollaryref01_Times.f
  repeat' first
      | (with_reducible exact ih0 _ _ _)
      | (with_reducible exact ih1 _ _ _ _)
      | (with_reducible exact ih2 _ _ _ _)
      | (with_reducible exact ih3 _ _ _ _)
      | (with_reducible exact ih4 _ _ _ _)
      | (with_reducible exact ih5 _ _ _ _)
      | (with_reducible exact ih6 _ _ _ _)
      | (with_reducible exact ih7 _ _ _ _)
      | (with_reducible exact ih8 _ _ _ _)
      | (with_reducible exact ih9 _ _ _ _)
      | (with_reducible exact ih10 _ _ _ _)
      | (with_reducible exact ih11 _ _ _ _)
      | (with_reducible exact ih12 _ _ _ _)
      | (with_reducible exact LeO.refl _)
      | (with_reducible exact LeO.none _)
      | (with_reducible refine LeO.ite ?_ ?_)
      | (with_reducible refine LeO.bind ?_ (fun _ => ?_))
      | exact ih0 _ _ _
      | exact ih1 _ _ _ _
      | exact ih2 _ _ _ _
      | exact ih3 _ _ _ _
      | exact ih4 _ _ _ _
      | exact ih5 _ _ _ _
      | exact ih6 _ _ _ _
      | exact ih7 _ _ _ _
      | exact ih8 _ _ _ _
      | exact ih9 _ _ _ _
      | exact ih10 _ _ _ _
      | exact ih11 _ _ _ _
      | exact ih12 _ _ _ _
      | exact LeO.none _
      | refine LeO.ite ?_ ?_
      | refine LeO.bind ?_ (fun _ => ?_)
set_option maxHeartbeats 8000000 in
set_option maxRecDepth 100000 in
theorem corollaryref01_Times.calls (k : Nat) (a0 : Int) (a1 : Int) (r1 : Int) (r2 : Bool) (w : World) (h : corollaryref01_Times.f k a0 a1 = some (r1, r2)) :
    Calls Tryd.prog 38 #[.int .i64 a0, .int .i64 a1] w fun e w' => e = .returned (.tuple #[.int .i64 r1, .bool r2]) ∧ Drawn0 w w' := by
  have H : (if a0 = 0 then (corollaryref01_Times.j0 k a0 a1 true) else (corollaryref01_Times.j0 k a0 a1 (a1 == 0))) = some (r1, r2) := h
  clear h
  have HC3 := Aside0.mk H
  clear H
  go_enter Tryd.func38, Tryd.ntmps38
  go_upto_region 1 with (fail)
  go_cut [14] (fun v14 wc => ∃ (kq : Nat) (x14_2 : Bool), v14 = .bool x14_2 ∧ Aside0 (corollaryref01_Times.j0 kq a0 a1 x14_2 = some (r1, r2)) ∧ Aside0 (kq ≤ k) ∧ Drawn0 w wc)
  case first =>
    have H := HC3.out
    clear HC3
    by_cases c4 : a0 = 0
    · rw [if_pos c4] at H
      have c4b0 : (a0 == 0) = true := beq_iff_eq.mpr c4
      have c4b1 : (a0 != 0) = false := bne_eq_false_iff_eq.mpr c4
      clear c4
      (first | rw [c4b0] | (simp only [i64_w, i32_w]; rw [c4b0]) | skip)
      have H' := Aside0.mk H
      clear H
      go_wp2
      go_meet
      case rel => exact ⟨_, (true), q3_, H', ⟨by first | omega | exact Nat.le_refl _⟩, q6_⟩
    · rw [if_neg c4] at H
      have c4b0 : (a0 == 0) = false := beq_eq_false_iff_ne.mpr c4
      have c4b1 : (a0 != 0) = true := bne_iff_ne.mpr c4
      (first | rw [c4b0] | (simp only [i64_w, i32_w]; rw [c4b0]) | skip)
      have H' := Aside0.mk H
      clear H
      go_wp2
      go_meet
      case rel => exact ⟨_, ((a1 == 0)), q3_, H', ⟨by first | omega | exact Nat.le_refl _⟩, q6_⟩
  case rest =>
    clear HC3
    try clear p2
    try clear c3
    try clear c4
    try clear c4b0
    try clear c4b1
    obtain ⟨kq, x14_2, rfl, HA, HJ2, ⟨mc2, rfl⟩⟩ := hcut
    cases kq with
    | zero => exact absurd HA.out (by simp [corollaryref01_Times.j0])
    | succ kj2 =>
      have H := HA.out
      clear HA
      simp only [corollaryref01_Times.j0] at H
      by_cases c5 : x14_2 = true
      · subst c5
        replace H := ifT_ H
        simp only [Option.some.injEq, Prod.mk.injEq] at H
        obtain ⟨rfl, rfl⟩ := H
        go_wp2
        go_ret2
        exact ⟨q3_, q6_⟩
      · replace c5 := Bool.eq_false_iff.mpr c5
        subst c5
        replace H := ifF_ H
        by_cases c6 : a1 < 0
        · rw [if_pos c6] at H
          have c6b0 : decide (a1 < 0) = true := decide_eq_true c6
          clear c6
          by_cases c7 : a0 < 0
          · rw [if_pos c7] at H
            have c7b0 : decide (a0 < 0) = true := decide_eq_true c7
            clear c7
            have HC8 := Aside0.mk H
            clear H
            go_upto_if 22 with (fail)
            go_cut [0] (fun v0 wc => ∃ (kq : Nat) (x0_7 : Int), v0 = .int .i64 x0_7 ∧ Aside0 (corollaryref01_Times.j1 kq x0_7 a1 (-9223372036854775807) false = some (r1, r2)) ∧ Aside0 (kq ≤ kj2) ∧ Drawn0 w wc)
            case first =>
              have H := HC8.out
              clear HC8
              by_cases c9 : a0 > 0
              · rw [if_pos c9] at H
                have c9b0 : decide (0 < a0) = true := decide_eq_true c9
                clear c9
                (first | rw [c9b0] | (simp only [i64_w, i32_w]; rw [c9b0]) | skip)
                have H' := Aside0.mk H
                clear H
                go_wp2
                go_meet
                case rel => exact ⟨_, (wrap64 (-a0)), q3_, H', ⟨q42_⟩, q6_⟩
              · rw [if_neg c9] at H
                have c9b0 : decide (0 < a0) = false := decide_eq_false c9
                clear c9
                (first | rw [c9b0] | (simp only [i64_w, i32_w]; rw [c9b0]) | skip)
                have H' := Aside0.mk H
                clear H
                go_wp2
                go_meet
                case rel => exact ⟨_, (a0), q3_, H', ⟨q42_⟩, q6_⟩
            case rest =>
              clear HC8
              try clear c2
              try clear p2
              try clear c3
              try clear c4
              try clear c4b0
              try clear c4b1
              try clear c5
              try clear c6
              try clear c6b0
              try clear p6
              try clear c7
              try clear c7b0
              try clear c9
              try clear c9b0
              try clear p2
              obtain ⟨kq, x0_7, rfl, HA, HJ7, ⟨mc7, rfl⟩⟩ := hcut
              cases kq with
              | zero => exact absurd HA.out (by simp [corollaryref01_Times.j1])
              | succ kj7 =>
                have H := HA.out
                clear HA
                simp only [corollaryref01_Times.j1] at H
                have HC10 := Aside0.mk H
                clear H
                go_upto_if 26 with (fail)
                go_cut [1] (fun v1 wc => ∃ (kq : Nat) (x1_9 : Int), v1 = .int .i64 x1_9 ∧ Aside0 (corollaryref01_Times.j2 kq x0_7 x1_9 (-9223372036854775807) false = some (r1, r2)) ∧ Aside0 (kq ≤ kj7) ∧ Drawn0 w wc)
                case first =>
                  have H := HC10.out
                  clear HC10
                  by_cases c11 : a1 > 0
                  · rw [if_pos c11] at H
                    have c11b0 : decide (0 < a1) = true := decide_eq_true c11
                    clear c11
                    (first | rw [c11b0] | (simp only [i64_w, i32_w]; rw [c11b0]) | skip)
                    have H' := Aside0.mk H
                    clear H
                    go_wp2
                    go_meet
                    case rel => exact ⟨_, (wrap64 (-a1)), q3_, H', ⟨by have := HJ2.out; have := HJ7.out; first | omega | exact Nat.le_refl _⟩, q6_⟩
                  · rw [if_neg c11] at H
                    have c11b0 : decide (0 < a1) = false := decide_eq_false c11
                    clear c11
                    (first | rw [c11b0] | (simp only [i64_w, i32_w]; rw [c11b0]) | skip)
                    have H' := Aside0.mk H
                    clear H
                    go_wp2
                    go_meet
                    case rel => exact ⟨_, (a1), q3_, H', ⟨by have := HJ2.out; have := HJ7.out; first | omega | exact Nat.le_refl _⟩, q6_⟩
                case rest =>
                  clear HC10
                  try clear c1
                  try clear c2
                  try clear p2
                  try clear c3
                  try clear c4
                  try clear c4b0
                  try clear c4b1
                  try clear c5
                  try clear c6
                  try clear c6b0
                  try clear p6
                  try clear c7
                  try clear c7b0
                  try clear c9
                  try clear c9b0
                  try clear c11
                  try clear c11b0
                  try clear p2
                  try clear p6
                  obtain ⟨kq, x1_9, rfl, HA, HJ9, ⟨mc9, rfl⟩⟩ := hcut
                  cases kq with
                  | zero => exact absurd HA.out (by simp [corollaryref01_Times.j2])
                  | succ kj9 =>
                    have H := HA.out
                    clear HA
                    simp only [corollaryref01_Times.j2] at H
                    have HC12 := Aside0.mk H
                    clear H
                    go_upto_region 10 with (fail)
                    go_cut [47] (fun v47 wc => ∃ (kq : Nat) (x47_11 : Bool), v47 = .bool x47_11 ∧ Aside0 (corollaryref01_Times.j3 kq x0_7 x1_9 false x47_11 = some (r1, r2)) ∧ Aside0 (kq ≤ kj9) ∧ Drawn0 w wc)
                    case first =>
                      have H := HC12.out
                      clear HC12
                      by_cases c13 : x1_9 = (-1)
                      · rw [if_pos c13] at H
                        have c13b0 : (x1_9 == (-1)) = true := beq_iff_eq.mpr c13
                        have c13b1 : (x1_9 != (-1)) = false := bne_eq_false_iff_eq.mpr c13
                        clear c13
                        (first | rw [c13b0] | (simp only [i64_w, i32_w]; rw [c13b0]) | skip)
                        by_cases c14 : x0_7 < (-9223372036854775807)
                        · rw [if_pos c14] at H
                          have c14b0 : decide (x0_7 < (-9223372036854775807)) = true := decide_eq_true c14
                          clear c14
                          have H' := Aside0.mk H
                          clear H
                          go_wp2
                          go_meet
                          case rel => exact ⟨_, (true), q3_, H', ⟨q55_⟩, q6_⟩
                        · rw [if_neg c14] at H
                          have c14b0 : decide (x0_7 < (-9223372036854775807)) = false := decide_eq_false c14
                          clear c14
                          by_cases c15 : x1_9 < (-1)
                          · rw [if_pos c15] at H
                            have c15b0 : decide (x1_9 < (-1)) = true := decide_eq_true c15
                            clear c15
                            by_cases c16 : x1_9 = 0
                            · rw [if_pos c16] at H
                              exact absurd H (by simp)
                            · rw [if_neg c16] at H
                              have c16b0 : (x1_9 == 0) = false := beq_eq_false_iff_ne.mpr c16
                              have c16b1 : (x1_9 != 0) = true := bne_iff_ne.mpr c16
                              have H' := Aside0.mk H
                              clear H
                              go_wp2
                              go_meet
                              case rel => exact ⟨_, (decide (x0_7 < (wrap64 (-(wrap64 (Int.tdiv (-9223372036854775807) x1_9)))))), q3_, H', ⟨q55_⟩, q6_⟩
                          · rw [if_neg c15] at H
                            have c15b0 : decide (x1_9 < (-1)) = false := decide_eq_false c15
                            clear c15
                            have H' := Aside0.mk H
                            clear H
                            go_wp2
                            go_meet
                            case rel => exact ⟨_, (false), q3_, H', ⟨q55_⟩, q6_⟩
                      · rw [if_neg c13] at H
                        have c13b0 : (x1_9 == (-1)) = false := beq_eq_false_iff_ne.mpr c13
                        have c13b1 : (x1_9 != (-1)) = true := bne_iff_ne.mpr c13
                        (first | rw [c13b0] | (simp only [i64_w, i32_w]; rw [c13b0]) | skip)
                        by_cases c17 : x1_9 < (-1)
                        · rw [if_pos c17] at H
                          have c17b0 : decide (x1_9 < (-1)) = true := decide_eq_true c17
                          clear c17
                          by_cases c18 : x1_9 = 0
                          · rw [if_pos c18] at H
                            exact absurd H (by simp)
                          · rw [if_neg c18] at H
                            have c18b0 : (x1_9 == 0) = false := beq_eq_false_iff_ne.mpr c18
                            have c18b1 : (x1_9 != 0) = true := bne_iff_ne.mpr c18
                            have H' := Aside0.mk H
                            clear H
                            go_wp2
                            go_meet
                            case rel => exact ⟨_, (decide (x0_7 < (wrap64 (-(wrap64 (Int.tdiv (-9223372036854775807) x1_9)))))), q3_, H', ⟨q55_⟩, q6_⟩
                        · rw [if_neg c17] at H
                          have c17b0 : decide (x1_9 < (-1)) = false := decide_eq_false c17
                          clear c17
                          have H' := Aside0.mk H
                          clear H
                          go_wp2
                          go_meet
                          case rel => exact ⟨_, (false), q3_, H', ⟨q55_⟩, q6_⟩
                    case rest =>
                      clear HC12
                      try clear c1
                      try clear c2
                      try clear p2
                      try clear c3
                      try clear c4
                      try clear c4b0
                      try clear c4b1
                      try clear c5
                      try clear c6
                      try clear c6b0
                      try clear p6
                      try clear c7
                      try clear c7b0
                      try clear c9
                      try clear c9b0
                      try clear c11
                      try clear c11b0
                      try clear c13
                      try clear c13b0
                      try clear c13b1
                      try clear c14
                      try clear c14b0
                      try clear c15
                      try clear c15b0
                      try clear c16
                      try clear c16b0
                      try clear c16b1
                      try clear c17
                      try clear c17b0
                      try clear c18
                      try clear c18b0
                      try clear c18b1
                      try clear p2
                      try clear p6
                      obtain ⟨kq, x47_11, rfl, HA, HJ11, ⟨mc11, rfl⟩⟩ := hcut
                      cases kq with
                      | zero => exact absurd HA.out (by simp [corollaryref01_Times.j3])
                      | succ kj11 =>
                        have H := HA.out
                        clear HA
                        simp only [corollaryref01_Times.j3] at H
                        by_cases c19 : x47_11 = true
                        · subst c19
                          replace H := ifT_ H
                          simp only [Option.some.injEq, Prod.mk.injEq] at H
                          obtain ⟨rfl, rfl⟩ := H
                          go_wp2
                          go_ret2
                          exact ⟨q3_, q6_⟩
                        · replace c19 := Bool.eq_false_iff.mpr c19
                          subst c19
                          replace H := ifF_ H
                          by_cases c20 : x1_9 > (-9223372036854775808)
                          · rw [if_pos c20] at H
                            have c20b0 : decide ((-9223372036854775808) < x1_9) = true := decide_eq_true c20
                            clear c20
                            by_cases c21 : false = true
                            · exact absurd c21 (by decide)
                            · replace c21 := Bool.eq_false_iff.mpr c21
                              clear c21
                              (first | (rw [if_neg not_false] at H) | (replace H := ifF_ H) | skip)
                              simp only [Option.some.injEq, Prod.mk.injEq] at H
                              obtain ⟨rfl, rfl⟩ := H
                              go_wp2
                              go_ret2
                              exact ⟨q3_, q6_⟩
                          · rw [if_neg c20] at H
                            have c20b0 : decide ((-9223372036854775808) < x1_9) = false := decide_eq_false c20
                            clear c20
                            by_cases c22 : false = true
                            · exact absurd c22 (by decide)
                            · replace c22 := Bool.eq_false_iff.mpr c22
                              clear c22
                              (first | (rw [if_neg not_false] at H) | (replace H := ifF_ H) | skip)
                              simp only [Option.some.injEq, Prod.mk.injEq] at H
                              obtain ⟨rfl, rfl⟩ := H
                              go_wp2
                              go_ret2
                              exact ⟨q3_, q6_⟩
          · rw [if_neg c7] at H
            have c7b0 : decide (a0 < 0) = false := decide_eq_false c7
            clear c7
            have HC23 := Aside0.mk H
            clear H
            go_upto_if 22 with (fail)
            go_cut [0] (fun v0 wc => ∃ (kq : Nat) (x0_22 : Int), v0 = .int .i64 x0_22 ∧ Aside0 (corollaryref01_Times.j4 kq x0_22 a1 (-9223372036854775808) true = some (r1, r2)) ∧ Aside0 (kq ≤ kj2) ∧ Drawn0 w wc)
            case first =>
              have H := HC23.out
              clear HC23
              by_cases c24 : a0 > 0
              · rw [if_pos c24] at H
                have c24b0 : decide (0 < a0) = true := decide_eq_true c24
                clear c24
                (first | rw [c24b0] | (simp only [i64_w, i32_w]; rw [c24b0]) | skip)
                have H' := Aside0.mk H
                clear H
                go_wp2
                go_meet
                case rel => exact ⟨_, (wrap64 (-a0)), q3_, H', ⟨q42_⟩, q6_⟩
              · rw [if_neg c24] at H
                have c24b0 : decide (0 < a0) = false := decide_eq_false c24
                clear c24
                (first | rw [c24b0] | (simp only [i64_w, i32_w]; rw [c24b0]) | skip)
                have H' := Aside0.mk H
                clear H
                go_wp2
                go_meet
                case rel => exact ⟨_, (a0), q3_, H', ⟨q42_⟩, q6_⟩
            case rest =>
              clear HC23
              try clear c1
              try clear c2
              try clear p2
              try clear c3
              try clear c4
              try clear c4b0
              try clear c4b1
              try clear c5
              try clear c6
              try clear c6b0
              try clear p6
              try clear c7
              try clear c7b0
              try clear c9
              try clear c9b0
              try clear c11
              try clear c11b0
              try clear c13
              try clear c13b0
              try clear c13b1
              try clear c14
              try clear c14b0
              try clear c15
              try clear c15b0
              try clear c16
              try clear c16b0
              try clear c16b1
              try clear c17
              try clear c17b0
              try clear c18
              try clear c18b0
              try clear c18b1
              try clear c19
              try clear c20
              try clear c20b0
              try clear c21
              try clear c22
              try clear c24
              try clear c24b0
              try clear p2
              try clear p6
              obtain ⟨kq, x0_22, rfl, HA, HJ22, ⟨mc22, rfl⟩⟩ := hcut
              cases kq with
              | zero => exact absurd HA.out (by simp [corollaryref01_Times.j4])
              | succ kj22 =>
                have H := HA.out
                clear HA
                simp only [corollaryref01_Times.j4] at H
                have HC25 := Aside0.mk H
                clear H
                go_upto_if 26 with (fail)
                go_cut [1] (fun v1 wc => ∃ (kq : Nat) (x1_24 : Int), v1 = .int .i64 x1_24 ∧ Aside0 (corollaryref01_Times.j5 kq x0_22 x1_24 (-9223372036854775808) true = some (r1, r2)) ∧ Aside0 (kq ≤ kj22) ∧ Drawn0 w wc)
                case first =>
                  have H := HC25.out
                  clear HC25
                  by_cases c26 : a1 > 0
                  · rw [if_pos c26] at H
                    have c26b0 : decide (0 < a1) = true := decide_eq_true c26
                    clear c26
                    (first | rw [c26b0] | (simp only [i64_w, i32_w]; rw [c26b0]) | skip)
                    have H' := Aside0.mk H
                    clear H
                    go_wp2
                    go_meet
                    case rel => exact ⟨_, (wrap64 (-a1)), q3_, H', ⟨by have := HJ2.out; have := HJ22.out; first | omega | exact Nat.le_refl _⟩, q6_⟩
                  · rw [if_neg c26] at H
                    have c26b0 : decide (0 < a1) = false := decide_eq_false c26
                    clear c26
                    (first | rw [c26b0] | (simp only [i64_w, i32_w]; rw [c26b0]) | skip)
                    have H' := Aside0.mk H
                    clear H
                    go_wp2
                    go_meet
                    case rel => exact ⟨_, (a1), q3_, H', ⟨by have := HJ2.out; have := HJ22.out; first | omega | exact Nat.le_refl _⟩, q6_⟩
                case rest =>
                  clear HC25
                  try clear c1
                  try clear c2
                  try clear p2
                  try clear c3
                  try clear c4
                  try clear c4b0
                  try clear c4b1
                  try clear c5
                  try clear c6
                  try clear c6b0
                  try clear p6
                  try clear c7
                  try clear c7b0
                  try clear c9
                  try clear c9b0
                  try clear c11
                  try clear c11b0
                  try clear c13
                  try clear c13b0
                  try clear c13b1
                  try clear c14
                  try clear c14b0
                  try clear c15
                  try clear c15b0
                  try clear c16
                  try clear c16b0
                  try clear c16b1
                  try clear c17
                  try clear c17b0
                  try clear c18
                  try clear c18b0
                  try clear c18b1
                  try clear c19
                  try clear c20
                  try clear c20b0
                  try clear c21
                  try clear c22
                  try clear c24
                  try clear c24b0
                  try clear c26
                  try clear c26b0
                  try clear p2
                  try clear p6
                  obtain ⟨kq, x1_24, rfl, HA, HJ24, ⟨mc24, rfl⟩⟩ := hcut
                  cases kq with
                  | zero => exact absurd HA.out (by simp [corollaryref01_Times.j5])
                  | succ kj24 =>
                    have H := HA.out
                    clear HA
                    simp only [corollaryref01_Times.j5] at H
                    have HC27 := Aside0.mk H
                    clear H
                    go_upto_region 10 with (fail)
                    go_cut [47] (fun v47 wc => ∃ (kq : Nat) (x47_26 : Bool), v47 = .bool x47_26 ∧ Aside0 (corollaryref01_Times.j6 kq x0_22 x1_24 true x47_26 = some (r1, r2)) ∧ Aside0 (kq ≤ kj24) ∧ Drawn0 w wc)
                    case first =>
                      have H := HC27.out
                      clear HC27
                      by_cases c28 : x1_24 = (-1)
                      · rw [if_pos c28] at H
                        have c28b0 : (x1_24 == (-1)) = true := beq_iff_eq.mpr c28
                        have c28b1 : (x1_24 != (-1)) = false := bne_eq_false_iff_eq.mpr c28
                        clear c28
                        (first | rw [c28b0] | (simp only [i64_w, i32_w]; rw [c28b0]) | skip)
                        by_cases c29 : x0_22 < (-9223372036854775808)
                        · rw [if_pos c29] at H
                          have c29b0 : decide (x0_22 < (-9223372036854775808)) = true := decide_eq_true c29
                          clear c29
                          have H' := Aside0.mk H
                          clear H
                          go_wp2
                          go_meet
                          case rel => exact ⟨_, (true), q3_, H', ⟨q54_⟩, q6_⟩
                        · rw [if_neg c29] at H
                          have c29b0 : decide (x0_22 < (-9223372036854775808)) = false := decide_eq_false c29
                          clear c29
                          by_cases c30 : x1_24 < (-1)
                          · rw [if_pos c30] at H
                            have c30b0 : decide (x1_24 < (-1)) = true := decide_eq_true c30
                            clear c30
                            by_cases c31 : x1_24 = 0
                            · rw [if_pos c31] at H
                              exact absurd H (by simp)
                            · rw [if_neg c31] at H
                              have c31b0 : (x1_24 == 0) = false := beq_eq_false_iff_ne.mpr c31
                              have c31b1 : (x1_24 != 0) = true := bne_iff_ne.mpr c31
                              have H' := Aside0.mk H
                              clear H
                              go_wp2
                              go_meet
                              case rel => exact ⟨_, (decide (x0_22 < (wrap64 (-(wrap64 (Int.tdiv (-9223372036854775808) x1_24)))))), q3_, H', ⟨q54_⟩, q6_⟩
                          · rw [if_neg c30] at H
                            have c30b0 : decide (x1_24 < (-1)) = false := decide_eq_false c30
                            clear c30
                            have H' := Aside0.mk H
                            clear H
                            go_wp2
                            go_meet
                            case rel => exact ⟨_, (false), q3_, H', ⟨q54_⟩, q6_⟩
                      · rw [if_neg c28] at H
                        have c28b0 : (x1_24 == (-1)) = false := beq_eq_false_iff_ne.mpr c28
                        have c28b1 : (x1_24 != (-1)) = true := bne_iff_ne.mpr c28
                        (first | rw [c28b0] | (simp only [i64_w, i32_w]; rw [c28b0]) | skip)
                        by_cases c32 : x1_24 < (-1)
                        · rw [if_pos c32] at H
                          have c32b0 : decide (x1_24 < (-1)) = true := decide_eq_true c32
                          clear c32
                          by_cases c33 : x1_24 = 0
                          · rw [if_pos c33] at H
                            exact absurd H (by simp)
                          · rw [if_neg c33] at H
                            have c33b0 : (x1_24 == 0) = false := beq_eq_false_iff_ne.mpr c33
                            have c33b1 : (x1_24 != 0) = true := bne_iff_ne.mpr c33
                            have H' := Aside0.mk H
                            clear H
                            go_wp2
                            go_meet
                            case rel => exact ⟨_, (decide (x0_22 < (wrap64 (-(wrap64 (Int.tdiv (-9223372036854775808) x1_24)))))), q3_, H', ⟨q54_⟩, q6_⟩
                        · rw [if_neg c32] at H
                          have c32b0 : decide (x1_24 < (-1)) = false := decide_eq_false c32
                          clear c32
                          have H' := Aside0.mk H
                          clear H
                          go_wp2
                          go_meet
                          case rel => exact ⟨_, (false), q3_, H', ⟨q54_⟩, q6_⟩
                    case rest =>
                      clear HC27
                      try clear c1
                      try clear c2
                      try clear p2
                      try clear c3
                      try clear c4
                      try clear c4b0
                      try clear c4b1
                      try clear c5
                      try clear c6
                      try clear c6b0
                      try clear p6
                      try clear c7
                      try clear c7b0
                      try clear c9
                      try clear c9b0
                      try clear c11
                      try clear c11b0
                      try clear c13
                      try clear c13b0
                      try clear c13b1
                      try clear c14
                      try clear c14b0
                      try clear c15
                      try clear c15b0
                      try clear c16
                      try clear c16b0
                      try clear c16b1
                      try clear c17
                      try clear c17b0
                      try clear c18
                      try clear c18b0
                      try clear c18b1
                      try clear c19
                      try clear c20
                      try clear c20b0
                      try clear c21
                      try clear c22
                      try clear c24
                      try clear c24b0
                      try clear c26
                      try clear c26b0
                      try clear c28
                      try clear c28b0
                      try clear c28b1
                      try clear c29
                      try clear c29b0
                      try clear c30
                      try clear c30b0
                      try clear c31
                      try clear c31b0
                      try clear c31b1
                      try clear c32
                      try clear c32b0
                      try clear c33
                      try clear c33b0
                      try clear c33b1
                      try clear p2
                      try clear p6
                      obtain ⟨kq, x47_26, rfl, HA, HJ26, ⟨mc26, rfl⟩⟩ := hcut
                      cases kq with
                      | zero => exact absurd HA.out (by simp [corollaryref01_Times.j6])
                      | succ kj26 =>
                        have H := HA.out
                        clear HA
                        simp only [corollaryref01_Times.j6] at H
                        by_cases c34 : x47_26 = true
                        · subst c34
                          replace H := ifT_ H
                          simp only [Option.some.injEq, Prod.mk.injEq] at H
                          obtain ⟨rfl, rfl⟩ := H
                          go_wp2
                          go_ret2
                          exact ⟨q3_, q6_⟩
                        · replace c34 := Bool.eq_false_iff.mpr c34
                          subst c34
                          replace H := ifF_ H
                          by_cases c35 : x1_24 > (-9223372036854775808)
                          · rw [if_pos c35] at H
                            have c35b0 : decide ((-9223372036854775808) < x1_24) = true := decide_eq_true c35
                            clear c35
                            by_cases c36 : true = true
                            · clear c36
                              (first | (rw [if_pos trivial] at H) | (replace H := ifT_ H) | skip)
                              simp only [Option.some.injEq, Prod.mk.injEq] at H
                              obtain ⟨rfl, rfl⟩ := H
                              go_wp2
                              go_ret2
                              exact ⟨q3_, q6_⟩
                            · exact absurd (rfl : true = true) c36
                          · rw [if_neg c35] at H
                            have c35b0 : decide ((-9223372036854775808) < x1_24) = false := decide_eq_false c35
                            clear c35
                            by_cases c37 : true = true
                            · clear c37
                              (first | (rw [if_pos trivial] at H) | (replace H := ifT_ H) | skip)
                              simp only [Option.some.injEq, Prod.mk.injEq] at H
                              obtain ⟨rfl, rfl⟩ := H
                              go_wp2
                              go_ret2
                              exact ⟨q3_, q6_⟩
                            · exact absurd (rfl : true = true) c37
        · rw [if_neg c6] at H
          have c6b0 : decide (a1 < 0) = false := decide_eq_false c6
          clear c6
          by_cases c38 : a0 < 0
          · rw [if_pos c38] at H
            have c38b0 : decide (a0 < 0) = true := decide_eq_true c38
            clear c38
            have HC39 := Aside0.mk H
            clear H
            go_upto_if 22 with (fail)
            go_cut [0] (fun v0 wc => ∃ (kq : Nat) (x0_38 : Int), v0 = .int .i64 x0_38 ∧ Aside0 (corollaryref01_Times.j7 kq x0_38 a1 (-9223372036854775808) true = some (r1, r2)) ∧ Aside0 (kq ≤ kj2) ∧ Drawn0 w wc)
            case first =>
              have H := HC39.out
              clear HC39
              by_cases c40 : a0 > 0
              · rw [if_pos c40] at H
                have c40b0 : decide (0 < a0) = true := decide_eq_true c40
                clear c40
                (first | rw [c40b0] | (simp only [i64_w, i32_w]; rw [c40b0]) | skip)
                have H' := Aside0.mk H
                clear H
                go_wp2
                go_meet
                case rel => exact ⟨_, (wrap64 (-a0)), q3_, H', ⟨q42_⟩, q6_⟩
              · rw [if_neg c40] at H
                have c40b0 : decide (0 < a0) = false := decide_eq_false c40
                clear c40
                (first | rw [c40b0] | (simp only [i64_w, i32_w]; rw [c40b0]) | skip)
                have H' := Aside0.mk H
                clear H
                go_wp2
                go_meet
                case rel => exact ⟨_, (a0), q3_, H', ⟨q42_⟩, q6_⟩
            case rest =>
              clear HC39
              try clear c1
              try clear c2
              try clear p2
              try clear c3
              try clear c4
              try clear c4b0
              try clear c4b1
              try clear c5
              try clear c6
              try clear c6b0
              try clear p6
              try clear c7
              try clear c7b0
              try clear c9
              try clear c9b0
              try clear c11
              try clear c11b0
              try clear c13
              try clear c13b0
              try clear c13b1
              try clear c14
              try clear c14b0
              try clear c15
              try clear c15b0
              try clear c16
              try clear c16b0
              try clear c16b1
              try clear c17
              try clear c17b0
              try clear c18
              try clear c18b0
              try clear c18b1
              try clear c19
              try clear c20
              try clear c20b0
              try clear c21
              try clear c22
              try clear c24
              try clear c24b0
              try clear c26
              try clear c26b0
              try clear c28
              try clear c28b0
              try clear c28b1
              try clear c29
              try clear c29b0
              try clear c30
              try clear c30b0
              try clear c31
              try clear c31b0
              try clear c31b1
              try clear c32
              try clear c32b0
              try clear c33
              try clear c33b0
              try clear c33b1
              try clear c34
              try clear c35
              try clear c35b0
              try clear c36
              try clear c37
              try clear c38
              try clear c38b0
              try clear c40
              try clear c40b0
              try clear p2
              try clear p6
              obtain ⟨kq, x0_38, rfl, HA, HJ38, ⟨mc38, rfl⟩⟩ := hcut
              cases kq with
              | zero => exact absurd HA.out (by simp [corollaryref01_Times.j7])
              | succ kj38 =>
                have H := HA.out
                clear HA
                simp only [corollaryref01_Times.j7] at H
                have HC41 := Aside0.mk H
                clear H
                go_upto_if 26 with (fail)
                go_cut [1] (fun v1 wc => ∃ (kq : Nat) (x1_40 : Int), v1 = .int .i64 x1_40 ∧ Aside0 (corollaryref01_Times.j8 kq x0_38 x1_40 (-9223372036854775808) true = some (r1, r2)) ∧ Aside0 (kq ≤ kj38) ∧ Drawn0 w wc)
                case first =>
                  have H := HC41.out
                  clear HC41
                  by_cases c42 : a1 > 0
                  · rw [if_pos c42] at H
                    have c42b0 : decide (0 < a1) = true := decide_eq_true c42
                    clear c42
                    (first | rw [c42b0] | (simp only [i64_w, i32_w]; rw [c42b0]) | skip)
                    have H' := Aside0.mk H
                    clear H
                    go_wp2
                    go_meet
                    case rel => exact ⟨_, (wrap64 (-a1)), q3_, H', ⟨by have := HJ2.out; have := HJ38.out; first | omega | exact Nat.le_refl _⟩, q6_⟩
                  · rw [if_neg c42] at H
                    have c42b0 : decide (0 < a1) = false := decide_eq_false c42
                    clear c42
                    (first | rw [c42b0] | (simp only [i64_w, i32_w]; rw [c42b0]) | skip)
                    have H' := Aside0.mk H
                    clear H
                    go_wp2
                    go_meet
                    case rel => exact ⟨_, (a1), q3_, H', ⟨by have := HJ2.out; have := HJ38.out; first | omega | exact Nat.le_refl _⟩, q6_⟩
                case rest =>
                  clear HC41
                  try clear c1
                  try clear c2
                  try clear p2
                  try clear c3
                  try clear c4
                  try clear c4b0
                  try clear c4b1
                  try clear c5
                  try clear c6
                  try clear c6b0
                  try clear p6
                  try clear c7
                  try clear c7b0
                  try clear c9
                  try clear c9b0
                  try clear c11
                  try clear c11b0
                  try clear c13
                  try clear c13b0
                  try clear c13b1
                  try clear c14
                  try clear c14b0
                  try clear c15
                  try clear c15b0
                  try clear c16
                  try clear c16b0
                  try clear c16b1
                  try clear c17
                  try clear c17b0
                  try clear c18
                  try clear c18b0
                  try clear c18b1
                  try clear c19
                  try clear c20
                  try clear c20b0
                  try clear c21
                  try clear c22
                  try clear c24
                  try clear c24b0
                  try clear c26
                  try clear c26b0
                  try clear c28
                  try clear c28b0
                  try clear c28b1
                  try clear c29
                  try clear c29b0
                  try clear c30
                  try clear c30b0
                  try clear c31
                  try clear c31b0
                  try clear c31b1
                  try clear c32
                  try clear c32b0
                  try clear c33
                  try clear c33b0
                  try clear c33b1
                  try clear c34
                  try clear c35
                  try clear c35b0
                  try clear c36
                  try clear c37
                  try clear c38
                  try clear c38b0
                  try clear c40
                  try clear c40b0
                  try clear c42
                  try clear c42b0
                  try clear p2
                  try clear p6
                  obtain ⟨kq, x1_40, rfl, HA, HJ40, ⟨mc40, rfl⟩⟩ := hcut
                  cases kq with
                  | zero => exact absurd HA.out (by simp [corollaryref01_Times.j8])
                  | succ kj40 =>
                    have H := HA.out
                    clear HA
                    simp only [corollaryref01_Times.j8] at H
                    have HC43 := Aside0.mk H
                    clear H
                    go_upto_region 10 with (fail)
                    go_cut [47] (fun v47 wc => ∃ (kq : Nat) (x47_42 : Bool), v47 = .bool x47_42 ∧ Aside0 (corollaryref01_Times.j9 kq x0_38 x1_40 true x47_42 = some (r1, r2)) ∧ Aside0 (kq ≤ kj40) ∧ Drawn0 w wc)
                    case first =>
                      have H := HC43.out
                      clear HC43
                      by_cases c44 : x1_40 = (-1)
                      · rw [if_pos c44] at H
                        have c44b0 : (x1_40 == (-1)) = true := beq_iff_eq.mpr c44
                        have c44b1 : (x1_40 != (-1)) = false := bne_eq_false_iff_eq.mpr c44
                        clear c44
                        (first | rw [c44b0] | (simp only [i64_w, i32_w]; rw [c44b0]) | skip)
                        by_cases c45 : x0_38 < (-9223372036854775808)
                        · rw [if_pos c45] at H
                          have c45b0 : decide (x0_38 < (-9223372036854775808)) = true := decide_eq_true c45
                          clear c45
                          have H' := Aside0.mk H
                          clear H
                          go_wp2
                          go_meet
                          case rel => exact ⟨_, (true), q3_, H', ⟨q53_⟩, q6_⟩
                        · rw [if_neg c45] at H
                          have c45b0 : decide (x0_38 < (-9223372036854775808)) = false := decide_eq_false c45
                          clear c45
                          by_cases c46 : x1_40 < (-1)
                          · rw [if_pos c46] at H
                            have c46b0 : decide (x1_40 < (-1)) = true := decide_eq_true c46
                            clear c46
                            by_cases c47 : x1_40 = 0
                            · rw [if_pos c47] at H
                              exact absurd H (by simp)
                            · rw [if_neg c47] at H
                              have c47b0 : (x1_40 == 0) = false := beq_eq_false_iff_ne.mpr c47
                              have c47b1 : (x1_40 != 0) = true := bne_iff_ne.mpr c47
                              have H' := Aside0.mk H
                              clear H
                              go_wp2
                              go_meet
                              case rel => exact ⟨_, (decide (x0_38 < (wrap64 (-(wrap64 (Int.tdiv (-9223372036854775808) x1_40)))))), q3_, H', ⟨q53_⟩, q6_⟩
                          · rw [if_neg c46] at H
                            have c46b0 : decide (x1_40 < (-1)) = false := decide_eq_false c46
                            clear c46
                            have H' := Aside0.mk H
                            clear H
                            go_wp2
                            go_meet
                            case rel => exact ⟨_, (false), q3_, H', ⟨q53_⟩, q6_⟩
                      · rw [if_neg c44] at H
                        have c44b0 : (x1_40 == (-1)) = false := beq_eq_false_iff_ne.mpr c44
                        have c44b1 : (x1_40 != (-1)) = true := bne_iff_ne.mpr c44
                        (first | rw [c44b0] | (simp only [i64_w, i32_w]; rw [c44b0]) | skip)
                        by_cases c48 : x1_40 < (-1)
                        · rw [if_pos c48] at H
                          have c48b0 : decide (x1_40 < (-1)) = true := decide_eq_true c48
                          clear c48
                          by_cases c49 : x1_40 = 0
                          · rw [if_pos c49] at H
                            exact absurd H (by simp)
                          · rw [if_neg c49] at H
                            have c49b0 : (x1_40 == 0) = false := beq_eq_false_iff_ne.mpr c49
                            have c49b1 : (x1_40 != 0) = true := bne_iff_ne.mpr c49
                            have H' := Aside0.mk H
                            clear H
                            go_wp2
                            go_meet
                            case rel => exact ⟨_, (decide (x0_38 < (wrap64 (-(wrap64 (Int.tdiv (-9223372036854775808) x1_40)))))), q3_, H', ⟨q53_⟩, q6_⟩
                        · rw [if_neg c48] at H
                          have c48b0 : decide (x1_40 < (-1)) = false := decide_eq_false c48
                          clear c48
                          have H' := Aside0.mk H
                          clear H
                          go_wp2
                          go_meet
                          case rel => exact ⟨_, (false), q3_, H', ⟨q53_⟩, q6_⟩
                    case rest =>
                      clear HC43
                      try clear c1
                      try clear c2
                      try clear p2
                      try clear c3
                      try clear c4
                      try clear c4b0
                      try clear c4b1
                      try clear c5
                      try clear c6
                      try clear c6b0
                      try clear p6
                      try clear c7
                      try clear c7b0
                      try clear c9
                      try clear c9b0
                      try clear c11
                      try clear c11b0
                      try clear c13
                      try clear c13b0
                      try clear c13b1
                      try clear c14
                      try clear c14b0
                      try clear c15
                      try clear c15b0
                      try clear c16
                      try clear c16b0
                      try clear c16b1
                      try clear c17
                      try clear c17b0
                      try clear c18
                      try clear c18b0
                      try clear c18b1
                      try clear c19
                      try clear c20
                      try clear c20b0
                      try clear c21
                      try clear c22
                      try clear c24
                      try clear c24b0
                      try clear c26
                      try clear c26b0
                      try clear c28
                      try clear c28b0
                      try clear c28b1
                      try clear c29
                      try clear c29b0
                      try clear c30
                      try clear c30b0
                      try clear c31
                      try clear c31b0
                      try clear c31b1
                      try clear c32
                      try clear c32b0
                      try clear c33
                      try clear c33b0
                      try clear c33b1
                      try clear c34
                      try clear c35
                      try clear c35b0
                      try clear c36
                      try clear c37
                      try clear c38
                      try clear c38b0
                      try clear c40
                      try clear c40b0
                      try clear c42
                      try clear c42b0
                      try clear c44
                      try clear c44b0
                      try clear c44b1
                      try clear c45
                      try clear c45b0
                      try clear c46
                      try clear c46b0
                      try clear c47
                      try clear c47b0
                      try clear c47b1
                      try clear c48
                      try clear c48b0
                      try clear c49
                      try clear c49b0
                      try clear c49b1
                      try clear p2
                      try clear p6
                      obtain ⟨kq, x47_42, rfl, HA, HJ42, ⟨mc42, rfl⟩⟩ := hcut
                      cases kq with
                      | zero => exact absurd HA.out (by simp [corollaryref01_Times.j9])
                      | succ kj42 =>
                        have H := HA.out
                        clear HA
                        simp only [corollaryref01_Times.j9] at H
                        by_cases c50 : x47_42 = true
                        · subst c50
                          replace H := ifT_ H
                          simp only [Option.some.injEq, Prod.mk.injEq] at H
                          obtain ⟨rfl, rfl⟩ := H
                          go_wp2
                          go_ret2
                          exact ⟨q3_, q6_⟩
                        · replace c50 := Bool.eq_false_iff.mpr c50
                          subst c50
                          replace H := ifF_ H
                          by_cases c51 : x1_40 > (-9223372036854775808)
                          · rw [if_pos c51] at H
                            have c51b0 : decide ((-9223372036854775808) < x1_40) = true := decide_eq_true c51
                            clear c51
                            by_cases c52 : true = true
                            · clear c52
                              (first | (rw [if_pos trivial] at H) | (replace H := ifT_ H) | skip)
                              simp only [Option.some.injEq, Prod.mk.injEq] at H
                              obtain ⟨rfl, rfl⟩ := H
                              go_wp2
                              go_ret2
                              exact ⟨q3_, q6_⟩
                            · exact absurd (rfl : true = true) c52
                          · rw [if_neg c51] at H
                            have c51b0 : decide ((-9223372036854775808) < x1_40) = false := decide_eq_false c51
                            clear c51
                            by_cases c53 : true = true
                            · clear c53
                              (first | (rw [if_pos trivial] at H) | (replace H := ifT_ H) | skip)
                              simp only [Option.some.injEq, Prod.mk.injEq] at H
                              obtain ⟨rfl, rfl⟩ := H
                              go_wp2
                              go_ret2
                              exact ⟨q3_, q6_⟩
                            · exact absurd (rfl : true = true) c53
          · rw [if_neg c38] at H
            have c38b0 : decide (a0 < 0) = false := decide_eq_false c38
            clear c38
            have HC54 := Aside0.mk H
            clear H
            go_upto_if 22 with (fail)
            go_cut [0] (fun v0 wc => ∃ (kq : Nat) (x0_53 : Int), v0 = .int .i64 x0_53 ∧ Aside0 (corollaryref01_Times.j10 kq x0_53 a1 (-9223372036854775807) false = some (r1, r2)) ∧ Aside0 (kq ≤ kj2) ∧ Drawn0 w wc)
            case first =>
              have H := HC54.out
              clear HC54
              by_cases c55 : a0 > 0
              · rw [if_pos c55] at H
                have c55b0 : decide (0 < a0) = true := decide_eq_true c55
                clear c55
                (first | rw [c55b0] | (simp only [i64_w, i32_w]; rw [c55b0]) | skip)
                have H' := Aside0.mk H
                clear H
                go_wp2
                go_meet
                case rel => exact ⟨_, (wrap64 (-a0)), q3_, H', ⟨q42_⟩, q6_⟩
              · rw [if_neg c55] at H
                have c55b0 : decide (0 < a0) = false := decide_eq_false c55
                clear c55
                (first | rw [c55b0] | (simp only [i64_w, i32_w]; rw [c55b0]) | skip)
                have H' := Aside0.mk H
                clear H
                go_wp2
                go_meet
                case rel => exact ⟨_, (a0), q3_, H', ⟨q42_⟩, q6_⟩
            case rest =>
              clear HC54
              try clear c1
              try clear c2
              try clear p2
              try clear c3
              try clear c4
              try clear c4b0
              try clear c4b1
              try clear c5
              try clear c6
              try clear c6b0
              try clear p6
              try clear c7
              try clear c7b0
              try clear c9
              try clear c9b0
              try clear c11
              try clear c11b0
              try clear c13
              try clear c13b0
              try clear c13b1
              try clear c14
              try clear c14b0
              try clear c15
              try clear c15b0
              try clear c16
              try clear c16b0
              try clear c16b1
              try clear c17
              try clear c17b0
              try clear c18
              try clear c18b0
              try clear c18b1
              try clear c19
              try clear c20
              try clear c20b0
              try clear c21
              try clear c22
              try clear c24
              try clear c24b0
              try clear c26
              try clear c26b0
              try clear c28
              try clear c28b0
              try clear c28b1
              try clear c29
              try clear c29b0
              try clear c30
              try clear c30b0
              try clear c31
              try clear c31b0
              try clear c31b1
              try clear c32
              try clear c32b0
              try clear c33
              try clear c33b0
              try clear c33b1
              try clear c34
              try clear c35
              try clear c35b0
              try clear c36
              try clear c37
              try clear c38
              try clear c38b0
              try clear c40
              try clear c40b0
              try clear c42
              try clear c42b0
              try clear c44
              try clear c44b0
              try clear c44b1
              try clear c45
              try clear c45b0
              try clear c46
              try clear c46b0
              try clear c47
              try clear c47b0
              try clear c47b1
              try clear c48
              try clear c48b0
              try clear c49
              try clear c49b0
              try clear c49b1
              try clear c50
              try clear c51
              try clear c51b0
              try clear c52
              try clear c53
              try clear c55
              try clear c55b0
              try clear p2
              try clear p6
              obtain ⟨kq, x0_53, rfl, HA, HJ53, ⟨mc53, rfl⟩⟩ := hcut
              cases kq with
              | zero => exact absurd HA.out (by simp [corollaryref01_Times.j10])
              | succ kj53 =>
                have H := HA.out
                clear HA
                simp only [corollaryref01_Times.j10] at H
                have HC56 := Aside0.mk H
                clear H
                go_upto_if 26 with (fail)
                go_cut [1] (fun v1 wc => ∃ (kq : Nat) (x1_55 : Int), v1 = .int .i64 x1_55 ∧ Aside0 (corollaryref01_Times.j11 kq x0_53 x1_55 (-9223372036854775807) false = some (r1, r2)) ∧ Aside0 (kq ≤ kj53) ∧ Drawn0 w wc)
                case first =>
                  have H := HC56.out
                  clear HC56
                  by_cases c57 : a1 > 0
                  · rw [if_pos c57] at H
                    have c57b0 : decide (0 < a1) = true := decide_eq_true c57
                    clear c57
                    (first | rw [c57b0] | (simp only [i64_w, i32_w]; rw [c57b0]) | skip)
                    have H' := Aside0.mk H
                    clear H
                    go_wp2
                    go_meet
                    case rel => exact ⟨_, (wrap64 (-a1)), q3_, H', ⟨by have := HJ2.out; have := HJ53.out; first | omega | exact Nat.le_refl _⟩, q6_⟩
                  · rw [if_neg c57] at H
                    have c57b0 : decide (0 < a1) = false := decide_eq_false c57
                    clear c57
                    (first | rw [c57b0] | (simp only [i64_w, i32_w]; rw [c57b0]) | skip)
                    have H' := Aside0.mk H
                    clear H
                    go_wp2
                    go_meet
                    case rel => exact ⟨_, (a1), q3_, H', ⟨by have := HJ2.out; have := HJ53.out; first | omega | exact Nat.le_refl _⟩, q6_⟩
                case rest =>
                  clear HC56
                  try clear c1
                  try clear c2
                  try clear p2
                  try clear c3
                  try clear c4
                  try clear c4b0
                  try clear c4b1
                  try clear c5
                  try clear c6
                  try clear c6b0
                  try clear p6
                  try clear c7
                  try clear c7b0
                  try clear c9
                  try clear c9b0
                  try clear c11
                  try clear c11b0
                  try clear c13
                  try clear c13b0
                  try clear c13b1
                  try clear c14
                  try clear c14b0
                  try clear c15
                  try clear c15b0
                  try clear c16
                  try clear c16b0
                  try clear c16b1
                  try clear c17
                  try clear c17b0
                  try clear c18
                  try clear c18b0
                  try clear c18b1
                  try clear c19
                  try clear c20
                  try clear c20b0
                  try clear c21
                  try clear c22
                  try clear c24
                  try clear c24b0
                  try clear c26
                  try clear c26b0
                  try clear c28
                  try clear c28b0
                  try clear c28b1
                  try clear c29
                  try clear c29b0
                  try clear c30
                  try clear c30b0
                  try clear c31
                  try clear c31b0
                  try clear c31b1
                  try clear c32
                  try clear c32b0
                  try clear c33
                  try clear c33b0
                  try clear c33b1
                  try clear c34
                  try clear c35
                  try clear c35b0
                  try clear c36
                  try clear c37
                  try clear c38
                  try clear c38b0
                  try clear c40
                  try clear c40b0
                  try clear c42
                  try clear c42b0
                  try clear c44
                  try clear c44b0
                  try clear c44b1
                  try clear c45
                  try clear c45b0
                  try clear c46
                  try clear c46b0
                  try clear c47
                  try clear c47b0
                  try clear c47b1
                  try clear c48
                  try clear c48b0
                  try clear c49
                  try clear c49b0
                  try clear c49b1
                  try clear c50
                  try clear c51
                  try clear c51b0
                  try clear c52
                  try clear c53
                  try clear c55
                  try clear c55b0
                  try clear c57
                  try clear c57b0
                  try clear p2
                  try clear p6
                  obtain ⟨kq, x1_55, rfl, HA, HJ55, ⟨mc55, rfl⟩⟩ := hcut
                  cases kq with
                  | zero => exact absurd HA.out (by simp [corollaryref01_Times.j11])
                  | succ kj55 =>
                    have H := HA.out
                    clear HA
                    simp only [corollaryref01_Times.j11] at H
                    have HC58 := Aside0.mk H
                    clear H
                    go_upto_region 10 with (fail)
                    go_cut [47] (fun v47 wc => ∃ (kq : Nat) (x47_57 : Bool), v47 = .bool x47_57 ∧ Aside0 (corollaryref01_Times.j12 kq x0_53 x1_55 false x47_57 = some (r1, r2)) ∧ Aside0 (kq ≤ kj55) ∧ Drawn0 w wc)
                    case first =>
                      have H := HC58.out
                      clear HC58
                      by_cases c59 : x1_55 = (-1)
                      · rw [if_pos c59] at H
                        have c59b0 : (x1_55 == (-1)) = true := beq_iff_eq.mpr c59
                        have c59b1 : (x1_55 != (-1)) = false := bne_eq_false_iff_eq.mpr c59
                        clear c59
                        (first | rw [c59b0] | (simp only [i64_w, i32_w]; rw [c59b0]) | skip)
                        by_cases c60 : x0_53 < (-9223372036854775807)
                        · rw [if_pos c60] at H
                          have c60b0 : decide (x0_53 < (-9223372036854775807)) = true := decide_eq_true c60
                          clear c60
                          have H' := Aside0.mk H
                          clear H
                          go_wp2
                          go_meet
                          case rel => exact ⟨_, (true), q3_, H', ⟨q52_⟩, q6_⟩
                        · rw [if_neg c60] at H
                          have c60b0 : decide (x0_53 < (-9223372036854775807)) = false := decide_eq_false c60
                          clear c60
                          by_cases c61 : x1_55 < (-1)
                          · rw [if_pos c61] at H
                            have c61b0 : decide (x1_55 < (-1)) = true := decide_eq_true c61
                            clear c61
                            by_cases c62 : x1_55 = 0
                            · rw [if_pos c62] at H
                              exact absurd H (by simp)
                            · rw [if_neg c62] at H
                              have c62b0 : (x1_55 == 0) = false := beq_eq_false_iff_ne.mpr c62
                              have c62b1 : (x1_55 != 0) = true := bne_iff_ne.mpr c62
                              have H' := Aside0.mk H
                              clear H
                              go_wp2
                              go_meet
                              case rel => exact ⟨_, (decide (x0_53 < (wrap64 (-(wrap64 (Int.tdiv (-9223372036854775807) x1_55)))))), q3_, H', ⟨q52_⟩, q6_⟩
                          · rw [if_neg c61] at H
                            have c61b0 : decide (x1_55 < (-1)) = false := decide_eq_false c61
                            clear c61
                            have H' := Aside0.mk H
                            clear H
                            go_wp2
                            go_meet
                            case rel => exact ⟨_, (false), q3_, H', ⟨q52_⟩, q6_⟩
                      · rw [if_neg c59] at H
                        have c59b0 : (x1_55 == (-1)) = false := beq_eq_false_iff_ne.mpr c59
                        have c59b1 : (x1_55 != (-1)) = true := bne_iff_ne.mpr c59
                        (first | rw [c59b0] | (simp only [i64_w, i32_w]; rw [c59b0]) | skip)
                        by_cases c63 : x1_55 < (-1)
                        · rw [if_pos c63] at H
                          have c63b0 : decide (x1_55 < (-1)) = true := decide_eq_true c63
                          clear c63
                          by_cases c64 : x1_55 = 0
                          · rw [if_pos c64] at H
                            exact absurd H (by simp)
                          · rw [if_neg c64] at H
                            have c64b0 : (x1_55 == 0) = false := beq_eq_false_iff_ne.mpr c64
                            have c64b1 : (x1_55 != 0) = true := bne_iff_ne.mpr c64
                            have H' := Aside0.mk H
                            clear H
                            go_wp2
                            go_meet
                            case rel => exact ⟨_, (decide (x0_53 < (wrap64 (-(wrap64 (Int.tdiv (-9223372036854775807) x1_55)))))), q3_, H', ⟨q52_⟩, q6_⟩
                        · rw [if_neg c63] at H
                          have c63b0 : decide (x1_55 < (-1)) = false := decide_eq_false c63
                          clear c63
                          have H' := Aside0.mk H
                          clear H
                          go_wp2
                          go_meet
                          case rel => exact ⟨_, (false), q3_, H', ⟨q52_⟩, q6_⟩
                    case rest =>
                      clear HC58
                      try clear c1
                      try clear c2
                      try clear p2
                      try clear c3
                      try clear c4
                      try clear c4b0
                      try clear c4b1
                      try clear c5
                      try clear c6
                      try clear c6b0
                      try clear p6
                      try clear c7
                      try clear c7b0
                      try clear c9
                      try clear c9b0
                      try clear c11
                      try clear c11b0
                      try clear c13
                      try clear c13b0
                      try clear c13b1
                      try clear c14
                      try clear c14b0
                      try clear c15
                      try clear c15b0
                      try clear c16
                      try clear c16b0
                      try clear c16b1
                      try clear c17
                      try clear c17b0
                      try clear c18
                      try clear c18b0
                      try clear c18b1
                      try clear c19
                      try clear c20
                      try clear c20b0
                      try clear c21
                      try clear c22
                      try clear c24
                      try clear c24b0
                      try clear c26
                      try clear c26b0
                      try clear c28
                      try clear c28b0
                      try clear c28b1
                      try clear c29
                      try clear c29b0
                      try clear c30
                      try clear c30b0
                      try clear c31
                      try clear c31b0
                      try clear c31b1
                      try clear c32
                      try clear c32b0
                      try clear c33
                      try clear c33b0
                      try clear c33b1
                      try clear c34
                      try clear c35
                      try clear c35b0
                      try clear c36
                      try clear c37
                      try clear c38
                      try clear c38b0
                      try clear c40
                      try clear c40b0
                      try clear c42
                      try clear c42b0
                      try clear c44
                      try clear c44b0
                      try clear c44b1
                      try clear c45
                      try clear c45b0
                      try clear c46
                      try clear c46b0
                      try clear c47
                      try clear c47b0
                      try clear c47b1
                      try clear c48
                      try clear c48b0
                      try clear c49
                      try clear c49b0
                      try clear c49b1
                      try clear c50
                      try clear c51
                      try clear c51b0
                      try clear c52
                      try clear c53
                      try clear c55
                      try clear c55b0
                      try clear c57
                      try clear c57b0
                      try clear c59
                      try clear c59b0
                      try clear c59b1
                      try clear c60
                      try clear c60b0
                      try clear c61
                      try clear c61b0
                      try clear c62
                      try clear c62b0
                      try clear c62b1
                      try clear c63
                      try clear c63b0
                      try clear c64
                      try clear c64b0
                      try clear c64b1
                      try clear p64
                      try clear p2
                      try clear p6
                      obtain ⟨kq, x47_57, rfl, HA, HJ57, ⟨mc57, rfl⟩⟩ := hcut
                      cases kq with
                      | zero => exact absurd HA.out (by simp [corollaryref01_Times.j12])
                      | succ kj57 =>
                        have H := HA.out
                        clear HA
                        simp only [corollaryref01_Times.j12] at H
                        by_cases c65 : x47_57 = true
                        · subst c65
                          replace H := ifT_ H
                          simp only [Option.some.injEq, Prod.mk.injEq] at H
                          obtain ⟨rfl, rfl⟩ := H
                          go_wp2
                          go_ret2
                          exact ⟨q3_, q6_⟩
                        · replace c65 := Bool.eq_false_iff.mpr c65
                          subst c65
                          replace H := ifF_ H
                          by_cases c66 : x1_55 > (-9223372036854775808)
                          · rw [if_pos c66] at H
                            have c66b0 : decide ((-9223372036854775808) < x1_55) = true := decide_eq_true c66
                            clear c66
                            by_cases c67 : false = true
                            · exact absurd c67 (by decide)
                            · replace c67 := Bool.eq_false_iff.mpr c67
                              clear c67
                              (first | (rw [if_neg not_false] at H) | (replace H := ifF_ H) | skip)
                              simp only [Option.some.injEq, Prod.mk.injEq] at H
                              obtain ⟨rfl, rfl⟩ := H
                              go_wp2
                              go_ret2
                              exact ⟨q3_, q6_⟩
                          · rw [if_neg c66] at H
                            have c66b0 : decide ((-9223372036854775808) < x1_55) = false := decide_eq_false c66
                            clear c66
                            by_cases c68 : false = true
                            · exact absurd c68 (by decide)
                            · replace c68 := Bool.eq_false_iff.mpr c68
                              clear c68
                              (first | (rw [if_neg not_false] at H) | (replace H := ifF_ H) | skip)
                              simp only [Option.some.injEq, Prod.mk.injEq] at H
                              obtain ⟨rfl, rfl⟩ := H
                              go_wp2
                              go_ret2
                              exact ⟨q3_, q6_⟩


/-! ### corollaryref01_Sum: function 39 -/
def corollaryref01_Sum.f (a0 : Int) (a1 : Int) : Option (Int × Bool) := if a0 > 0 then (if a1 > (wrap64 (9223372036854775807 - a0)) then (some (0, false)) else (if a0 < 0 then (if a1 < (wrap64 ((-9223372036854775808) - a0)) then (some (0, false)) else (some (wrap64 (a0 + a1), true))) else (some (wrap64 (a0 + a1), true)))) else (if a0 < 0 then (if a1 < (wrap64 ((-9223372036854775808) - a0)) then (some (0, false)) else (some (wrap64 (a0 + a1), true))) else (some (wrap64 (a0 + a1), true)))
set_option maxHeartbeats 8000000 in
set_option maxRecDepth 100000 in
theorem corollaryref01_Sum.calls (a0 : Int) (a1 : Int) (r1 : Int) (r2 : Bool) (w : World) (h : corollaryref01_Sum.f a0 a1 = some (r1, r2)) :
    Calls Tryd.prog 39 #[.int .i64 a0, .int .i64 a1] w fun e w' => e = .returned (.tuple #[.int .i64 r1, .bool r2]) ∧ Drawn0 w w' := by
  have H : (if a0 > 0 then (if a1 > (wrap64 (9223372036854775807 - a0)) then (some (0, false)) else (if a0 < 0 then (if a1 < (wrap64 ((-9223372036854775808) - a0)) then (some (0, false)) else (some (wrap64 (a0 + a1), true))) else (some (wrap64 (a0 + a1), true)))) else (if a0 < 0 then (if a1 < (wrap64 ((-9223372036854775808) - a0)) then (some (0, false)) else (some (wrap64 (a0 + a1), true))) else (some (wrap64 (a0 + a1), true)))) = some (r1, r2) := h
  clear h
  by_cases c3 : a0 > 0
  · rw [if_pos c3] at H
    have c3b0 : decide (0 < a0) = true := decide_eq_true c3
    clear c3
    by_cases c4 : a1 > (wrap64 (9223372036854775807 - a0))
    · rw [if_pos c4] at H
      have c4b0 : decide ((wrap64 (9223372036854775807 - a0)) < a1) = true := decide_eq_true c4
      clear c4
      simp only [Option.some.injEq, Prod.mk.injEq] at H
      obtain ⟨rfl, rfl⟩ := H
      go_enter Tryd.func39, Tryd.ntmps39
      go_wp2
      go_ret2
      exact ⟨q3_, q6_⟩
    · rw [if_neg c4] at H
      have c4b0 : decide ((wrap64 (9223372036854775807 - a0)) < a1) = false := decide_eq_false c4
      clear c4
      by_cases c5 : a0 < 0
      · rw [if_pos c5] at H
        have c5b0 : decide (a0 < 0) = true := decide_eq_true c5
        clear c5
        by_cases c6 : a1 < (wrap64 ((-9223372036854775808) - a0))
        · rw [if_pos c6] at H
          have c6b0 : decide (a1 < (wrap64 ((-9223372036854775808) - a0))) = true := decide_eq_true c6
          clear c6
          simp only [Option.some.injEq, Prod.mk.injEq] at H
          obtain ⟨rfl, rfl⟩ := H
          go_enter Tryd.func39, Tryd.ntmps39
          go_wp2
          go_ret2
          exact ⟨q3_, q6_⟩
        · rw [if_neg c6] at H
          have c6b0 : decide (a1 < (wrap64 ((-9223372036854775808) - a0))) = false := decide_eq_false c6
          clear c6
          simp only [Option.some.injEq, Prod.mk.injEq] at H
          obtain ⟨rfl, rfl⟩ := H
          go_enter Tryd.func39, Tryd.ntmps39
          go_wp2
          go_ret2
          exact ⟨q3_, q6_⟩
      · rw [if_neg c5] at H
        have c5b0 : decide (a0 < 0) = false := decide_eq_false c5
        clear c5
        simp only [Option.some.injEq, Prod.mk.injEq] at H
        obtain ⟨rfl, rfl⟩ := H
        go_enter Tryd.func39, Tryd.ntmps39
        go_wp2
        go_ret2
        exact ⟨q3_, q6_⟩
  · rw [if_neg c3] at H
    have c3b0 : decide (0 < a0) = false := decide_eq_false c3
    clear c3
    by_cases c7 : a0 < 0
    · rw [if_pos c7] at H
      have c7b0 : decide (a0 < 0) = true := decide_eq_true c7
      clear c7
      by_cases c8 : a1 < (wrap64 ((-9223372036854775808) - a0))
      · rw [if_pos c8] at H
        have c8b0 : decide (a1 < (wrap64 ((-9223372036854775808) - a0))) = true := decide_eq_true c8
        clear c8
        simp only [Option.some.injEq, Prod.mk.injEq] at H
        obtain ⟨rfl, rfl⟩ := H
        go_enter Tryd.func39, Tryd.ntmps39
        go_wp2
        go_ret2
        exact ⟨q3_, q6_⟩
      · rw [if_neg c8] at H
        have c8b0 : decide (a1 < (wrap64 ((-9223372036854775808) - a0))) = false := decide_eq_false c8
        clear c8
        simp only [Option.some.injEq, Prod.mk.injEq] at H
        obtain ⟨rfl, rfl⟩ := H
        go_enter Tryd.func39, Tryd.ntmps39
        go_wp2
        go_ret2
        exact ⟨q3_, q6_⟩
    · rw [if_neg c7] at H
      have c7b0 : decide (a0 < 0) = false := decide_eq_false c7
      clear c7
      simp only [Option.some.injEq, Prod.mk.injEq] at H
      obtain ⟨rfl, rfl⟩ := H
      go_enter Tryd.func39, Tryd.ntmps39
      go_wp2
      go_ret2
      exact ⟨q3_, q6_⟩

end Go.Proofs.YtjcjndpfihchnaaDoor.P
