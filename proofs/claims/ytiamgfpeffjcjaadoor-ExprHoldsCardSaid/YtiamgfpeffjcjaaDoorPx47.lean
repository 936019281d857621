-- Written by our own program (wip/xprint) over the seat's translation. Lean checks it.
import Derived.Test.YtiamgfpeffjcjaaDoorPx0
import Derived.Test.YtiamgfpeffjcjaaDoorPx37
import Derived.Test.YtiamgfpeffjcjaaDoorPx38
import Derived.Test.YtiamgfpeffjcjaaDoorPx46
namespace Go.Proofs.YtiamgfpeffjcjaaDoor.P
open Go.RowKit Go.Proofs.YtiamgfpeffjcjaaDoorW.PrintWords Go.Proofs.YtiamgfpeffjcjaaDoorW.PrintLast Go.Proofs.YtiamgfpeffjcjaaDoorW.PrintMore
attribute [local go_sem] max2_int min2_int max_two min_two max_three min_three max_four min_four   -- for this text's walks alone
set_option linter.unusedVariables false
set_option linter.unusedSimpArgs false


/-! ### corollarylaw10_ExprHolds: function 7 -/
mutual
def corollarylaw10_ExprHolds.j0 : Nat → List (S39) → List (S31) → Bool → Option (Bool)
  | 0, _, _, _ => none
  | k + 1, x0, x1, x24 => if x24 = true then ((corollarylaw10_awake.f k).bind fun t429 => (some t429)) else ((expr_Holds.f k x0 x1).bind fun bt430 => (if ([] : List (S39)).length + x0.length < 2932031007402 then ((some (([] : List (S39)) ++ x0 : List (S39))).bind fun y432 => (if y432.length < 2932031007402 then ((expr_Holds.f k (y432 ++ [(⟨15, 0, (⟨0, 0, (⟨#[]⟩ : ByteArray)⟩ : S31)⟩ : S39)]) x1).bind fun bt438 => (if bt430.2 = 0 then (corollarylaw10_ExprHolds.j1 k x0 x1 bt430.1 bt438.1 (bt438.2 != 0)) else (corollarylaw10_ExprHolds.j1 k x0 x1 bt430.1 bt438.1 true))) else (none))) else (none)))
def corollarylaw10_ExprHolds.j1 : Nat → List (S39) → List (S31) → Bool → Bool → Bool → Option (Bool)
  | 0, _, _, _, _, _ => none
  | k + 1, x0, x1, x6, x8, x48 => if x48 = true then (if x6 = true then (if x8 = true then (some false) else ((corollarylaw10_awake.f k).bind fun t440 => (some t440))) else ((corollarylaw10_awake.f k).bind fun t441 => (some t441))) else ((expr_Eval.f k x0 x1).bind fun bt442 => (if x6 = true then (if x8 = true then (some false) else (if (true == (bt442.1 == 1)) = true then (if bt442.2.2.2 = 0 then ((corollarylaw10_awake.f k).bind fun t447 => (some t447)) else (some false)) else (some false))) else (if x8 = true then (if bt442.1 = 1 then (if bt442.2.2.2 = 0 then ((corollarylaw10_awake.f k).bind fun t448 => (some t448)) else (some false)) else (some false)) else (if bt442.1 = 1 then (some false) else (if bt442.2.2.2 = 0 then ((corollarylaw10_awake.f k).bind fun t449 => (some t449)) else (some false))))))
end
def corollarylaw10_ExprHolds.f (k : Nat) (l0 : List (S39)) (l1 : List (S31)) : Option (Bool) := if (l0.length : Int) > 30 then (corollarylaw10_ExprHolds.j0 k l0 l1 true) else (if (l1.length : Int) > 40 then (corollarylaw10_ExprHolds.j0 k l0 l1 true) else (corollarylaw10_ExprHolds.j0 k l0 l1 ((l0.length : Int) == 0)))
theorem corollarylaw10_ExprHolds.mono_l : ∀ k, (∀ y0 y1 y2, LeO (corollarylaw10_ExprHolds.j0 k y0 y1 y2) (corollarylaw10_ExprHolds.j0 (k + 1) y0 y1 y2)) ∧ (∀ y0 y1 y2 y3 y4, LeO (corollarylaw10_ExprHolds.j1 k y0 y1 y2 y3 y4) (corollarylaw10_ExprHolds.j1 (k + 1) y0 y1 y2 y3 y4))
  | 0 => ⟨fun _ _ _ r h => by simp [corollarylaw10_ExprHolds.j0] at h, fun _ _ _ _ _ r h => by simp [corollarylaw10_ExprHolds.j1] at h⟩
  | k + 1 => by
    obtain ⟨ih0, ih1⟩ := corollarylaw10_ExprHolds.mono_l k
    refine ⟨?_, ?_⟩
    all_goals intros
    all_goals first
      | unfold corollarylaw10_ExprHolds.j0
      | unfold corollarylaw10_ExprHolds.j1
    all_goals repeat' first
      | (with_reducible exact ih0 _ _ _)
      | (with_reducible exact ih1 _ _ _ _ _)
      | (with_reducible exact corollarylaw10_awake.mono _)
      | (with_reducible exact expr_Eval.mono _ _ _)
      | (with_reducible exact expr_Holds.mono _ _ _)
      | (with_reducible exact LeO.refl _)
      | (with_reducible exact LeO.none _)
      | (with_reducible refine LeO.ite ?_ ?_)
      | (with_reducible refine LeO.bind ?_ (fun _ => ?_))
      | exact ih0 _ _ _
      | exact ih1 _ _ _ _ _
      | exact corollarylaw10_awake.mono _
      | exact expr_Eval.mono _ _ _
      | exact expr_Holds.mono _ _ _
      | exact LeO.none _
      | refine LeO.ite ?_ ?_
      | refine LeO.bind ?_ (fun _ => ?_)
theorem corollarylaw10_ExprHolds.mono : ∀ a0 a1 k, LeO (corollarylaw10_ExprHolds.f k a0 a1) (corollarylaw10_ExprHolds.f (k + 1) a0 a1) := by
  intro a0 a1 k
  obtain ⟨ih0, ih1⟩ := corollarylaw10_ExprHolds.mono_l k
  unfold corollarylaw10_ExprHolds.f
  repeat' first
      | (with_reducible exact ih0 _ _ _)
      | (with_reducible exact ih1 _ _ _ _ _)
      | (with_reducible exact corollarylaw10_awake.mono _)
      | (with_reducible exact expr_Eval.mono _ _ _)
      | (with_reducible exact expr_Holds.mono _ _ _)
      | (with_reducible exact LeO.refl _)
      | (with_reducible exact LeO.none _)
      | (with_reducible refine LeO.ite ?_ ?_)
      | (with_reducible refine LeO.bind ?_ (fun _ => ?_))
      | exact ih0 _ _ _
      | exact ih1 _ _ _ _ _
      | exact corollarylaw10_awake.mono _
      | exact expr_Eval.mono _ _ _
      | exact expr_Holds.mono _ _ _
      | exact LeO.none _
      | refine LeO.ite ?_ ?_
      | refine LeO.bind ?_ (fun _ => ?_)
set_option maxHeartbeats 8000000 in
set_option maxRecDepth 100000 in
theorem corollarylaw10_ExprHolds.calls (k : Nat) (A0 : Option Addr) (c0 : Nat) (l0 : List (S39)) (A1 : Option Addr) (c1 : Nat) (l1 : List (S31)) (r : Bool) (w : World) (hr0 : Kd.C k39 w A0 l0.length l0) (hc0 : l0.length ≤ c0) (hr1 : Kd.C k31 w A1 l1.length l1) (hc1 : l1.length ≤ c1) (h : corollarylaw10_ExprHolds.f k l0 l1 = some r) (hG : Glob w) :
    Calls Tryd.prog 7 #[.slice A0 l0.length c0, .slice A1 l1.length c1] w fun e w' => e = .returned (.bool r) ∧ Below w.heap.size w w' := by
  have hu39 := Tryd.underlying39
  have hu31 := Tryd.underlying31
  have HG := Aside0.mk hG
  clear hG
  have HR0 := Aside0.mk hr0
  have HC0 := Aside0.mk hc0
  clear hr0 hc0
  have HR1 := Aside0.mk hr1
  have HC1 := Aside0.mk hc1
  clear hr1 hc1
  have HB := Aside0.mk (Below.refl w.heap.size w)
  have H : (if (l0.length : Int) > 30 then (corollarylaw10_ExprHolds.j0 k l0 l1 true) else (if (l1.length : Int) > 40 then (corollarylaw10_ExprHolds.j0 k l0 l1 true) else (corollarylaw10_ExprHolds.j0 k l0 l1 ((l0.length : Int) == 0)))) = some r := h
  clear h
  have HC3 := Aside0.mk H
  clear H
  go_enter Tryd.func7, Tryd.ntmps7
  go_upto_region 1 with (fail)
  go_cut [24] (fun v24 wc => ∃ (kq : Nat) (x24_2 : Bool), v24 = .bool x24_2 ∧ Aside0 (corollarylaw10_ExprHolds.j0 kq l0 l1 x24_2 = some r) ∧ Aside0 (kq ≤ k) ∧ Aside0 (Below w.heap.size w wc))
  case first =>
    have H := HC3.out
    clear HC3
    by_cases c4 : (l0.length : Int) > 30
    · rw [if_pos c4] at H
      have c4b0 : decide (30 < (l0.length : Int)) = true := decide_eq_true c4
      have c4b1 : decide (30 < l0.length) = true := decide_eq_true (by omega)
      clear c4
      (first | rw [c4b0] | (simp only [i64_w, i32_w]; rw [c4b0]) | skip)
      have H' := Aside0.mk H
      clear H
      go_wp2
      go_meet
      case rel => exact ⟨_, (true), q7_, H', ⟨by first | omega | exact Nat.le_refl _⟩, ⟨q0_⟩⟩
    · rw [if_neg c4] at H
      have c4b0 : decide (30 < (l0.length : Int)) = false := decide_eq_false c4
      have c4b1 : decide (30 < l0.length) = false := decide_eq_false (by omega)
      clear c4
      (first | rw [c4b0] | (simp only [i64_w, i32_w]; rw [c4b0]) | skip)
      by_cases c5 : (l1.length : Int) > 40
      · rw [if_pos c5] at H
        have c5b0 : decide (40 < (l1.length : Int)) = true := decide_eq_true c5
        have c5b1 : decide (40 < l1.length) = true := decide_eq_true (by omega)
        clear c5
        have H' := Aside0.mk H
        clear H
        go_wp2
        go_meet
        case rel => exact ⟨_, (true), q7_, H', ⟨by first | omega | exact Nat.le_refl _⟩, ⟨q0_⟩⟩
      · rw [if_neg c5] at H
        have c5b0 : decide (40 < (l1.length : Int)) = false := decide_eq_false c5
        have c5b1 : decide (40 < l1.length) = false := decide_eq_false (by omega)
        clear c5
        have H' := Aside0.mk H
        clear H
        go_wp2
        go_meet
        case rel => exact ⟨_, (((l0.length : Int) == 0)), q7_, H', ⟨by first | omega | exact Nat.le_refl _⟩, ⟨q0_⟩⟩
  case rest =>
    clear HC3
    try clear c1
    try clear p2
    try clear c4
    try clear c4b0
    try clear c4b1
    try clear c5
    try clear c5b0
    try clear c5b1
    obtain ⟨kq, x24_2, rfl, HA, HJ2, HB⟩ := hcut
    cases kq with
    | zero => exact absurd HA.out (by simp [corollarylaw10_ExprHolds.j0])
    | succ kj2 =>
      have H := HA.out
      clear HA
      simp only [corollarylaw10_ExprHolds.j0] at H
      by_cases c6 : x24_2 = true
      · subst c6
        replace H := ifT_ H
        replace H := Option.bind_eq_some_iff.mp H
        obtain ⟨t429, A70, H⟩ := H
        replace H : (some t429) = some r := H
        have A7 := Aside0.mk A70
        clear A70
        obtain rfl := Option.some.inj H
        go_wp2_with (first | ((with_reducible refine gate_callee (f := 9) rfl ?_); refine goesL_ (some 25) rfl rfl Tryd.func9 (by kernel_rfl) rfl #[] rfl q2_ ?_; (with_reducible refine (corollarylaw10_awake.calls kj2  t429 _ A7.out q3_).mono ?_); rintro e w8 ⟨rfl, hb⟩; refine ⟨_, rfl, ?_⟩; have n0_ := Aside0.mk (below_step q0_ hb); clear HB; have HB := n0_; clear n0_; (try clear hb); (try clear hb2); (try clear hk); (try clear hi)))
        go_ret
        exact ⟨q4_, q0_⟩
      · replace c6 := Bool.eq_false_iff.mpr c6
        subst c6
        replace H := ifF_ H
        replace H := Option.bind_eq_some_iff.mp H
        obtain ⟨⟨t430, t431⟩, A90, H⟩ := H
        replace H : (if ([] : List (S39)).length + l0.length < 2932031007402 then ((some (([] : List (S39)) ++ l0 : List (S39))).bind fun y432 => (if y432.length < 2932031007402 then ((expr_Holds.f kj2 (y432 ++ [(⟨15, 0, (⟨0, 0, (⟨#[]⟩ : ByteArray)⟩ : S31)⟩ : S39)]) l1).bind fun bt438 => (if t431 = 0 then (corollarylaw10_ExprHolds.j1 kj2 l0 l1 t430 bt438.1 (bt438.2 != 0)) else (corollarylaw10_ExprHolds.j1 kj2 l0 l1 t430 bt438.1 true))) else (none))) else (none)) = some r := H
        have A9 := Aside0.mk A90
        clear A90
        by_cases c10 : ([] : List (S39)).length + l0.length < 2932031007402
        · rw [if_pos c10] at H
          have LMc10 := Aside0.mk c10
          clear c10
          obtain ⟨y432, hy432⟩ : ∃ y_ : List (S39), y_ = (([] : List (S39)) ++ l0) := ⟨_, rfl⟩
          replace H : (if y432.length < 2932031007402 then ((expr_Holds.f kj2 (y432 ++ [(⟨15, 0, (⟨0, 0, (⟨#[]⟩ : ByteArray)⟩ : S31)⟩ : S39)]) l1).bind fun bt438 => (if t431 = 0 then (corollarylaw10_ExprHolds.j1 kj2 l0 l1 t430 bt438.1 (bt438.2 != 0)) else (corollarylaw10_ExprHolds.j1 kj2 l0 l1 t430 bt438.1 true))) else (none)) = some r := by first | (rw [hy432]; with_reducible exact H) | (have H2_ := (Option.bind_some _ _).symm.trans H; rw [hy432]; with_reducible exact H2_) | (have H2_ := (Option.bind_some _ _).symm.trans H; with_reducible exact H2_) | with_reducible exact H | (rw [hy432]; exact H) | exact H
          have Ny432 := Aside0.mk hy432
          clear hy432
          by_cases c11 : y432.length < 2932031007402
          · rw [if_pos c11] at H
            have LMc11 := Aside0.mk c11
            clear c11
            obtain ⟨y435, hy435⟩ : ∃ y_ : List (S39), y_ = (y432 ++ [(⟨15, 0, (⟨0, 0, (⟨#[]⟩ : ByteArray)⟩ : S31)⟩ : S39)]) := ⟨_, rfl⟩
            replace H : ((expr_Holds.f kj2 y435 l1).bind fun bt438 => (if t431 = 0 then (corollarylaw10_ExprHolds.j1 kj2 l0 l1 t430 bt438.1 (bt438.2 != 0)) else (corollarylaw10_ExprHolds.j1 kj2 l0 l1 t430 bt438.1 true))) = some r := by first | (rw [hy435]; with_reducible exact H) | (have H2_ := (Option.bind_some _ _).symm.trans H; rw [hy435]; with_reducible exact H2_) | (have H2_ := (Option.bind_some _ _).symm.trans H; with_reducible exact H2_) | with_reducible exact H | (rw [hy435]; exact H) | exact H
            have Ny435 := Aside0.mk hy435
            clear hy435
            replace H := Option.bind_eq_some_iff.mp H
            obtain ⟨⟨t438, t439⟩, A120, H⟩ := H
            replace H : (if t431 = 0 then (corollarylaw10_ExprHolds.j1 kj2 l0 l1 t430 t438 (t439 != 0)) else (corollarylaw10_ExprHolds.j1 kj2 l0 l1 t430 t438 true)) = some r := H
            have A12 := Aside0.mk A120
            clear A120
            have HC13 := Aside0.mk H
            clear H
            go_upto_region 6 with (first | ((with_reducible refine gate_callee (f := 14) rfl ?_); refine goesL_ (some 29) rfl rfl Tryd.func14 (by kernel_rfl) rfl #[.slice A0 l0.length c0, .slice A1 l1.length c1] rfl q2_ ?_; (with_reducible refine (expr_Holds.calls kj2 _ _ l0 _ _ l1 t430 t431 _ ?side1 ?side2 ?side3 ?side4 A9.out q3_).mono ?_); (case side1 => repeat (first | exact (Kd.C_below HR0.out HB.out) | (with_reducible refine Kd.C_alloc ?_ _) | (with_reducible refine Kd.C_drewN ?_ _) | (with_reducible refine Kd.C_drew ?_))); (case side2 => exact HC0.out); (case side3 => repeat (first | exact (Kd.C_below HR1.out HB.out) | (with_reducible refine Kd.C_alloc ?_ _) | (with_reducible refine Kd.C_drewN ?_ _) | (with_reducible refine Kd.C_drew ?_))); (case side4 => exact HC1.out); rintro e w14 ⟨rfl, hb⟩; refine ⟨_, rfl, ?_⟩; have n0_ := Aside0.mk (below_step q0_ hb); clear HB; have HB := n0_; clear n0_; (try clear hb); (try clear hb2); (try clear hk); (try clear hi)) | ((with_reducible refine gate_builtin (b := .append) (xs := #[.tmp 33, .tmp 34]) rfl ?_); (try (refine gate_guard (by rfl) ?_; dsimp only)); at_builtin; refine Kd.R_append_rows k39 (w0 := w) w.heap.size rfl (.tmp 33) (.tmp 34) 22 39 (.agg #[(.int .i64 0), (.int .i64 0), (.int .i64 0), (.int .i64 0), (.string ⟨#[]⟩)]) 48 rfl Tryd.underlying22 info39 rfl (by decide) (by omega) (.slice none 0 0) ([] : List (S39)) l0 _ _ _ (fun _ => True) (fun _ => False) rfl rfl ?aO ?aR (fun _ _ h => h) (fun _ h => h.elim) ?aF ?aB ?aS ?aL ?_; (case aR => repeat (first | exact (Kd.C_below HR0.out HB.out) | (with_reducible refine Kd.C_alloc ?_ _) | (with_reducible refine Kd.C_drewN ?_ _) | (with_reducible refine Kd.C_drew ?_))); (case aB => exact q0_); (case aF => exact (fun _ _ => trivial)); (case aO => exact ((Kd.R_nil _ _ _ _ (fun _ => True)))); (case aS => exact (below_size q0_)); (case aL => have := LMc10.out; omega); intro v433 w15 ho hb hg hat; rw [← Ny432.out] at ho; have n0_ := Aside0.mk (hb); have n1_ := Aside0.mk (ho); clear HB; have HB := n0_; have HO434 := n1_; clear n0_ n1_; clear ho hb hg hat) | ((with_reducible refine gate_builtin (b := .append) (xs := #[.tmp 35, .tmp 37]) rfl ?_); (try (refine gate_guard (by rfl) ?_; dsimp only)); at_builtin; refine Kd.R_append k39 (w0 := w) w.heap.size rfl (.tmp 35) (.tmp 37) 22 39 (.agg #[(.int .i64 0), (.int .i64 0), (.int .i64 0), (.int .i64 0), (.string ⟨#[]⟩)]) 48 rfl Tryd.underlying22 info39 rfl (by decide) (by omega) v433 y432 (⟨15, 0, (⟨0, 0, (⟨#[]⟩ : ByteArray)⟩ : S31)⟩ : S39) [.int .i64 15, .int .i64 0, .int .i64 0, .int .i64 0, .string (⟨#[]⟩ : ByteArray)] (fun _ => True) (fun _ => False) rfl rfl ?aP (fun _ hk => hk.elim) ?aF ?aO ?aB ?aS ?aL ?_; (case aP => exact k39_mkM _ _ _ (⟨15, 0, (⟨0, 0, (⟨#[]⟩ : ByteArray)⟩ : S31)⟩ : S39)); (case aB => exact q0_); (case aF => exact (fun _ _ => trivial)); (case aO => exact (by (with_reducible repeat (first | apply Kd.R_alloc | apply Kd.R_drewN | apply Kd.R_drew)); exact HO434.out)); (case aS => exact (below_size q0_)); (case aL => have := LMc11.out; omega); intro v436 w16 ho hb hg hat; rw [← Ny435.out] at ho; have n0_ := Aside0.mk (hb); have n1_ := Aside0.mk (ho); clear HB; clear HO434; have HB := n0_; have HO437 := n1_; clear n0_ n1_; clear ho hb hg hat; obtain ⟨Ao17, co17, eo17⟩ := Kd.R_slice HO437.out; subst eo17) | ((with_reducible refine gate_callee (f := 14) rfl ?_); refine goesL_ (some 40) rfl rfl Tryd.func14 (by kernel_rfl) rfl #[.slice Ao17 y435.length co17, .slice A1 l1.length c1] rfl q2_ ?_; (with_reducible refine (expr_Holds.calls kj2 _ _ y435 _ _ l1 t438 t439 _ ?side1 ?side2 ?side3 ?side4 A12.out q3_).mono ?_); (case side1 => repeat (first | exact (Kd.R_reads' HO437.out).2.2 | (with_reducible refine Kd.C_alloc ?_ _) | (with_reducible refine Kd.C_drewN ?_ _) | (with_reducible refine Kd.C_drew ?_))); (case side2 => exact (Kd.R_reads' HO437.out).2.1); (case side3 => repeat (first | exact (Kd.C_below HR1.out HB.out) | (with_reducible refine Kd.C_alloc ?_ _) | (with_reducible refine Kd.C_drewN ?_ _) | (with_reducible refine Kd.C_drew ?_))); (case side4 => exact HC1.out); rintro e w18 ⟨rfl, hb⟩; refine ⟨_, rfl, ?_⟩; have n0_ := Aside0.mk (Kd.R_below (by (with_reducible repeat (first | apply Kd.R_alloc | apply Kd.R_drewN | apply Kd.R_drew)); exact HO437.out) hb); have n1_ := Aside0.mk (below_step q0_ hb); clear HO437; clear HB; have HO437 := n0_; have HB := n1_; clear n0_ n1_; (try clear hb); (try clear hb2); (try clear hk); (try clear hi)))
            (try simp only [Act.put, List.setIfInBounds_toArray, List.set_cons_zero, List.set_cons_succ])
            go_cut [48] (fun v48 wc => ∃ (kq : Nat) (x48_12 : Bool), v48 = .bool x48_12 ∧ Aside0 (corollarylaw10_ExprHolds.j1 kq l0 l1 t430 t438 x48_12 = some r) ∧ Aside0 (kq ≤ kj2) ∧ Aside0 (Below w.heap.size w wc))
            case first =>
              have H := HC13.out
              clear HC13
              by_cases c19 : t431 = 0
              · rw [if_pos c19] at H
                have c19b0 : (t431 == 0) = true := beq_iff_eq.mpr c19
                have c19b1 : (t431 != 0) = false := bne_eq_false_iff_eq.mpr c19
                clear c19
                (first | rw [c19b0] | (simp only [i64_w, i32_w]; rw [c19b0]) | skip)
                have H' := Aside0.mk H
                clear H
                go_wp2
                go_meet
                case rel => exact ⟨_, ((t439 != 0)), q7_, H', ⟨by have := HJ2.out; first | omega | exact Nat.le_refl _⟩, ⟨q0_⟩⟩
              · rw [if_neg c19] at H
                have c19b0 : (t431 == 0) = false := beq_eq_false_iff_ne.mpr c19
                have c19b1 : (t431 != 0) = true := bne_iff_ne.mpr c19
                (first | rw [c19b0] | (simp only [i64_w, i32_w]; rw [c19b0]) | skip)
                have H' := Aside0.mk H
                clear H
                go_wp2
                go_meet
                case rel => exact ⟨_, (true), q7_, H', ⟨by have := HJ2.out; first | omega | exact Nat.le_refl _⟩, ⟨q0_⟩⟩
            case rest =>
              clear HC13
              try clear c1
              try clear p2
              try clear c4
              try clear c4b0
              try clear c4b1
              try clear c5
              try clear c5b0
              try clear c5b1
              try clear c6
              try clear c7
              try clear c9
              try clear c10
              try clear c11
              try clear c14
              try clear c19
              try clear c19b0
              try clear c19b1
              try clear p2
              obtain ⟨kq, x48_12, rfl, HA, HJ12, HB⟩ := hcut
              cases kq with
              | zero => exact absurd HA.out (by simp [corollarylaw10_ExprHolds.j1])
              | succ kj12 =>
                have H := HA.out
                clear HA
                simp only [corollarylaw10_ExprHolds.j1] at H
                by_cases c20 : x48_12 = true
                · subst c20
                  replace H := ifT_ H
                  by_cases c21 : t430 = true
                  · subst c21
                    replace H := ifT_ H
                    by_cases c22 : t438 = true
                    · subst c22
                      replace H := ifT_ H
                      obtain rfl := Option.some.inj H
                      go_wp2
                      go_ret
                      exact ⟨q4_, q0_⟩
                    · replace c22 := Bool.eq_false_iff.mpr c22
                      subst c22
                      replace H := ifF_ H
                      replace H := Option.bind_eq_some_iff.mp H
                      obtain ⟨t440, A230, H⟩ := H
                      replace H : (some t440) = some r := H
                      have A23 := Aside0.mk A230
                      clear A230
                      obtain rfl := Option.some.inj H
                      go_wp2_with (first | (go_at_call 9; (with_reducible refine (corollarylaw10_awake.calls kj12  t440 _ A23.out q3_).mono ?_); rintro e w24 ⟨rfl, hb⟩; have n0_ := Aside0.mk (below_step q0_ hb); clear HB; have HB := n0_; clear n0_; (try clear hb); (try clear hb2); (try clear hk); (try clear hi)))
                      go_ret
                      exact ⟨q4_, q0_⟩
                  · replace c21 := Bool.eq_false_iff.mpr c21
                    subst c21
                    replace H := ifF_ H
                    replace H := Option.bind_eq_some_iff.mp H
                    obtain ⟨t441, A250, H⟩ := H
                    replace H : (some t441) = some r := H
                    have A25 := Aside0.mk A250
                    clear A250
                    obtain rfl := Option.some.inj H
                    go_wp2_with (first | (go_at_call 9; (with_reducible refine (corollarylaw10_awake.calls kj12  t441 _ A25.out q3_).mono ?_); rintro e w26 ⟨rfl, hb⟩; have n0_ := Aside0.mk (below_step q0_ hb); clear HB; have HB := n0_; clear n0_; (try clear hb); (try clear hb2); (try clear hk); (try clear hi)))
                    go_ret
                    exact ⟨q4_, q0_⟩
                · replace c20 := Bool.eq_false_iff.mpr c20
                  subst c20
                  replace H := ifF_ H
                  replace H := Option.bind_eq_some_iff.mp H
                  obtain ⟨⟨t442, t443, t444, t445⟩, A270, H⟩ := H
                  replace H : (if t430 = true then (if t438 = true then (some false) else (if (true == (t442 == 1)) = true then (if t445 = 0 then ((corollarylaw10_awake.f kj12).bind fun t447 => (some t447)) else (some false)) else (some false))) else (if t438 = true then (if t442 = 1 then (if t445 = 0 then ((corollarylaw10_awake.f kj12).bind fun t448 => (some t448)) else (some false)) else (some false)) else (if t442 = 1 then (some false) else (if t445 = 0 then ((corollarylaw10_awake.f kj12).bind fun t449 => (some t449)) else (some false))))) = some r := H
                  have A27 := Aside0.mk A270
                  clear A270
                  by_cases c28 : t430 = true
                  · subst c28
                    replace H := ifT_ H
                    by_cases c29 : t438 = true
                    · subst c29
                      replace H := ifT_ H
                      obtain rfl := Option.some.inj H
                      go_wp2_with (first | ((with_reducible refine gate_callee (f := 12) rfl ?_); refine goesL_ (some 60) rfl rfl Tryd.func12 (by kernel_rfl) rfl #[.slice A0 l0.length c0, .slice A1 l1.length c1] rfl q2_ ?_; (with_reducible refine (expr_Eval.calls kj12 _ _ l0 _ _ l1 t442 t443 t444 t445 _ ?side1 ?side2 ?side3 ?side4 A27.out q3_).mono ?_); (case side1 => repeat (first | exact (Kd.C_below HR0.out HB.out) | (with_reducible refine Kd.C_alloc ?_ _) | (with_reducible refine Kd.C_drewN ?_ _) | (with_reducible refine Kd.C_drew ?_))); (case side2 => exact HC0.out); (case side3 => repeat (first | exact (Kd.C_below HR1.out HB.out) | (with_reducible refine Kd.C_alloc ?_ _) | (with_reducible refine Kd.C_drewN ?_ _) | (with_reducible refine Kd.C_drew ?_))); (case side4 => exact HC1.out); rintro e w30 ⟨rfl, hb⟩; refine ⟨_, rfl, ?_⟩; have n0_ := Aside0.mk (below_step q0_ hb); clear HB; have HB := n0_; clear n0_; (try clear hb); (try clear hb2); (try clear hk); (try clear hi)) | ((with_reducible refine gate_dst (N := 10) rfl ?_); (try (refine gate_guard (by rfl) ?_; dsimp only)); refine box_event ?hg (N := 10) ?hd (cs := #[.int .i64 0, .int .i64 0, .string (⟨#[]⟩ : ByteArray)]) (t := 31) ?hr ?_; (case hd => rfl); (case hg => rfl); (case hr => first | (go_simp; done) | (go_simp; rfl)); intro gb446 hg w31 hbox hb; have n0_ := Aside0.mk (below_step q0_ hb); have n1_ := Aside0.mk (hbox); have n2_ := Aside0.mk ((q1_ : w.heap.size ≤ gb446)); have n3_ := Aside0.mk ((q1_ : w.heap.size ≤ gb446)); clear HB; have HB := n0_; have BK446 := n1_; have GW446 := n2_; have GE446 := n3_; clear n0_ n1_ n2_ n3_; clear hb hbox hg; have hcz32_0 : w31.cell? ⟨gb446, 0, none⟩ = some (.int .i64 0) := (blk_cell BK446.out 0).trans rfl; have hcz32_1 : w31.cell? ⟨gb446, 1, none⟩ = some (.int .i64 0) := (blk_cell BK446.out 1).trans rfl; have hcz32_2 : w31.cell? ⟨gb446, 2, none⟩ = some (.string (⟨#[]⟩ : ByteArray)) := (blk_cell BK446.out 2).trans rfl; have hfz32_0 := blk_frozen BK446.out 0; have hfz32_1 := blk_frozen BK446.out 1; have hfz32_2 := blk_frozen BK446.out 2))
                      go_ret
                      exact ⟨q4_, q0_⟩
                    · replace c29 := Bool.eq_false_iff.mpr c29
                      subst c29
                      replace H := ifF_ H
                      by_cases c33 : (true == (t442 == 1)) = true
                      · rw [if_pos c33] at H
                        have c33b0 : (true == (t442 == 1)) = true := c33
                        (try (have c33b1 : decide (true = (t442 == 1)) = true := by simpa using c33))
                        (try (have c33b2 : (true == (t442 == 1)) = true := by simpa using c33))
                        clear c33
                        by_cases c34 : t445 = 0
                        · rw [if_pos c34] at H
                          have c34b0 : (t445 == 0) = true := beq_iff_eq.mpr c34
                          have c34b1 : (t445 != 0) = false := bne_eq_false_iff_eq.mpr c34
                          clear c34
                          replace H := Option.bind_eq_some_iff.mp H
                          obtain ⟨t447, A350, H⟩ := H
                          replace H : (some t447) = some r := H
                          have A35 := Aside0.mk A350
                          clear A350
                          obtain rfl := Option.some.inj H
                          go_wp2_with (first | ((with_reducible refine gate_callee (f := 12) rfl ?_); refine goesL_ (some 60) rfl rfl Tryd.func12 (by kernel_rfl) rfl #[.slice A0 l0.length c0, .slice A1 l1.length c1] rfl q2_ ?_; (with_reducible refine (expr_Eval.calls kj12 _ _ l0 _ _ l1 t442 t443 t444 t445 _ ?side1 ?side2 ?side3 ?side4 A27.out q3_).mono ?_); (case side1 => repeat (first | exact (Kd.C_below HR0.out HB.out) | (with_reducible refine Kd.C_alloc ?_ _) | (with_reducible refine Kd.C_drewN ?_ _) | (with_reducible refine Kd.C_drew ?_))); (case side2 => exact HC0.out); (case side3 => repeat (first | exact (Kd.C_below HR1.out HB.out) | (with_reducible refine Kd.C_alloc ?_ _) | (with_reducible refine Kd.C_drewN ?_ _) | (with_reducible refine Kd.C_drew ?_))); (case side4 => exact HC1.out); rintro e w36 ⟨rfl, hb⟩; refine ⟨_, rfl, ?_⟩; have n0_ := Aside0.mk (below_step q0_ hb); clear HB; have HB := n0_; clear n0_; (try clear hb); (try clear hb2); (try clear hk); (try clear hi)) | ((with_reducible refine gate_dst (N := 10) rfl ?_); (try (refine gate_guard (by rfl) ?_; dsimp only)); refine box_event ?hg (N := 10) ?hd (cs := #[.int .i64 0, .int .i64 0, .string (⟨#[]⟩ : ByteArray)]) (t := 31) ?hr ?_; (case hd => rfl); (case hg => rfl); (case hr => first | (go_simp; done) | (go_simp; rfl)); intro gb446 hg w37 hbox hb; have n0_ := Aside0.mk (below_step q0_ hb); have n1_ := Aside0.mk (hbox); have n2_ := Aside0.mk ((q1_ : w.heap.size ≤ gb446)); have n3_ := Aside0.mk ((q1_ : w.heap.size ≤ gb446)); clear HB; have HB := n0_; have BK446 := n1_; have GW446 := n2_; have GE446 := n3_; clear n0_ n1_ n2_ n3_; clear hb hbox hg; have hcz38_0 : w37.cell? ⟨gb446, 0, none⟩ = some (.int .i64 0) := (blk_cell BK446.out 0).trans rfl; have hcz38_1 : w37.cell? ⟨gb446, 1, none⟩ = some (.int .i64 0) := (blk_cell BK446.out 1).trans rfl; have hcz38_2 : w37.cell? ⟨gb446, 2, none⟩ = some (.string (⟨#[]⟩ : ByteArray)) := (blk_cell BK446.out 2).trans rfl; have hfz38_0 := blk_frozen BK446.out 0; have hfz38_1 := blk_frozen BK446.out 1; have hfz38_2 := blk_frozen BK446.out 2) | (go_at_call 9; (with_reducible refine (corollarylaw10_awake.calls kj12  t447 _ A35.out q100_).mono ?_); rintro e w39 ⟨rfl, hb⟩; have n0_ := Aside0.mk (blk_below (g := gb446) (o := .cells #[.int .i64 t442, .int .i64 t443, .string t444] 31 (0, 0)) q58_ hb); have n1_ := Aside0.mk (below_step q0_ hb); clear BK446; clear HB; have BK446 := n0_; have HB := n1_; clear n0_ n1_; (try clear hb); (try clear hb2); (try clear hk); (try clear hi)))
                          go_ret
                          exact ⟨q4_, q0_⟩
                        · rw [if_neg c34] at H
                          have c34b0 : (t445 == 0) = false := beq_eq_false_iff_ne.mpr c34
                          have c34b1 : (t445 != 0) = true := bne_iff_ne.mpr c34
                          obtain rfl := Option.some.inj H
                          go_wp2_with (first | ((with_reducible refine gate_callee (f := 12) rfl ?_); refine goesL_ (some 60) rfl rfl Tryd.func12 (by kernel_rfl) rfl #[.slice A0 l0.length c0, .slice A1 l1.length c1] rfl q2_ ?_; (with_reducible refine (expr_Eval.calls kj12 _ _ l0 _ _ l1 t442 t443 t444 t445 _ ?side1 ?side2 ?side3 ?side4 A27.out q3_).mono ?_); (case side1 => repeat (first | exact (Kd.C_below HR0.out HB.out) | (with_reducible refine Kd.C_alloc ?_ _) | (with_reducible refine Kd.C_drewN ?_ _) | (with_reducible refine Kd.C_drew ?_))); (case side2 => exact HC0.out); (case side3 => repeat (first | exact (Kd.C_below HR1.out HB.out) | (with_reducible refine Kd.C_alloc ?_ _) | (with_reducible refine Kd.C_drewN ?_ _) | (with_reducible refine Kd.C_drew ?_))); (case side4 => exact HC1.out); rintro e w40 ⟨rfl, hb⟩; refine ⟨_, rfl, ?_⟩; have n0_ := Aside0.mk (below_step q0_ hb); clear HB; have HB := n0_; clear n0_; (try clear hb); (try clear hb2); (try clear hk); (try clear hi)) | ((with_reducible refine gate_dst (N := 10) rfl ?_); (try (refine gate_guard (by rfl) ?_; dsimp only)); refine box_event ?hg (N := 10) ?hd (cs := #[.int .i64 0, .int .i64 0, .string (⟨#[]⟩ : ByteArray)]) (t := 31) ?hr ?_; (case hd => rfl); (case hg => rfl); (case hr => first | (go_simp; done) | (go_simp; rfl)); intro gb446 hg w41 hbox hb; have n0_ := Aside0.mk (below_step q0_ hb); have n1_ := Aside0.mk (hbox); have n2_ := Aside0.mk ((q1_ : w.heap.size ≤ gb446)); have n3_ := Aside0.mk ((q1_ : w.heap.size ≤ gb446)); clear HB; have HB := n0_; have BK446 := n1_; have GW446 := n2_; have GE446 := n3_; clear n0_ n1_ n2_ n3_; clear hb hbox hg; have hcz42_0 : w41.cell? ⟨gb446, 0, none⟩ = some (.int .i64 0) := (blk_cell BK446.out 0).trans rfl; have hcz42_1 : w41.cell? ⟨gb446, 1, none⟩ = some (.int .i64 0) := (blk_cell BK446.out 1).trans rfl; have hcz42_2 : w41.cell? ⟨gb446, 2, none⟩ = some (.string (⟨#[]⟩ : ByteArray)) := (blk_cell BK446.out 2).trans rfl; have hfz42_0 := blk_frozen BK446.out 0; have hfz42_1 := blk_frozen BK446.out 1; have hfz42_2 := blk_frozen BK446.out 2))
                          go_ret
                          exact ⟨q4_, q0_⟩
                      · rw [if_neg c33] at H
                        have c33b0 : (true == (t442 == 1)) = false := by simpa using c33
                        (try (have c33b1 : decide (true = (t442 == 1)) = false := by simpa using c33))
                        (try (have c33b2 : (true == (t442 == 1)) = false := by simpa using c33))
                        (try (have c33b3 : ¬ (true = (t442 == 1)) := by simpa using c33))
                        clear c33
                        obtain rfl := Option.some.inj H
                        go_wp2_with (first | ((with_reducible refine gate_callee (f := 12) rfl ?_); refine goesL_ (some 60) rfl rfl Tryd.func12 (by kernel_rfl) rfl #[.slice A0 l0.length c0, .slice A1 l1.length c1] rfl q2_ ?_; (with_reducible refine (expr_Eval.calls kj12 _ _ l0 _ _ l1 t442 t443 t444 t445 _ ?side1 ?side2 ?side3 ?side4 A27.out q3_).mono ?_); (case side1 => repeat (first | exact (Kd.C_below HR0.out HB.out) | (with_reducible refine Kd.C_alloc ?_ _) | (with_reducible refine Kd.C_drewN ?_ _) | (with_reducible refine Kd.C_drew ?_))); (case side2 => exact HC0.out); (case side3 => repeat (first | exact (Kd.C_below HR1.out HB.out) | (with_reducible refine Kd.C_alloc ?_ _) | (with_reducible refine Kd.C_drewN ?_ _) | (with_reducible refine Kd.C_drew ?_))); (case side4 => exact HC1.out); rintro e w43 ⟨rfl, hb⟩; refine ⟨_, rfl, ?_⟩; have n0_ := Aside0.mk (below_step q0_ hb); clear HB; have HB := n0_; clear n0_; (try clear hb); (try clear hb2); (try clear hk); (try clear hi)) | ((with_reducible refine gate_dst (N := 10) rfl ?_); (try (refine gate_guard (by rfl) ?_; dsimp only)); refine box_event ?hg (N := 10) ?hd (cs := #[.int .i64 0, .int .i64 0, .string (⟨#[]⟩ : ByteArray)]) (t := 31) ?hr ?_; (case hd => rfl); (case hg => rfl); (case hr => first | (go_simp; done) | (go_simp; rfl)); intro gb446 hg w44 hbox hb; have n0_ := Aside0.mk (below_step q0_ hb); have n1_ := Aside0.mk (hbox); have n2_ := Aside0.mk ((q1_ : w.heap.size ≤ gb446)); have n3_ := Aside0.mk ((q1_ : w.heap.size ≤ gb446)); clear HB; have HB := n0_; have BK446 := n1_; have GW446 := n2_; have GE446 := n3_; clear n0_ n1_ n2_ n3_; clear hb hbox hg; have hcz45_0 : w44.cell? ⟨gb446, 0, none⟩ = some (.int .i64 0) := (blk_cell BK446.out 0).trans rfl; have hcz45_1 : w44.cell? ⟨gb446, 1, none⟩ = some (.int .i64 0) := (blk_cell BK446.out 1).trans rfl; have hcz45_2 : w44.cell? ⟨gb446, 2, none⟩ = some (.string (⟨#[]⟩ : ByteArray)) := (blk_cell BK446.out 2).trans rfl; have hfz45_0 := blk_frozen BK446.out 0; have hfz45_1 := blk_frozen BK446.out 1; have hfz45_2 := blk_frozen BK446.out 2))
                        go_ret
                        exact ⟨q4_, q0_⟩
                  · replace c28 := Bool.eq_false_iff.mpr c28
                    subst c28
                    replace H := ifF_ H
                    by_cases c46 : t438 = true
                    · subst c46
                      replace H := ifT_ H
                      by_cases c47 : t442 = 1
                      · rw [if_pos c47] at H
                        have c47b0 : (t442 == 1) = true := beq_iff_eq.mpr c47
                        have c47b1 : (t442 != 1) = false := bne_eq_false_iff_eq.mpr c47
                        clear c47
                        by_cases c48 : t445 = 0
                        · rw [if_pos c48] at H
                          have c48b0 : (t445 == 0) = true := beq_iff_eq.mpr c48
                          have c48b1 : (t445 != 0) = false := bne_eq_false_iff_eq.mpr c48
                          clear c48
                          replace H := Option.bind_eq_some_iff.mp H
                          obtain ⟨t448, A490, H⟩ := H
                          replace H : (some t448) = some r := H
                          have A49 := Aside0.mk A490
                          clear A490
                          obtain rfl := Option.some.inj H
                          go_wp2_with (first | ((with_reducible refine gate_callee (f := 12) rfl ?_); refine goesL_ (some 60) rfl rfl Tryd.func12 (by kernel_rfl) rfl #[.slice A0 l0.length c0, .slice A1 l1.length c1] rfl q2_ ?_; (with_reducible refine (expr_Eval.calls kj12 _ _ l0 _ _ l1 t442 t443 t444 t445 _ ?side1 ?side2 ?side3 ?side4 A27.out q3_).mono ?_); (case side1 => repeat (first | exact (Kd.C_below HR0.out HB.out) | (with_reducible refine Kd.C_alloc ?_ _) | (with_reducible refine Kd.C_drewN ?_ _) | (with_reducible refine Kd.C_drew ?_))); (case side2 => exact HC0.out); (case side3 => repeat (first | exact (Kd.C_below HR1.out HB.out) | (with_reducible refine Kd.C_alloc ?_ _) | (with_reducible refine Kd.C_drewN ?_ _) | (with_reducible refine Kd.C_drew ?_))); (case side4 => exact HC1.out); rintro e w50 ⟨rfl, hb⟩; refine ⟨_, rfl, ?_⟩; have n0_ := Aside0.mk (below_step q0_ hb); clear HB; have HB := n0_; clear n0_; (try clear hb); (try clear hb2); (try clear hk); (try clear hi)) | ((with_reducible refine gate_dst (N := 10) rfl ?_); (try (refine gate_guard (by rfl) ?_; dsimp only)); refine box_event ?hg (N := 10) ?hd (cs := #[.int .i64 0, .int .i64 0, .string (⟨#[]⟩ : ByteArray)]) (t := 31) ?hr ?_; (case hd => rfl); (case hg => rfl); (case hr => first | (go_simp; done) | (go_simp; rfl)); intro gb446 hg w51 hbox hb; have n0_ := Aside0.mk (below_step q0_ hb); have n1_ := Aside0.mk (hbox); have n2_ := Aside0.mk ((q1_ : w.heap.size ≤ gb446)); have n3_ := Aside0.mk ((q1_ : w.heap.size ≤ gb446)); clear HB; have HB := n0_; have BK446 := n1_; have GW446 := n2_; have GE446 := n3_; clear n0_ n1_ n2_ n3_; clear hb hbox hg; have hcz52_0 : w51.cell? ⟨gb446, 0, none⟩ = some (.int .i64 0) := (blk_cell BK446.out 0).trans rfl; have hcz52_1 : w51.cell? ⟨gb446, 1, none⟩ = some (.int .i64 0) := (blk_cell BK446.out 1).trans rfl; have hcz52_2 : w51.cell? ⟨gb446, 2, none⟩ = some (.string (⟨#[]⟩ : ByteArray)) := (blk_cell BK446.out 2).trans rfl; have hfz52_0 := blk_frozen BK446.out 0; have hfz52_1 := blk_frozen BK446.out 1; have hfz52_2 := blk_frozen BK446.out 2) | (go_at_call 9; (with_reducible refine (corollarylaw10_awake.calls kj12  t448 _ A49.out q100_).mono ?_); rintro e w53 ⟨rfl, hb⟩; have n0_ := Aside0.mk (blk_below (g := gb446) (o := .cells #[.int .i64 t442, .int .i64 t443, .string t444] 31 (0, 0)) q58_ hb); have n1_ := Aside0.mk (below_step q0_ hb); clear BK446; clear HB; have BK446 := n0_; have HB := n1_; clear n0_ n1_; (try clear hb); (try clear hb2); (try clear hk); (try clear hi)))
                          go_ret
                          exact ⟨q4_, q0_⟩
                        · rw [if_neg c48] at H
                          have c48b0 : (t445 == 0) = false := beq_eq_false_iff_ne.mpr c48
                          have c48b1 : (t445 != 0) = true := bne_iff_ne.mpr c48
                          obtain rfl := Option.some.inj H
                          go_wp2_with (first | ((with_reducible refine gate_callee (f := 12) rfl ?_); refine goesL_ (some 60) rfl rfl Tryd.func12 (by kernel_rfl) rfl #[.slice A0 l0.length c0, .slice A1 l1.length c1] rfl q2_ ?_; (with_reducible refine (expr_Eval.calls kj12 _ _ l0 _ _ l1 t442 t443 t444 t445 _ ?side1 ?side2 ?side3 ?side4 A27.out q3_).mono ?_); (case side1 => repeat (first | exact (Kd.C_below HR0.out HB.out) | (with_reducible refine Kd.C_alloc ?_ _) | (with_reducible refine Kd.C_drewN ?_ _) | (with_reducible refine Kd.C_drew ?_))); (case side2 => exact HC0.out); (case side3 => repeat (first | exact (Kd.C_below HR1.out HB.out) | (with_reducible refine Kd.C_alloc ?_ _) | (with_reducible refine Kd.C_drewN ?_ _) | (with_reducible refine Kd.C_drew ?_))); (case side4 => exact HC1.out); rintro e w54 ⟨rfl, hb⟩; refine ⟨_, rfl, ?_⟩; have n0_ := Aside0.mk (below_step q0_ hb); clear HB; have HB := n0_; clear n0_; (try clear hb); (try clear hb2); (try clear hk); (try clear hi)) | ((with_reducible refine gate_dst (N := 10) rfl ?_); (try (refine gate_guard (by rfl) ?_; dsimp only)); refine box_event ?hg (N := 10) ?hd (cs := #[.int .i64 0, .int .i64 0, .string (⟨#[]⟩ : ByteArray)]) (t := 31) ?hr ?_; (case hd => rfl); (case hg => rfl); (case hr => first | (go_simp; done) | (go_simp; rfl)); intro gb446 hg w55 hbox hb; have n0_ := Aside0.mk (below_step q0_ hb); have n1_ := Aside0.mk (hbox); have n2_ := Aside0.mk ((q1_ : w.heap.size ≤ gb446)); have n3_ := Aside0.mk ((q1_ : w.heap.size ≤ gb446)); clear HB; have HB := n0_; have BK446 := n1_; have GW446 := n2_; have GE446 := n3_; clear n0_ n1_ n2_ n3_; clear hb hbox hg; have hcz56_0 : w55.cell? ⟨gb446, 0, none⟩ = some (.int .i64 0) := (blk_cell BK446.out 0).trans rfl; have hcz56_1 : w55.cell? ⟨gb446, 1, none⟩ = some (.int .i64 0) := (blk_cell BK446.out 1).trans rfl; have hcz56_2 : w55.cell? ⟨gb446, 2, none⟩ = some (.string (⟨#[]⟩ : ByteArray)) := (blk_cell BK446.out 2).trans rfl; have hfz56_0 := blk_frozen BK446.out 0; have hfz56_1 := blk_frozen BK446.out 1; have hfz56_2 := blk_frozen BK446.out 2))
                          go_ret
                          exact ⟨q4_, q0_⟩
                      · rw [if_neg c47] at H
                        have c47b0 : (t442 == 1) = false := beq_eq_false_iff_ne.mpr c47
                        have c47b1 : (t442 != 1) = true := bne_iff_ne.mpr c47
                        obtain rfl := Option.some.inj H
                        go_wp2_with (first | ((with_reducible refine gate_callee (f := 12) rfl ?_); refine goesL_ (some 60) rfl rfl Tryd.func12 (by kernel_rfl) rfl #[.slice A0 l0.length c0, .slice A1 l1.length c1] rfl q2_ ?_; (with_reducible refine (expr_Eval.calls kj12 _ _ l0 _ _ l1 t442 t443 t444 t445 _ ?side1 ?side2 ?side3 ?side4 A27.out q3_).mono ?_); (case side1 => repeat (first | exact (Kd.C_below HR0.out HB.out) | (with_reducible refine Kd.C_alloc ?_ _) | (with_reducible refine Kd.C_drewN ?_ _) | (with_reducible refine Kd.C_drew ?_))); (case side2 => exact HC0.out); (case side3 => repeat (first | exact (Kd.C_below HR1.out HB.out) | (with_reducible refine Kd.C_alloc ?_ _) | (with_reducible refine Kd.C_drewN ?_ _) | (with_reducible refine Kd.C_drew ?_))); (case side4 => exact HC1.out); rintro e w57 ⟨rfl, hb⟩; refine ⟨_, rfl, ?_⟩; have n0_ := Aside0.mk (below_step q0_ hb); clear HB; have HB := n0_; clear n0_; (try clear hb); (try clear hb2); (try clear hk); (try clear hi)) | ((with_reducible refine gate_dst (N := 10) rfl ?_); (try (refine gate_guard (by rfl) ?_; dsimp only)); refine box_event ?hg (N := 10) ?hd (cs := #[.int .i64 0, .int .i64 0, .string (⟨#[]⟩ : ByteArray)]) (t := 31) ?hr ?_; (case hd => rfl); (case hg => rfl); (case hr => first | (go_simp; done) | (go_simp; rfl)); intro gb446 hg w58 hbox hb; have n0_ := Aside0.mk (below_step q0_ hb); have n1_ := Aside0.mk (hbox); have n2_ := Aside0.mk ((q1_ : w.heap.size ≤ gb446)); have n3_ := Aside0.mk ((q1_ : w.heap.size ≤ gb446)); clear HB; have HB := n0_; have BK446 := n1_; have GW446 := n2_; have GE446 := n3_; clear n0_ n1_ n2_ n3_; clear hb hbox hg; have hcz59_0 : w58.cell? ⟨gb446, 0, none⟩ = some (.int .i64 0) := (blk_cell BK446.out 0).trans rfl; have hcz59_1 : w58.cell? ⟨gb446, 1, none⟩ = some (.int .i64 0) := (blk_cell BK446.out 1).trans rfl; have hcz59_2 : w58.cell? ⟨gb446, 2, none⟩ = some (.string (⟨#[]⟩ : ByteArray)) := (blk_cell BK446.out 2).trans rfl; have hfz59_0 := blk_frozen BK446.out 0; have hfz59_1 := blk_frozen BK446.out 1; have hfz59_2 := blk_frozen BK446.out 2))
                        go_ret
                        exact ⟨q4_, q0_⟩
                    · replace c46 := Bool.eq_false_iff.mpr c46
                      subst c46
                      replace H := ifF_ H
                      by_cases c60 : t442 = 1
                      · rw [if_pos c60] at H
                        have c60b0 : (t442 == 1) = true := beq_iff_eq.mpr c60
                        have c60b1 : (t442 != 1) = false := bne_eq_false_iff_eq.mpr c60
                        clear c60
                        obtain rfl := Option.some.inj H
                        go_wp2_with (first | ((with_reducible refine gate_callee (f := 12) rfl ?_); refine goesL_ (some 60) rfl rfl Tryd.func12 (by kernel_rfl) rfl #[.slice A0 l0.length c0, .slice A1 l1.length c1] rfl q2_ ?_; (with_reducible refine (expr_Eval.calls kj12 _ _ l0 _ _ l1 t442 t443 t444 t445 _ ?side1 ?side2 ?side3 ?side4 A27.out q3_).mono ?_); (case side1 => repeat (first | exact (Kd.C_below HR0.out HB.out) | (with_reducible refine Kd.C_alloc ?_ _) | (with_reducible refine Kd.C_drewN ?_ _) | (with_reducible refine Kd.C_drew ?_))); (case side2 => exact HC0.out); (case side3 => repeat (first | exact (Kd.C_below HR1.out HB.out) | (with_reducible refine Kd.C_alloc ?_ _) | (with_reducible refine Kd.C_drewN ?_ _) | (with_reducible refine Kd.C_drew ?_))); (case side4 => exact HC1.out); rintro e w61 ⟨rfl, hb⟩; refine ⟨_, rfl, ?_⟩; have n0_ := Aside0.mk (below_step q0_ hb); clear HB; have HB := n0_; clear n0_; (try clear hb); (try clear hb2); (try clear hk); (try clear hi)) | ((with_reducible refine gate_dst (N := 10) rfl ?_); (try (refine gate_guard (by rfl) ?_; dsimp only)); refine box_event ?hg (N := 10) ?hd (cs := #[.int .i64 0, .int .i64 0, .string (⟨#[]⟩ : ByteArray)]) (t := 31) ?hr ?_; (case hd => rfl); (case hg => rfl); (case hr => first | (go_simp; done) | (go_simp; rfl)); intro gb446 hg w62 hbox hb; have n0_ := Aside0.mk (below_step q0_ hb); have n1_ := Aside0.mk (hbox); have n2_ := Aside0.mk ((q1_ : w.heap.size ≤ gb446)); have n3_ := Aside0.mk ((q1_ : w.heap.size ≤ gb446)); clear HB; have HB := n0_; have BK446 := n1_; have GW446 := n2_; have GE446 := n3_; clear n0_ n1_ n2_ n3_; clear hb hbox hg; have hcz63_0 : w62.cell? ⟨gb446, 0, none⟩ = some (.int .i64 0) := (blk_cell BK446.out 0).trans rfl; have hcz63_1 : w62.cell? ⟨gb446, 1, none⟩ = some (.int .i64 0) := (blk_cell BK446.out 1).trans rfl; have hcz63_2 : w62.cell? ⟨gb446, 2, none⟩ = some (.string (⟨#[]⟩ : ByteArray)) := (blk_cell BK446.out 2).trans rfl; have hfz63_0 := blk_frozen BK446.out 0; have hfz63_1 := blk_frozen BK446.out 1; have hfz63_2 := blk_frozen BK446.out 2))
                        go_ret
                        exact ⟨q4_, q0_⟩
                      · rw [if_neg c60] at H
                        have c60b0 : (t442 == 1) = false := beq_eq_false_iff_ne.mpr c60
                        have c60b1 : (t442 != 1) = true := bne_iff_ne.mpr c60
                        by_cases c64 : t445 = 0
                        · rw [if_pos c64] at H
                          have c64b0 : (t445 == 0) = true := beq_iff_eq.mpr c64
                          have c64b1 : (t445 != 0) = false := bne_eq_false_iff_eq.mpr c64
                          clear c64
                          replace H := Option.bind_eq_some_iff.mp H
                          obtain ⟨t449, A650, H⟩ := H
                          replace H : (some t449) = some r := H
                          have A65 := Aside0.mk A650
                          clear A650
                          obtain rfl := Option.some.inj H
                          go_wp2_with (first | ((with_reducible refine gate_callee (f := 12) rfl ?_); refine goesL_ (some 60) rfl rfl Tryd.func12 (by kernel_rfl) rfl #[.slice A0 l0.length c0, .slice A1 l1.length c1] rfl q2_ ?_; (with_reducible refine (expr_Eval.calls kj12 _ _ l0 _ _ l1 t442 t443 t444 t445 _ ?side1 ?side2 ?side3 ?side4 A27.out q3_).mono ?_); (case side1 => repeat (first | exact (Kd.C_below HR0.out HB.out) | (with_reducible refine Kd.C_alloc ?_ _) | (with_reducible refine Kd.C_drewN ?_ _) | (with_reducible refine Kd.C_drew ?_))); (case side2 => exact HC0.out); (case side3 => repeat (first | exact (Kd.C_below HR1.out HB.out) | (with_reducible refine Kd.C_alloc ?_ _) | (with_reducible refine Kd.C_drewN ?_ _) | (with_reducible refine Kd.C_drew ?_))); (case side4 => exact HC1.out); rintro e w66 ⟨rfl, hb⟩; refine ⟨_, rfl, ?_⟩; have n0_ := Aside0.mk (below_step q0_ hb); clear HB; have HB := n0_; clear n0_; (try clear hb); (try clear hb2); (try clear hk); (try clear hi)) | ((with_reducible refine gate_dst (N := 10) rfl ?_); (try (refine gate_guard (by rfl) ?_; dsimp only)); refine box_event ?hg (N := 10) ?hd (cs := #[.int .i64 0, .int .i64 0, .string (⟨#[]⟩ : ByteArray)]) (t := 31) ?hr ?_; (case hd => rfl); (case hg => rfl); (case hr => first | (go_simp; done) | (go_simp; rfl)); intro gb446 hg w67 hbox hb; have n0_ := Aside0.mk (below_step q0_ hb); have n1_ := Aside0.mk (hbox); have n2_ := Aside0.mk ((q1_ : w.heap.size ≤ gb446)); have n3_ := Aside0.mk ((q1_ : w.heap.size ≤ gb446)); clear HB; have HB := n0_; have BK446 := n1_; have GW446 := n2_; have GE446 := n3_; clear n0_ n1_ n2_ n3_; clear hb hbox hg; have hcz68_0 : w67.cell? ⟨gb446, 0, none⟩ = some (.int .i64 0) := (blk_cell BK446.out 0).trans rfl; have hcz68_1 : w67.cell? ⟨gb446, 1, none⟩ = some (.int .i64 0) := (blk_cell BK446.out 1).trans rfl; have hcz68_2 : w67.cell? ⟨gb446, 2, none⟩ = some (.string (⟨#[]⟩ : ByteArray)) := (blk_cell BK446.out 2).trans rfl; have hfz68_0 := blk_frozen BK446.out 0; have hfz68_1 := blk_frozen BK446.out 1; have hfz68_2 := blk_frozen BK446.out 2) | (go_at_call 9; (with_reducible refine (corollarylaw10_awake.calls kj12  t449 _ A65.out q100_).mono ?_); rintro e w69 ⟨rfl, hb⟩; have n0_ := Aside0.mk (blk_below (g := gb446) (o := .cells #[.int .i64 t442, .int .i64 t443, .string t444] 31 (0, 0)) q58_ hb); have n1_ := Aside0.mk (below_step q0_ hb); clear BK446; clear HB; have BK446 := n0_; have HB := n1_; clear n0_ n1_; (try clear hb); (try clear hb2); (try clear hk); (try clear hi)))
                          go_ret
                          exact ⟨q4_, q0_⟩
                        · rw [if_neg c64] at H
                          have c64b0 : (t445 == 0) = false := beq_eq_false_iff_ne.mpr c64
                          have c64b1 : (t445 != 0) = true := bne_iff_ne.mpr c64
                          obtain rfl := Option.some.inj H
                          go_wp2_with (first | ((with_reducible refine gate_callee (f := 12) rfl ?_); refine goesL_ (some 60) rfl rfl Tryd.func12 (by kernel_rfl) rfl #[.slice A0 l0.length c0, .slice A1 l1.length c1] rfl q2_ ?_; (with_reducible refine (expr_Eval.calls kj12 _ _ l0 _ _ l1 t442 t443 t444 t445 _ ?side1 ?side2 ?side3 ?side4 A27.out q3_).mono ?_); (case side1 => repeat (first | exact (Kd.C_below HR0.out HB.out) | (with_reducible refine Kd.C_alloc ?_ _) | (with_reducible refine Kd.C_drewN ?_ _) | (with_reducible refine Kd.C_drew ?_))); (case side2 => exact HC0.out); (case side3 => repeat (first | exact (Kd.C_below HR1.out HB.out) | (with_reducible refine Kd.C_alloc ?_ _) | (with_reducible refine Kd.C_drewN ?_ _) | (with_reducible refine Kd.C_drew ?_))); (case side4 => exact HC1.out); rintro e w70 ⟨rfl, hb⟩; refine ⟨_, rfl, ?_⟩; have n0_ := Aside0.mk (below_step q0_ hb); clear HB; have HB := n0_; clear n0_; (try clear hb); (try clear hb2); (try clear hk); (try clear hi)) | ((with_reducible refine gate_dst (N := 10) rfl ?_); (try (refine gate_guard (by rfl) ?_; dsimp only)); refine box_event ?hg (N := 10) ?hd (cs := #[.int .i64 0, .int .i64 0, .string (⟨#[]⟩ : ByteArray)]) (t := 31) ?hr ?_; (case hd => rfl); (case hg => rfl); (case hr => first | (go_simp; done) | (go_simp; rfl)); intro gb446 hg w71 hbox hb; have n0_ := Aside0.mk (below_step q0_ hb); have n1_ := Aside0.mk (hbox); have n2_ := Aside0.mk ((q1_ : w.heap.size ≤ gb446)); have n3_ := Aside0.mk ((q1_ : w.heap.size ≤ gb446)); clear HB; have HB := n0_; have BK446 := n1_; have GW446 := n2_; have GE446 := n3_; clear n0_ n1_ n2_ n3_; clear hb hbox hg; have hcz72_0 : w71.cell? ⟨gb446, 0, none⟩ = some (.int .i64 0) := (blk_cell BK446.out 0).trans rfl; have hcz72_1 : w71.cell? ⟨gb446, 1, none⟩ = some (.int .i64 0) := (blk_cell BK446.out 1).trans rfl; have hcz72_2 : w71.cell? ⟨gb446, 2, none⟩ = some (.string (⟨#[]⟩ : ByteArray)) := (blk_cell BK446.out 2).trans rfl; have hfz72_0 := blk_frozen BK446.out 0; have hfz72_1 := blk_frozen BK446.out 1; have hfz72_2 := blk_frozen BK446.out 2))
                          go_ret
                          exact ⟨q4_, q0_⟩
          · rw [if_neg c11] at H
            exact absurd H (by simp)
        · rw [if_neg c10] at H
          exact absurd H (by simp)

end Go.Proofs.YtiamgfpeffjcjaaDoor.P
