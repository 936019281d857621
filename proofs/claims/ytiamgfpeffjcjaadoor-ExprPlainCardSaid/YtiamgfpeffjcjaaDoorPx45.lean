-- Written by our own program (wip/xprint) over the seat's translation. Lean checks it.
import Derived.Test.YtiamgfpeffjcjaaDoorPx0
import Derived.Test.YtiamgfpeffjcjaaDoorPx1
import Derived.Test.YtiamgfpeffjcjaaDoorPx37
import Derived.Test.YtiamgfpeffjcjaaDoorPx38
import Derived.Test.YtiamgfpeffjcjaaDoorPx39
namespace Go.Proofs.YtiamgfpeffjcjaaDoor.P
open Go.RowKit Go.Proofs.YtiamgfpeffjcjaaDoorW.PrintWords Go.Proofs.YtiamgfpeffjcjaaDoorW.PrintLast Go.Proofs.YtiamgfpeffjcjaaDoorW.PrintMore
attribute [local go_sem] max2_int min2_int max_two min_two max_three min_three max_four min_four   -- for this text's walks alone
set_option linter.unusedVariables false
set_option linter.unusedSimpArgs false


attribute [local go_sem high] eqA31
/-! ### corollarylaw10_ExprPlain: function 6 -/
mutual
def corollarylaw10_ExprPlain.j0 : Nat → List (S31) → Int → Bool → Int → Int → ByteArray → Option (Bool)
  | 0, _, _, _, _, _, _ => none
  | k + 1, x1, x2, x22, x388000, x388001, x388002 => if x22 = true then ((corollarylaw10_awake.f k).bind fun t389 => (some t389)) else (corollarylaw10_ExprPlain.l0 k x1 x2 x1 (x1.length : Int) 0 x388000 x388001 x388002)
def corollarylaw10_ExprPlain.l0 : Nat → List (S31) → Int → List (S31) → Int → Int → Int → Int → ByteArray → Option (Bool)
  | 0, _, _, _, _, _, _, _, _ => none
  | k + 1, x1, x2, x24, x25, x26, x388000, x388001, x388002 => if x26 < x25 then (if 0 ≤ x26 then (if x26 < (x24.length : Int) then ((corollaryref01_Right.f k ((rd_T31 x24 x26).f0) ((rd_T31 x24 x26).f1) ((rd_T31 x24 x26).f2)).bind fun t392 => (if t392 = true then (corollarylaw10_ExprPlain.l0 k x1 x2 x24 x25 (wrap64 (x26 + 1)) x388000 x388001 x388002) else ((corollarylaw10_awake.f k).bind fun t393 => (some t393)))) else (none)) else (none)) else ((expr_Eval.f k (([(⟨2, 0, (⟨x388000, x388001, x388002⟩ : S31)⟩ : S39)] : List (S39))) x1).bind fun bt397 => ((expr_Eval.f k (([(⟨2, 0, (⟨x388000, x388001, x388002⟩ : S31)⟩ : S39), (⟨16, 0, (⟨0, 0, (⟨#[]⟩ : ByteArray)⟩ : S31)⟩ : S39)] : List (S39))) x1).bind fun bt405 => (if (!(bt397.1 == x388000) || (!(bt397.2.1 == x388001) || (!(bt397.2.2.1.toList == x388002.toList)))) = true then (corollarylaw10_ExprPlain.j2 k x1 x2 true) else (if bt397.2.2.2 = 0 then (if bt405.2.2.2 = 0 then (if bt405.1 = 1 then (corollarylaw10_ExprPlain.j2 k x1 x2 ((bt405.2.1 == 1) != (x388000 == 0))) else (corollarylaw10_ExprPlain.j2 k x1 x2 true)) else (corollarylaw10_ExprPlain.j2 k x1 x2 true)) else (corollarylaw10_ExprPlain.j2 k x1 x2 true)))))
def corollarylaw10_ExprPlain.j2 : Nat → List (S31) → Int → Bool → Option (Bool)
  | 0, _, _, _ => none
  | k + 1, x1, x2, x76 => if x76 = true then (some false) else ((expr_Eval.f k (([(⟨1, x2, (⟨0, 0, (⟨#[]⟩ : ByteArray)⟩ : S31)⟩ : S39)] : List (S39))) x1).bind fun bt413 => (if x2 < 0 then (corollarylaw10_ExprPlain.j3 k x1 x2 bt413.2.2.2 true bt413.1 bt413.2.1 bt413.2.2.1) else (corollarylaw10_ExprPlain.j3 k x1 x2 bt413.2.2.2 (decide (x2 ≥ (x1.length : Int))) bt413.1 bt413.2.1 bt413.2.2.1)))
def corollarylaw10_ExprPlain.j3 : Nat → List (S31) → Int → Int → Bool → Int → Int → ByteArray → Option (Bool)
  | 0, _, _, _, _, _, _, _ => none
  | k + 1, x1, x2, x14, x92, x418000, x418001, x418002 => if x92 = true then (if x14 = 1 then ((corollarylaw10_awake.f k).bind fun t418 => (some t418)) else (some false)) else (if 0 ≤ x2 then (if x2 < (x1.length : Int) then (if (x418000 == ((rd_T31 x1 x2).f0) && (x418001 == ((rd_T31 x1 x2).f1) && (x418002.toList == (((rd_T31 x1 x2).f2).toList)))) = true then (if x14 = 0 then ((corollarylaw10_awake.f k).bind fun t420 => (some t420)) else (some false)) else (some false)) else (none)) else (none))
end
def corollarylaw10_ExprPlain.f (k : Nat) (a0_0 : Int) (a0_1 : Int) (a0_2 : ByteArray) (l1 : List (S31)) (a2 : Int) : Option (Bool) := if (l1.length : Int) > 40 then (corollarylaw10_ExprPlain.j0 k l1 a2 true a0_0 a0_1 a0_2) else ((corollaryref01_Right.f k a0_0 a0_1 a0_2).bind fun t388 => (corollarylaw10_ExprPlain.j0 k l1 a2 (!t388) a0_0 a0_1 a0_2))
theorem corollarylaw10_ExprPlain.mono_l : ∀ k, (∀ y0 y1 y2 y3 y4 y5, LeO (corollarylaw10_ExprPlain.j0 k y0 y1 y2 y3 y4 y5) (corollarylaw10_ExprPlain.j0 (k + 1) y0 y1 y2 y3 y4 y5)) ∧ (∀ y0 y1 y2 y3 y4 y5 y6 y7, LeO (corollarylaw10_ExprPlain.l0 k y0 y1 y2 y3 y4 y5 y6 y7) (corollarylaw10_ExprPlain.l0 (k + 1) y0 y1 y2 y3 y4 y5 y6 y7)) ∧ (∀ y0 y1 y2, LeO (corollarylaw10_ExprPlain.j2 k y0 y1 y2) (corollarylaw10_ExprPlain.j2 (k + 1) y0 y1 y2)) ∧ (∀ y0 y1 y2 y3 y4 y5 y6, LeO (corollarylaw10_ExprPlain.j3 k y0 y1 y2 y3 y4 y5 y6) (corollarylaw10_ExprPlain.j3 (k + 1) y0 y1 y2 y3 y4 y5 y6))
  | 0 => ⟨fun _ _ _ _ _ _ r h => by simp [corollarylaw10_ExprPlain.j0] at h, fun _ _ _ _ _ _ _ _ r h => by simp [corollarylaw10_ExprPlain.l0] at h, fun _ _ _ r h => by simp [corollarylaw10_ExprPlain.j2] at h, fun _ _ _ _ _ _ _ r h => by simp [corollarylaw10_ExprPlain.j3] at h⟩
  | k + 1 => by
    obtain ⟨ih0, ih1, ih2, ih3⟩ := corollarylaw10_ExprPlain.mono_l k
    refine ⟨?_, ?_, ?_, ?_⟩
    all_goals intros
    all_goals first
      | unfold corollarylaw10_ExprPlain.j0
      | unfold corollarylaw10_ExprPlain.l0
      | unfold corollarylaw10_ExprPlain.j2
      | unfold corollarylaw10_ExprPlain.j3
    all_goals repeat' first
      | (with_reducible exact ih0 _ _ _ _ _ _)
      | (with_reducible exact ih1 _ _ _ _ _ _ _ _)
      | (with_reducible exact ih2 _ _ _)
      | (with_reducible exact ih3 _ _ _ _ _ _ _)
      | (with_reducible exact corollarylaw10_awake.mono _)
      | (with_reducible exact corollaryref01_Right.mono _ _ _ _)
      | (with_reducible exact expr_Eval.mono _ _ _)
      | (with_reducible exact LeO.refl _)
      | (with_reducible exact LeO.none _)
      | (with_reducible refine LeO.ite ?_ ?_)
      | (with_reducible refine LeO.bind ?_ (fun _ => ?_))
      | exact ih0 _ _ _ _ _ _
      | exact ih1 _ _ _ _ _ _ _ _
      | exact ih2 _ _ _
      | exact ih3 _ _ _ _ _ _ _
      | exact corollarylaw10_awake.mono _
      | exact corollaryref01_Right.mono _ _ _ _
      | exact expr_Eval.mono _ _ _
      | exact LeO.none _
      | refine LeO.ite ?_ ?_
      | refine LeO.bind ?_ (fun _ => ?_)
theorem corollarylaw10_ExprPlain.mono : ∀ a0 a1 a2 a3 a4 k, LeO (corollarylaw10_ExprPlain.f k a0 a1 a2 a3 a4) (corollarylaw10_ExprPlain.f (k + 1) a0 a1 a2 a3 a4) := by
  intro a0 a1 a2 a3 a4 k
  obtain ⟨ih0, ih1, ih2, ih3⟩ := corollarylaw10_ExprPlain.mono_l k
  unfold corollarylaw10_ExprPlain.f
  repeat' first
      | (with_reducible exact ih0 _ _ _ _ _ _)
      | (with_reducible exact ih1 _ _ _ _ _ _ _ _)
      | (with_reducible exact ih2 _ _ _)
      | (with_reducible exact ih3 _ _ _ _ _ _ _)
      | (with_reducible exact corollarylaw10_awake.mono _)
      | (with_reducible exact corollaryref01_Right.mono _ _ _ _)
      | (with_reducible exact expr_Eval.mono _ _ _)
      | (with_reducible exact LeO.refl _)
      | (with_reducible exact LeO.none _)
      | (with_reducible refine LeO.ite ?_ ?_)
      | (with_reducible refine LeO.bind ?_ (fun _ => ?_))
      | exact ih0 _ _ _ _ _ _
      | exact ih1 _ _ _ _ _ _ _ _
      | exact ih2 _ _ _
      | exact ih3 _ _ _ _ _ _ _
      | exact corollarylaw10_awake.mono _
      | exact corollaryref01_Right.mono _ _ _ _
      | exact expr_Eval.mono _ _ _
      | exact LeO.none _
      | refine LeO.ite ?_ ?_
      | refine LeO.bind ?_ (fun _ => ?_)
def corollarylaw10_ExprPlain.T16 : Bool × List (List Nat × List Nat) := (true, [([], []), ([], []), ([], []), ([1, 2], [1, 2]), ([3], [3]), ([0, 4], [0, 4]), ([5], [5]), ([6], [6]), ([7, 6], [6, 7]), ([6, 8], [6, 8]), ([9, 6], [9]), ([10, 10], [10]), ([10, 11], [10, 11]), ([12, 11, 0, 1, 2, 3, 4, 5, 6, 7, 8, 9, 10, 11, 12], [12])])
def corollarylaw10_ExprPlain.B16 : List Nat := [0, 0, 0, 6, 14, 31, 63, 127, 255, 511, 1023, 2047, 4095, 8191]
theorem corollarylaw10_ExprPlain.tab16 : rtab .any (opsOf Tryd.f6 16) = corollarylaw10_ExprPlain.T16 := by kernel_rfl
theorem corollarylaw10_ExprPlain.bits16 : waitsOk corollarylaw10_ExprPlain.T16.2 corollarylaw10_ExprPlain.B16 = true := by kernel_rfl
set_option maxHeartbeats 8000000 in
set_option maxRecDepth 100000 in
theorem corollarylaw10_ExprPlain.calls (k : Nat) (a0_0 : Int) (a0_1 : Int) (a0_2 : ByteArray) (A1 : Option Addr) (c1 : Nat) (l1 : List (S31)) (a2 : Int) (r : Bool) (w : World) (hr1 : Kd.C k31 w A1 l1.length l1) (hc1 : l1.length ≤ c1) (h : corollarylaw10_ExprPlain.f k a0_0 a0_1 a0_2 l1 a2 = some r) (hG : Glob w) :
    Calls Tryd.prog 6 #[.agg #[.int .i64 a0_0, .int .i64 a0_1, .string a0_2], .slice A1 l1.length c1, .int .i64 a2] w fun e w' => e = .returned (.bool r) ∧ Below w.heap.size w w' := by
  have hu31 := Tryd.underlying31
  have hu39 := Tryd.underlying39
  have HG := Aside0.mk hG
  clear hG
  have HR1 := Aside0.mk hr1
  have HC1 := Aside0.mk hc1
  clear hr1 hc1
  have HB := Aside0.mk (Below.refl w.heap.size w)
  have H : (if (l1.length : Int) > 40 then (corollarylaw10_ExprPlain.j0 k l1 a2 true a0_0 a0_1 a0_2) else ((corollaryref01_Right.f k a0_0 a0_1 a0_2).bind fun t388 => (corollarylaw10_ExprPlain.j0 k l1 a2 (!t388) a0_0 a0_1 a0_2))) = some r := h
  clear h
  have HC4 := Aside0.mk H
  clear H
  go_enter Tryd.func6, Tryd.ntmps6
  go_upto_region 1 with (first | ((with_reducible refine gate_dst (N := 3) rfl ?_); (try (refine gate_guard (by rfl) ?_; dsimp only)); refine box_event ?hg (N := 3) ?hd (cs := #[.int .i64 a0_0, .int .i64 a0_1, .string a0_2]) (t := 31) ?hr ?_; (case hd => rfl); (case hg => rfl); (case hr => first | (go_simp; done) | (go_simp; rfl)); intro gb387 hg w5 hbox hb; have n0_ := Aside0.mk (below_step q0_ hb); have n1_ := Aside0.mk (hbox); have n2_ := Aside0.mk ((q1_ : w.heap.size ≤ gb387)); have n3_ := Aside0.mk ((q1_ : w.heap.size ≤ gb387)); clear HB; have HB := n0_; have BK387 := n1_; have GW387 := n2_; have GE387 := n3_; clear n0_ n1_ n2_ n3_; clear hb hbox hg))
  (try simp only [Act.put, List.setIfInBounds_toArray, List.set_cons_zero, List.set_cons_succ])
  go_cut [22] (fun v22 wc => ∃ (kq : Nat) (x22_3 : Bool), v22 = .bool x22_3 ∧ Aside0 (corollarylaw10_ExprPlain.j0 kq l1 a2 x22_3 a0_0 a0_1 a0_2 = some r) ∧ Aside0 (kq ≤ k) ∧ Aside0 (wc.heap[gb387]? = some (.cells #[.int .i64 a0_0, .int .i64 a0_1, .string a0_2] 31 (0, 0))) ∧ Aside0 (Below w.heap.size w wc))
  case first =>
    have H := HC4.out
    clear HC4
    by_cases c6 : (l1.length : Int) > 40
    · rw [if_pos c6] at H
      have c6b0 : decide (40 < (l1.length : Int)) = true := decide_eq_true c6
      have c6b1 : decide (40 < l1.length) = true := decide_eq_true (by omega)
      clear c6
      (first | rw [c6b0] | (simp only [i64_w, i32_w]; rw [c6b0]) | skip)
      have H' := Aside0.mk H
      clear H
      go_wp2
      go_meet
      case rel => exact ⟨_, (true), q7_, H', ⟨by first | omega | exact Nat.le_refl _⟩, ⟨q24_⟩, ⟨q0_⟩⟩
    · rw [if_neg c6] at H
      have c6b0 : decide (40 < (l1.length : Int)) = false := decide_eq_false c6
      have c6b1 : decide (40 < l1.length) = false := decide_eq_false (by omega)
      clear c6
      (first | rw [c6b0] | (simp only [i64_w, i32_w]; rw [c6b0]) | skip)
      replace H := Option.bind_eq_some_iff.mp H
      obtain ⟨t388, A70, H⟩ := H
      replace H : (corollarylaw10_ExprPlain.j0 k l1 a2 (!t388) a0_0 a0_1 a0_2) = some r := H
      have A7 := Aside0.mk A70
      clear A70
      have H' := Aside0.mk H
      clear H
      have hcz8_0 : w5.cell? ⟨gb387, 0, none⟩ = some (.int .i64 a0_0) := (blk_cell BK387.out 0).trans rfl
      have hcz8_1 : w5.cell? ⟨gb387, 1, none⟩ = some (.int .i64 a0_1) := (blk_cell BK387.out 1).trans rfl
      have hcz8_2 : w5.cell? ⟨gb387, 2, none⟩ = some (.string a0_2) := (blk_cell BK387.out 2).trans rfl
      have hfz8_0 := blk_frozen BK387.out 0
      have hfz8_1 := blk_frozen BK387.out 1
      have hfz8_2 := blk_frozen BK387.out 2
      go_wp2_with (first | (go_at_call 11; (with_reducible refine (corollaryref01_Right.calls k a0_0 a0_1 a0_2 t388 _ A7.out).mono ?_); rintro e w9 ⟨rfl, hb⟩; have n0_ := Aside0.mk (blk_below (g := gb387) (o := .cells #[.int .i64 a0_0, .int .i64 a0_1, .string a0_2] 31 (0, 0)) q24_ hb); have n1_ := Aside0.mk (below_step q0_ hb); clear BK387; clear HB; have BK387 := n0_; have HB := n1_; clear n0_ n1_; (try clear hb); (try clear hb2); (try clear hk); (try clear hi)))
      go_meet
      case rel => exact ⟨_, (!t388), q7_, H', ⟨by first | omega | exact Nat.le_refl _⟩, ⟨q24_⟩, ⟨q0_⟩⟩
  case rest =>
    clear HC4
    try clear c1
    try clear p2
    try clear c6
    try clear c6b0
    try clear c6b1
    try clear hcz8_0
    try clear hcz8_1
    try clear hcz8_2
    try clear hfz8_0
    try clear hfz8_1
    try clear hfz8_2
    obtain ⟨kq, x22_3, rfl, HA, HJ3, BK387, HB⟩ := hcut
    cases kq with
    | zero => exact absurd HA.out (by simp [corollarylaw10_ExprPlain.j0])
    | succ kj3 =>
      have H := HA.out
      clear HA
      simp only [corollarylaw10_ExprPlain.j0] at H
      by_cases c10 : x22_3 = true
      · subst c10
        replace H := ifT_ H
        replace H := Option.bind_eq_some_iff.mp H
        obtain ⟨t389, A110, H⟩ := H
        replace H : (some t389) = some r := H
        have A11 := Aside0.mk A110
        clear A110
        obtain rfl := Option.some.inj H
        go_wp2_with (first | ((with_reducible refine gate_callee (f := 9) rfl ?_); refine goesL_ (some 23) rfl rfl Tryd.func9 (by kernel_rfl) rfl #[] rfl q2_ ?_; (with_reducible refine (corollarylaw10_awake.calls kj3  t389 _ A11.out q147_).mono ?_); rintro e w12 ⟨rfl, hb⟩; refine ⟨_, rfl, ?_⟩; have n0_ := Aside0.mk (blk_below (g := gb387) (o := .cells #[.int .i64 a0_0, .int .i64 a0_1, .string a0_2] 31 (0, 0)) q24_ hb); have n1_ := Aside0.mk (below_step q0_ hb); clear BK387; clear HB; have BK387 := n0_; have HB := n1_; clear n0_ n1_; (try clear hb); (try clear hb2); (try clear hk); (try clear hi)))
        go_ret
        exact ⟨q4_, q0_⟩
      · replace c10 := Bool.eq_false_iff.mpr c10
        subst c10
        replace H := ifF_ H
        have H' := Aside0.mk H
        clear H
        go_wp2
        go_loopg [26] kj3 (fun kq v26 w' => ∃ (x26_2 : Int), v26 = .int .i64 x26_2 ∧ Aside0 (corollarylaw10_ExprPlain.l0 kq l1 a2 l1 (l1.length : Int) x26_2 a0_0 a0_1 a0_2 = some r) ∧ Aside0 (kq ≤ kj3) ∧ Aside0 (w'.heap[gb387]? = some (.cells #[.int .i64 a0_0, .int .i64 a0_1, .string a0_2] 31 (0, 0))) ∧ Aside0 (Below w.heap.size w w'))
        case atStart => exact ⟨(0), q7_, H', ⟨Nat.le_refl _⟩, ⟨q24_⟩, ⟨q0_⟩⟩
        case round =>
          clear H'
          try clear c1
          try clear p2
          try clear c6
          try clear c6b0
          try clear c6b1
          try clear c9
          try clear c10
          try clear hcz8_0
          try clear hcz8_1
          try clear hcz8_2
          try clear hfz8_0
          try clear hfz8_1
          try clear hfz8_2
          try clear p2
          obtain ⟨x26_2, rfl, HA, HK2, BK387, HB⟩ := hrel
          cases gk with
          | zero => exact absurd HA.out (by simp [corollarylaw10_ExprPlain.l0])
          | succ k2 =>
            have H := HA.out
            clear HA
            simp only [corollarylaw10_ExprPlain.l0] at H
            by_cases c13 : x26_2 < (l1.length : Int)
            · rw [if_pos c13] at H
              have c13b0 : decide (x26_2 < (l1.length : Int)) = true := decide_eq_true c13
              clear c13
              by_cases c14 : 0 ≤ x26_2
              · rw [if_pos c14] at H
                have c14b0 : decide (0 ≤ x26_2) = true := decide_eq_true c14
                clear c14
                by_cases c15 : x26_2 < (l1.length : Int)
                · rw [if_pos c15] at H
                  have c15b0 : decide (x26_2 < (l1.length : Int)) = true := decide_eq_true c15
                  clear c15
                  replace H := Option.bind_eq_some_iff.mp H
                  obtain ⟨t392, A160, H⟩ := H
                  replace H : (if t392 = true then (corollarylaw10_ExprPlain.l0 k2 l1 a2 l1 (l1.length : Int) (wrap64 (x26_2 + 1)) a0_0 a0_1 a0_2) else ((corollarylaw10_awake.f k2).bind fun t393 => (some t393))) = some r := H
                  have A16 := Aside0.mk A160
                  clear A160
                  by_cases c17 : t392 = true
                  · subst c17
                    replace H := ifT_ H
                    have H' := Aside0.mk H
                    clear H
                    have p390 : 0 ≤ (x26_2 : Int) := of_decide_eq_true q11_
                    have q390 : x26_2 < (l1.length : Int) := of_decide_eq_true q11_
                    obtain ⟨ad390, e390, hx390_0, hx390_1, hx390_2⟩ := at_T31 HR1.out x26_2 p390 q390
                    cases e390
                    replace hx390_0 := (HB.out.cell (World.block_lt_of_cell? w _ hx390_0)).trans hx390_0
                    replace hx390_1 := (HB.out.cell (World.block_lt_of_cell? w _ hx390_1)).trans hx390_1
                    replace hx390_2 := (HB.out.cell (World.block_lt_of_cell? w _ hx390_2)).trans hx390_2
                    replace p390 := eq_true p390
                    replace q390 := eq_true q390
                    go_wp2_with (first | ((with_reducible refine gate_dst (N := 8) rfl ?_); (try (refine gate_guard (by rfl) ?_; dsimp only)); refine box_event ?hg (N := 8) ?hd (cs := #[.int .i64 0, .int .i64 0, .string (⟨#[]⟩ : ByteArray)]) (t := 31) ?hr ?_; (case hd => rfl); (case hg => rfl); (case hr => first | (go_simp; done) | (go_simp; rfl)); intro gb391 hg w18 hbox hb; have n0_ := Aside0.mk (blk_below (g := gb387) (o := .cells #[.int .i64 a0_0, .int .i64 a0_1, .string a0_2] 31 (0, 0)) q24_ hb); have n1_ := Aside0.mk (below_step q0_ hb); have n2_ := Aside0.mk (hbox); have n3_ := Aside0.mk ((q1_ : w.heap.size ≤ gb391)); have n4_ := Aside0.mk ((q1_ : w.heap.size ≤ gb391)); have n5_ := Aside0.mk ((q79_ : gb387 ≠ gb391)); have n6_ := Aside0.mk ((q81_ : gb391 ≠ gb387)); clear BK387; clear HB; have BK387 := n0_; have HB := n1_; have BK391 := n2_; have GW391 := n3_; have GE391 := n4_; have NB387_391 := n5_; have NB391_387 := n6_; clear n0_ n1_ n2_ n3_ n4_ n5_ n6_; clear hb hbox hg; have hnb19 := NB391_387.out; have hnc19 := NB387_391.out; have hcz20_0 : w18.cell? ⟨gb391, 0, none⟩ = some (.int .i64 0) := (blk_cell BK391.out 0).trans rfl; have hcz20_1 : w18.cell? ⟨gb391, 1, none⟩ = some (.int .i64 0) := (blk_cell BK391.out 1).trans rfl; have hcz20_2 : w18.cell? ⟨gb391, 2, none⟩ = some (.string (⟨#[]⟩ : ByteArray)) := (blk_cell BK391.out 2).trans rfl; have hfz20_0 := blk_frozen BK391.out 0; have hfz20_1 := blk_frozen BK391.out 1; have hfz20_2 := blk_frozen BK391.out 2) | ((with_reducible refine gate_callee (f := 11) rfl ?_); refine goesL_ (some 31) rfl rfl Tryd.func11 (by kernel_rfl) rfl #[.agg #[.int .i64 ((rd_T31 l1 x26_2).f0), .int .i64 ((rd_T31 l1 x26_2).f1), .string ((rd_T31 l1 x26_2).f2)]] rfl q2_ ?_; (with_reducible refine (corollaryref01_Right.calls k2 ((rd_T31 l1 x26_2).f0) ((rd_T31 l1 x26_2).f1) ((rd_T31 l1 x26_2).f2) true _ A16.out).mono ?_); rintro e w21 ⟨rfl, hb⟩; refine ⟨_, rfl, ?_⟩; have n0_ := Aside0.mk (blk_below (g := gb387) (o := .cells #[.int .i64 a0_0, .int .i64 a0_1, .string a0_2] 31 (0, 0)) q132_ hb); have n1_ := Aside0.mk (blk_below (g := gb391) (o := .cells #[.int .i64 ((rd_T31 l1 x26_2).f0), .int .i64 ((rd_T31 l1 x26_2).f1), .string ((rd_T31 l1 x26_2).f2)] 31 (0, 0)) q93_ hb); have n2_ := Aside0.mk (below_step q0_ hb); clear BK387; clear BK391; clear HB; have BK387 := n0_; have BK391 := n1_; have HB := n2_; clear n0_ n1_ n2_; (try clear hb); (try clear hb2); (try clear hk); (try clear hi)))
                    go_roundg k2
                    case measure => have := HJ3.out; have := HK2.out; omega
                    case rel => exact ⟨(wrap64 (x26_2 + 1)), q7_, H', ⟨by have := HJ3.out; have := HK2.out; omega⟩, ⟨q24_⟩, ⟨q0_⟩⟩
                  · replace c17 := Bool.eq_false_iff.mpr c17
                    subst c17
                    replace H := ifF_ H
                    replace H := Option.bind_eq_some_iff.mp H
                    obtain ⟨t393, A220, H⟩ := H
                    replace H : (some t393) = some r := H
                    have A22 := Aside0.mk A220
                    clear A220
                    obtain rfl := Option.some.inj H
                    have p390 : 0 ≤ (x26_2 : Int) := of_decide_eq_true q11_
                    have q390 : x26_2 < (l1.length : Int) := of_decide_eq_true q11_
                    obtain ⟨ad390, e390, hx390_0, hx390_1, hx390_2⟩ := at_T31 HR1.out x26_2 p390 q390
                    cases e390
                    replace hx390_0 := (HB.out.cell (World.block_lt_of_cell? w _ hx390_0)).trans hx390_0
                    replace hx390_1 := (HB.out.cell (World.block_lt_of_cell? w _ hx390_1)).trans hx390_1
                    replace hx390_2 := (HB.out.cell (World.block_lt_of_cell? w _ hx390_2)).trans hx390_2
                    replace p390 := eq_true p390
                    replace q390 := eq_true q390
                    go_wp2_with (first | ((with_reducible refine gate_dst (N := 8) rfl ?_); (try (refine gate_guard (by rfl) ?_; dsimp only)); refine box_event ?hg (N := 8) ?hd (cs := #[.int .i64 0, .int .i64 0, .string (⟨#[]⟩ : ByteArray)]) (t := 31) ?hr ?_; (case hd => rfl); (case hg => rfl); (case hr => first | (go_simp; done) | (go_simp; rfl)); intro gb391 hg w23 hbox hb; have n0_ := Aside0.mk (blk_below (g := gb387) (o := .cells #[.int .i64 a0_0, .int .i64 a0_1, .string a0_2] 31 (0, 0)) q24_ hb); have n1_ := Aside0.mk (below_step q0_ hb); have n2_ := Aside0.mk (hbox); have n3_ := Aside0.mk ((q1_ : w.heap.size ≤ gb391)); have n4_ := Aside0.mk ((q1_ : w.heap.size ≤ gb391)); have n5_ := Aside0.mk ((q79_ : gb387 ≠ gb391)); have n6_ := Aside0.mk ((q81_ : gb391 ≠ gb387)); clear BK387; clear HB; have BK387 := n0_; have HB := n1_; have BK391 := n2_; have GW391 := n3_; have GE391 := n4_; have NB387_391 := n5_; have NB391_387 := n6_; clear n0_ n1_ n2_ n3_ n4_ n5_ n6_; clear hb hbox hg; have hnb24 := NB391_387.out; have hnc24 := NB387_391.out; have hcz25_0 : w23.cell? ⟨gb391, 0, none⟩ = some (.int .i64 0) := (blk_cell BK391.out 0).trans rfl; have hcz25_1 : w23.cell? ⟨gb391, 1, none⟩ = some (.int .i64 0) := (blk_cell BK391.out 1).trans rfl; have hcz25_2 : w23.cell? ⟨gb391, 2, none⟩ = some (.string (⟨#[]⟩ : ByteArray)) := (blk_cell BK391.out 2).trans rfl; have hfz25_0 := blk_frozen BK391.out 0; have hfz25_1 := blk_frozen BK391.out 1; have hfz25_2 := blk_frozen BK391.out 2) | ((with_reducible refine gate_callee (f := 11) rfl ?_); refine goesL_ (some 31) rfl rfl Tryd.func11 (by kernel_rfl) rfl #[.agg #[.int .i64 ((rd_T31 l1 x26_2).f0), .int .i64 ((rd_T31 l1 x26_2).f1), .string ((rd_T31 l1 x26_2).f2)]] rfl q2_ ?_; (with_reducible refine (corollaryref01_Right.calls k2 ((rd_T31 l1 x26_2).f0) ((rd_T31 l1 x26_2).f1) ((rd_T31 l1 x26_2).f2) false _ A16.out).mono ?_); rintro e w26 ⟨rfl, hb⟩; refine ⟨_, rfl, ?_⟩; have n0_ := Aside0.mk (blk_below (g := gb387) (o := .cells #[.int .i64 a0_0, .int .i64 a0_1, .string a0_2] 31 (0, 0)) q132_ hb); have n1_ := Aside0.mk (blk_below (g := gb391) (o := .cells #[.int .i64 ((rd_T31 l1 x26_2).f0), .int .i64 ((rd_T31 l1 x26_2).f1), .string ((rd_T31 l1 x26_2).f2)] 31 (0, 0)) q93_ hb); have n2_ := Aside0.mk (below_step q0_ hb); clear BK387; clear BK391; clear HB; have BK387 := n0_; have BK391 := n1_; have HB := n2_; clear n0_ n1_ n2_; (try clear hb); (try clear hb2); (try clear hk); (try clear hi)) | ((with_reducible refine gate_callee (f := 9) rfl ?_); refine goesL_ (some 33) rfl rfl Tryd.func9 (by kernel_rfl) rfl #[] rfl q2_ ?_; (with_reducible refine (corollarylaw10_awake.calls k2  t393 _ A22.out (by first | exact HG.out | (refine Glob.below HG.out ?_; (repeat (first | (with_reducible first | exact HB.out | apply below_alloc | apply pw_below_drewN | apply below_drew1 | refine below_set ?_ GE387.out | refine below_set ?_ GE391.out) | exact HB.out))) | (repeat (first | exact HG.out | apply Glob.drewN | apply Glob.drew | apply Glob.alloc)))).mono ?_); rintro e w27 ⟨rfl, hb⟩; refine ⟨_, rfl, ?_⟩; have n0_ := Aside0.mk (blk_below (g := gb387) (o := .cells #[.int .i64 a0_0, .int .i64 a0_1, .string a0_2] 31 (0, 0)) q24_ hb); have n1_ := Aside0.mk (blk_below (g := gb391) (o := .cells #[.int .i64 ((rd_T31 l1 x26_2).f0), .int .i64 ((rd_T31 l1 x26_2).f1), .string ((rd_T31 l1 x26_2).f2)] 31 (0, 0)) (by (with_reducible repeat first | apply bN_ | apply bD_ | apply bA_); exact BK391.out) hb); have n2_ := Aside0.mk (below_step q0_ hb); clear BK387; clear BK391; clear HB; have BK387 := n0_; have BK391 := n1_; have HB := n2_; clear n0_ n1_ n2_; (try clear hb); (try clear hb2); (try clear hk); (try clear hi)))
                    go_ret
                    exact ⟨q4_, q0_⟩
                · rw [if_neg c15] at H
                  exact absurd H (by simp)
              · rw [if_neg c14] at H
                exact absurd H (by simp)
            · rw [if_neg c13] at H
              have c13b0 : decide (x26_2 < (l1.length : Int)) = false := decide_eq_false c13
              clear c13
              obtain ⟨y394, hy394⟩ : ∃ y_ : List (S39), y_ = (([(⟨2, 0, (⟨a0_0, a0_1, a0_2⟩ : S31)⟩ : S39)] : List (S39))) := ⟨_, rfl⟩
              replace H : ((expr_Eval.f k2 y394 l1).bind fun bt397 => ((expr_Eval.f k2 (([(⟨2, 0, (⟨a0_0, a0_1, a0_2⟩ : S31)⟩ : S39), (⟨16, 0, (⟨0, 0, (⟨#[]⟩ : ByteArray)⟩ : S31)⟩ : S39)] : List (S39))) l1).bind fun bt405 => (if (!(bt397.1 == a0_0) || (!(bt397.2.1 == a0_1) || (!(bt397.2.2.1.toList == a0_2.toList)))) = true then (corollarylaw10_ExprPlain.j2 k2 l1 a2 true) else (if bt397.2.2.2 = 0 then (if bt405.2.2.2 = 0 then (if bt405.1 = 1 then (corollarylaw10_ExprPlain.j2 k2 l1 a2 ((bt405.2.1 == 1) != (a0_0 == 0))) else (corollarylaw10_ExprPlain.j2 k2 l1 a2 true)) else (corollarylaw10_ExprPlain.j2 k2 l1 a2 true)) else (corollarylaw10_ExprPlain.j2 k2 l1 a2 true))))) = some r := by first | (rw [hy394]; with_reducible exact H) | (have H2_ := (Option.bind_some _ _).symm.trans H; rw [hy394]; with_reducible exact H2_) | (have H2_ := (Option.bind_some _ _).symm.trans H; with_reducible exact H2_) | with_reducible exact H | (rw [hy394]; exact H) | exact H
              have Ny394 := Aside0.mk hy394
              clear hy394
              replace H := Option.bind_eq_some_iff.mp H
              obtain ⟨⟨t397, t398, t399, t400⟩, A280, H⟩ := H
              replace H : ((expr_Eval.f k2 (([(⟨2, 0, (⟨a0_0, a0_1, a0_2⟩ : S31)⟩ : S39), (⟨16, 0, (⟨0, 0, (⟨#[]⟩ : ByteArray)⟩ : S31)⟩ : S39)] : List (S39))) l1).bind fun bt405 => (if (!(t397 == a0_0) || (!(t398 == a0_1) || (!(t399.toList == a0_2.toList)))) = true then (corollarylaw10_ExprPlain.j2 k2 l1 a2 true) else (if t400 = 0 then (if bt405.2.2.2 = 0 then (if bt405.1 = 1 then (corollarylaw10_ExprPlain.j2 k2 l1 a2 ((bt405.2.1 == 1) != (a0_0 == 0))) else (corollarylaw10_ExprPlain.j2 k2 l1 a2 true)) else (corollarylaw10_ExprPlain.j2 k2 l1 a2 true)) else (corollarylaw10_ExprPlain.j2 k2 l1 a2 true)))) = some r := H
              have A28 := Aside0.mk A280
              clear A280
              obtain ⟨y402, hy402⟩ : ∃ y_ : List (S39), y_ = (([(⟨2, 0, (⟨a0_0, a0_1, a0_2⟩ : S31)⟩ : S39), (⟨16, 0, (⟨0, 0, (⟨#[]⟩ : ByteArray)⟩ : S31)⟩ : S39)] : List (S39))) := ⟨_, rfl⟩
              replace H : ((expr_Eval.f k2 y402 l1).bind fun bt405 => (if (!(t397 == a0_0) || (!(t398 == a0_1) || (!(t399.toList == a0_2.toList)))) = true then (corollarylaw10_ExprPlain.j2 k2 l1 a2 true) else (if t400 = 0 then (if bt405.2.2.2 = 0 then (if bt405.1 = 1 then (corollarylaw10_ExprPlain.j2 k2 l1 a2 ((bt405.2.1 == 1) != (a0_0 == 0))) else (corollarylaw10_ExprPlain.j2 k2 l1 a2 true)) else (corollarylaw10_ExprPlain.j2 k2 l1 a2 true)) else (corollarylaw10_ExprPlain.j2 k2 l1 a2 true)))) = some r := by first | (rw [hy402]; with_reducible exact H) | (have H2_ := (Option.bind_some _ _).symm.trans H; rw [hy402]; with_reducible exact H2_) | (have H2_ := (Option.bind_some _ _).symm.trans H; with_reducible exact H2_) | with_reducible exact H | (rw [hy402]; exact H) | exact H
              have Ny402 := Aside0.mk hy402
              clear hy402
              replace H := Option.bind_eq_some_iff.mp H
              obtain ⟨⟨t405, t406, t407, t408⟩, A290, H⟩ := H
              replace H : (if (!(t397 == a0_0) || (!(t398 == a0_1) || (!(t399.toList == a0_2.toList)))) = true then (corollarylaw10_ExprPlain.j2 k2 l1 a2 true) else (if t400 = 0 then (if t408 = 0 then (if t405 = 1 then (corollarylaw10_ExprPlain.j2 k2 l1 a2 ((t406 == 1) != (a0_0 == 0))) else (corollarylaw10_ExprPlain.j2 k2 l1 a2 true)) else (corollarylaw10_ExprPlain.j2 k2 l1 a2 true)) else (corollarylaw10_ExprPlain.j2 k2 l1 a2 true))) = some r := H
              have A29 := Aside0.mk A290
              clear A290
              have HC30 := Aside0.mk H
              clear H
              have hcz31_0 : wr.cell? ⟨gb387, 0, none⟩ = some (.int .i64 a0_0) := (blk_cell BK387.out 0).trans rfl
              have hcz31_1 : wr.cell? ⟨gb387, 1, none⟩ = some (.int .i64 a0_1) := (blk_cell BK387.out 1).trans rfl
              have hcz31_2 : wr.cell? ⟨gb387, 2, none⟩ = some (.string a0_2) := (blk_cell BK387.out 2).trans rfl
              have hfz31_0 := blk_frozen BK387.out 0
              have hfz31_1 := blk_frozen BK387.out 1
              have hfz31_2 := blk_frozen BK387.out 2
              go_upto_region 11 with (first | ((with_reducible refine gate_dst (N := 38) rfl ?_); (try (refine gate_guard (by rfl) ?_; dsimp only)); refine Kd.R_lit k39 _ 39 ?hg (N := 38) ?hd (xs := ([(⟨2, 0, (⟨a0_0, a0_1, a0_2⟩ : S31)⟩ : S39)] : List (S39))) (inner := [.int .i64 2, .int .i64 0, .int .i64 a0_0, .int .i64 a0_1, .string a0_2]) (ok := fun _ => True) (okp := fun _ => True) ?hr ?hp (fun _ hk => hk) trivial (Below.refl _ _) (Nat.le_refl _) (by simp) ?_; (case hd => rfl); (case hg => rfl); (case hr => first | (go_simp; done) | (go_simp; rfl)); (case hp => exact (Reps.c5 (show Kd.M k39 _ _ _ (⟨2, 0, (⟨a0_0, a0_1, a0_2⟩ : S31)⟩ : S39) [.int .i64 2, .int .i64 0, .int .i64 a0_0, .int .i64 a0_1, .string a0_2] from (k39_mkM _ _ _ (⟨2, 0, (⟨a0_0, a0_1, a0_2⟩ : S31)⟩ : S39) )) (Reps.none _ _))); intro v395 w32 ho33 hb hg_ hnew_; clear hg_ hnew_; (first | rw [← Ny394.out] at ho33 | (simp only [Int.reduceToNat] at ho33; rw [← Ny394.out] at ho33)); have n0_ := Aside0.mk (Kd.R_lower ho33 (below_size q0_)); have n1_ := Aside0.mk (blk_below (g := gb387) (o := .cells #[.int .i64 a0_0, .int .i64 a0_1, .string a0_2] 31 (0, 0)) q24_ hb); have n2_ := Aside0.mk (below_step q0_ hb); clear BK387; clear HB; have HO396 := n0_; have BK387 := n1_; have HB := n2_; clear n0_ n1_ n2_; clear hb ho33; obtain ⟨Ao34, co34, eo34⟩ := Kd.R_slice HO396.out; subst eo34) | ((with_reducible refine gate_callee (f := 12) rfl ?_); refine goesL_ (some 40) rfl rfl Tryd.func12 (by kernel_rfl) rfl #[.slice Ao34 y394.length co34, .slice A1 l1.length c1] rfl q2_ ?_; (with_reducible refine (expr_Eval.calls k2 _ _ y394 _ _ l1 t397 t398 t399 t400 _ ?side1 ?side2 ?side3 ?side4 A28.out q147_).mono ?_); (case side1 => repeat (first | exact (Kd.R_reads' HO396.out).2.2 | (with_reducible refine Kd.C_alloc ?_ _) | (with_reducible refine Kd.C_drewN ?_ _) | (with_reducible refine Kd.C_drew ?_))); (case side2 => exact (Kd.R_reads' HO396.out).2.1); (case side3 => repeat (first | exact (Kd.C_below HR1.out HB.out) | (with_reducible refine Kd.C_alloc ?_ _) | (with_reducible refine Kd.C_drewN ?_ _) | (with_reducible refine Kd.C_drew ?_))); (case side4 => exact HC1.out); rintro e w35 ⟨rfl, hb⟩; refine ⟨_, rfl, ?_⟩; have n0_ := Aside0.mk (Kd.R_below q148_ hb); have n1_ := Aside0.mk (blk_below (g := gb387) (o := .cells #[.int .i64 a0_0, .int .i64 a0_1, .string a0_2] 31 (0, 0)) q24_ hb); have n2_ := Aside0.mk (below_step q0_ hb); clear HO396; clear BK387; clear HB; have HO396 := n0_; have BK387 := n1_; have HB := n2_; clear n0_ n1_ n2_; (try clear hb); (try clear hb2); (try clear hk); (try clear hi)) | ((with_reducible refine gate_dst (N := 9) rfl ?_); (try (refine gate_guard (by rfl) ?_; dsimp only)); refine box_event ?hg (N := 9) ?hd (cs := #[.int .i64 0, .int .i64 0, .string (⟨#[]⟩ : ByteArray)]) (t := 31) ?hr ?_; (case hd => rfl); (case hg => rfl); (case hr => first | (go_simp; done) | (go_simp; rfl)); intro gb401 hg w36 hbox hb; have n0_ := Aside0.mk (Kd.R_below q148_ hb); have n1_ := Aside0.mk (blk_below (g := gb387) (o := .cells #[.int .i64 a0_0, .int .i64 a0_1, .string a0_2] 31 (0, 0)) q24_ hb); have n2_ := Aside0.mk (below_step q0_ hb); have n3_ := Aside0.mk (hbox); have n4_ := Aside0.mk ((q1_ : w.heap.size ≤ gb401)); have n5_ := Aside0.mk ((q1_ : w.heap.size ≤ gb401)); have n6_ := Aside0.mk ((q79_ : gb387 ≠ gb401)); have n7_ := Aside0.mk ((q81_ : gb401 ≠ gb387)); clear HO396; clear BK387; clear HB; have HO396 := n0_; have BK387 := n1_; have HB := n2_; have BK401 := n3_; have GW401 := n4_; have GE401 := n5_; have NB387_401 := n6_; have NB401_387 := n7_; clear n0_ n1_ n2_ n3_ n4_ n5_ n6_ n7_; clear hb hbox hg; have hnb37 := NB401_387.out; have hnc37 := NB387_401.out; have hcz38_0 : w36.cell? ⟨gb401, 0, none⟩ = some (.int .i64 0) := (blk_cell BK401.out 0).trans rfl; have hcz38_1 : w36.cell? ⟨gb401, 1, none⟩ = some (.int .i64 0) := (blk_cell BK401.out 1).trans rfl; have hcz38_2 : w36.cell? ⟨gb401, 2, none⟩ = some (.string (⟨#[]⟩ : ByteArray)) := (blk_cell BK401.out 2).trans rfl; have hfz38_0 := blk_frozen BK401.out 0; have hfz38_1 := blk_frozen BK401.out 1; have hfz38_2 := blk_frozen BK401.out 2; have hcz39_0 : w36.cell? ⟨gb387, 0, none⟩ = some (.int .i64 a0_0) := (blk_cell BK387.out 0).trans rfl; have hcz39_1 : w36.cell? ⟨gb387, 1, none⟩ = some (.int .i64 a0_1) := (blk_cell BK387.out 1).trans rfl; have hcz39_2 : w36.cell? ⟨gb387, 2, none⟩ = some (.string a0_2) := (blk_cell BK387.out 2).trans rfl; have hfz39_0 := blk_frozen BK387.out 0; have hfz39_1 := blk_frozen BK387.out 1; have hfz39_2 := blk_frozen BK387.out 2) | ((with_reducible refine gate_dst (N := 47) rfl ?_); (try (refine gate_guard (by rfl) ?_; dsimp only)); refine Kd.R_lit k39 _ 39 ?hg (N := 47) ?hd (xs := ([(⟨2, 0, (⟨a0_0, a0_1, a0_2⟩ : S31)⟩ : S39), (⟨16, 0, (⟨0, 0, (⟨#[]⟩ : ByteArray)⟩ : S31)⟩ : S39)] : List (S39))) (inner := [.int .i64 2, .int .i64 0, .int .i64 a0_0, .int .i64 a0_1, .string a0_2, .int .i64 16, .int .i64 0, .int .i64 0, .int .i64 0, .string (⟨#[]⟩ : ByteArray)]) (ok := fun _ => True) (okp := fun _ => True) ?hr ?hp (fun _ hk => hk) trivial (Below.refl _ _) (Nat.le_refl _) (by simp) ?_; (case hd => rfl); (case hg => rfl); (case hr => first | (go_simp; done) | (go_simp; rfl)); (case hp => exact (Reps.c5 (show Kd.M k39 _ _ _ (⟨2, 0, (⟨a0_0, a0_1, a0_2⟩ : S31)⟩ : S39) [.int .i64 2, .int .i64 0, .int .i64 a0_0, .int .i64 a0_1, .string a0_2] from (k39_mkM _ _ _ (⟨2, 0, (⟨a0_0, a0_1, a0_2⟩ : S31)⟩ : S39) )) (Reps.c5 (show Kd.M k39 _ _ _ (⟨16, 0, (⟨0, 0, (⟨#[]⟩ : ByteArray)⟩ : S31)⟩ : S39) [.int .i64 16, .int .i64 0, .int .i64 0, .int .i64 0, .string (⟨#[]⟩ : ByteArray)] from (k39_mkM _ _ _ (⟨16, 0, (⟨0, 0, (⟨#[]⟩ : ByteArray)⟩ : S31)⟩ : S39) )) (Reps.none _ _)))); intro v403 w40 ho41 hb hg_ hnew_; clear hg_ hnew_; (first | rw [← Ny402.out] at ho41 | (simp only [Int.reduceToNat] at ho41; rw [← Ny402.out] at ho41)); have n0_ := Aside0.mk (Kd.R_elder' q127_ (Kd.R_base ho41) hb); have n1_ := Aside0.mk (Kd.R_lower (Kd.R_new' ho41 (Kd.R_lt q127_)) (below_size q0_)); have n2_ := Aside0.mk (blk_below (g := gb387) (o := .cells #[.int .i64 a0_0, .int .i64 a0_1, .string a0_2] 31 (0, 0)) (by (with_reducible repeat first | apply bN_ | apply bD_ | apply bA_); refine blk_far ?_ NB387_401.out _; (with_reducible repeat first | apply bN_ | apply bD_ | apply bA_); refine blk_far ?_ NB387_401.out _; (with_reducible repeat first | apply bN_ | apply bD_ | apply bA_); refine blk_far ?_ NB387_401.out _; (with_reducible repeat first | apply bN_ | apply bD_ | apply bA_); exact BK387.out) hb); have n3_ := Aside0.mk (blk_below (g := gb401) (o := .cells #[.int .i64 t397, .int .i64 t398, .string t399] 31 (0, 0)) (by (with_reducible repeat first | apply bN_ | apply bD_ | apply bA_); refine blk_put (cs := #[.int .i64 t397, .int .i64 t398, .string (⟨#[]⟩ : ByteArray)]) ?_ 2 _ rfl; (with_reducible repeat first | apply bN_ | apply bD_ | apply bA_); refine blk_put (cs := #[.int .i64 t397, .int .i64 0, .string (⟨#[]⟩ : ByteArray)]) ?_ 1 _ rfl; (with_reducible repeat first | apply bN_ | apply bD_ | apply bA_); refine blk_put (cs := #[.int .i64 0, .int .i64 0, .string (⟨#[]⟩ : ByteArray)]) ?_ 0 _ rfl; (with_reducible repeat first | apply bN_ | apply bD_ | apply bA_); exact BK401.out) hb); have n4_ := Aside0.mk (below_step q0_ hb); clear HO396; clear BK387; clear BK401; clear HB; have HO396 := n0_; have HO404 := n1_; have BK387 := n2_; have BK401 := n3_; have HB := n4_; clear n0_ n1_ n2_ n3_ n4_; clear hb ho41; obtain ⟨Ao42, co42, eo42⟩ := Kd.R_slice HO404.out; subst eo42) | ((with_reducible refine gate_callee (f := 12) rfl ?_); refine goesL_ (some 49) rfl rfl Tryd.func12 (by kernel_rfl) rfl #[.slice Ao42 y402.length co42, .slice A1 l1.length c1] rfl q2_ ?_; (with_reducible refine (expr_Eval.calls k2 _ _ y402 _ _ l1 t405 t406 t407 t408 _ ?side1 ?side2 ?side3 ?side4 A29.out (by first | exact HG.out | (refine Glob.below HG.out ?_; (repeat (first | (with_reducible first | exact HB.out | apply below_alloc | apply pw_below_drewN | apply below_drew1 | refine below_set ?_ GE387.out | refine below_set ?_ GE401.out) | exact HB.out))) | (repeat (first | exact HG.out | apply Glob.drewN | apply Glob.drew | apply Glob.alloc)))).mono ?_); (case side1 => repeat (first | exact (Kd.R_reads' HO404.out).2.2 | (with_reducible refine Kd.C_alloc ?_ _) | (with_reducible refine Kd.C_drewN ?_ _) | (with_reducible refine Kd.C_drew ?_))); (case side2 => exact (Kd.R_reads' HO404.out).2.1); (case side3 => repeat (first | exact (Kd.C_below HR1.out HB.out) | (with_reducible refine Kd.C_alloc ?_ _) | (with_reducible refine Kd.C_drewN ?_ _) | (with_reducible refine Kd.C_drew ?_))); (case side4 => exact HC1.out); rintro e w43 ⟨rfl, hb⟩; refine ⟨_, rfl, ?_⟩; have n0_ := Aside0.mk (Kd.R_below q148_ hb); have n1_ := Aside0.mk (Kd.R_below (by (with_reducible repeat (first | apply Kd.R_alloc | apply Kd.R_drewN | apply Kd.R_drew)); exact HO404.out) hb); have n2_ := Aside0.mk (blk_below (g := gb387) (o := .cells #[.int .i64 a0_0, .int .i64 a0_1, .string a0_2] 31 (0, 0)) q24_ hb); have n3_ := Aside0.mk (blk_below (g := gb401) (o := .cells #[.int .i64 t397, .int .i64 t398, .string t399] 31 (0, 0)) q83_ hb); have n4_ := Aside0.mk (below_step q0_ hb); clear HO396; clear HO404; clear BK387; clear BK401; clear HB; have HO396 := n0_; have HO404 := n1_; have BK387 := n2_; have BK401 := n3_; have HB := n4_; clear n0_ n1_ n2_ n3_ n4_; (try clear hb); (try clear hb2); (try clear hk); (try clear hi)) | ((with_reducible refine gate_dst (N := 11) rfl ?_); (try (refine gate_guard (by rfl) ?_; dsimp only)); refine box_event ?hg (N := 11) ?hd (cs := #[.int .i64 0, .int .i64 0, .string (⟨#[]⟩ : ByteArray)]) (t := 31) ?hr ?_; (case hd => rfl); (case hg => rfl); (case hr => first | (go_simp; done) | (go_simp; rfl)); intro gb409 hg w44 hbox hb; have n0_ := Aside0.mk (Kd.R_below q148_ hb); have n1_ := Aside0.mk (Kd.R_below (by (with_reducible repeat (first | apply Kd.R_alloc | apply Kd.R_drewN | apply Kd.R_drew)); exact HO404.out) hb); have n2_ := Aside0.mk (blk_below (g := gb387) (o := .cells #[.int .i64 a0_0, .int .i64 a0_1, .string a0_2] 31 (0, 0)) q24_ hb); have n3_ := Aside0.mk (blk_below (g := gb401) (o := .cells #[.int .i64 t397, .int .i64 t398, .string t399] 31 (0, 0)) q83_ hb); have n4_ := Aside0.mk (below_step q0_ hb); have n5_ := Aside0.mk (hbox); have n6_ := Aside0.mk ((q1_ : w.heap.size ≤ gb409)); have n7_ := Aside0.mk ((q1_ : w.heap.size ≤ gb409)); have n8_ := Aside0.mk ((q79_ : gb387 ≠ gb409)); have n9_ := Aside0.mk ((q81_ : gb409 ≠ gb387)); have n10_ := Aside0.mk ((q180_ : gb401 ≠ gb409)); have n11_ := Aside0.mk ((q183_ : gb409 ≠ gb401)); clear HO396; clear HO404; clear BK387; clear BK401; clear HB; have HO396 := n0_; have HO404 := n1_; have BK387 := n2_; have BK401 := n3_; have HB := n4_; have BK409 := n5_; have GW409 := n6_; have GE409 := n7_; have NB387_409 := n8_; have NB409_387 := n9_; have NB401_409 := n10_; have NB409_401 := n11_; clear n0_ n1_ n2_ n3_ n4_ n5_ n6_ n7_ n8_ n9_ n10_ n11_; clear hb hbox hg; have hnb45 := NB409_387.out; have hnc45 := NB387_409.out; have hnb46 := NB409_401.out; have hnc46 := NB401_409.out; have hcz47_0 : w44.cell? ⟨gb409, 0, none⟩ = some (.int .i64 0) := (blk_cell BK409.out 0).trans rfl; have hcz47_1 : w44.cell? ⟨gb409, 1, none⟩ = some (.int .i64 0) := (blk_cell BK409.out 1).trans rfl; have hcz47_2 : w44.cell? ⟨gb409, 2, none⟩ = some (.string (⟨#[]⟩ : ByteArray)) := (blk_cell BK409.out 2).trans rfl; have hfz47_0 := blk_frozen BK409.out 0; have hfz47_1 := blk_frozen BK409.out 1; have hfz47_2 := blk_frozen BK409.out 2))
              (try simp only [Act.put, List.setIfInBounds_toArray, List.set_cons_zero, List.set_cons_succ])
              go_cut [76] (fun v76 wc => ∃ (kq : Nat) (x76_29 : Bool), v76 = .bool x76_29 ∧ Aside0 (corollarylaw10_ExprPlain.j2 kq l1 a2 x76_29 = some r) ∧ Aside0 (kq ≤ k2) ∧ Aside0 (wc.heap[gb387]? = some (.cells #[.int .i64 a0_0, .int .i64 a0_1, .string a0_2] 31 (0, 0))) ∧ Aside0 (wc.heap[gb401]? = some (.cells #[.int .i64 t397, .int .i64 t398, .string t399] 31 (0, 0))) ∧ Aside0 (wc.heap[gb409]? = some (.cells #[.int .i64 t405, .int .i64 t406, .string t407] 31 (0, 0))) ∧ Aside0 (Below w.heap.size w wc))
              case first =>
                have H := HC30.out
                clear HC30
                by_cases c48 : (!(t397 == a0_0) || (!(t398 == a0_1) || (!(t399.toList == a0_2.toList)))) = true
                · rw [if_pos c48] at H
                  have c48b0 : (!(t397 == a0_0) || (!(t398 == a0_1) || (!(t399.toList == a0_2.toList)))) = true := c48
                  clear c48
                  (first | (rw [c48b0]; try simp only [c48b0] at *) | (simp only [i64_w, i32_w]; rw [c48b0]) | skip)
                  have H' := Aside0.mk H
                  clear H
                  have hnb49 := NB401_387.out
                  have hnc49 := NB387_401.out
                  have hnb50 := NB401_409.out
                  have hnc50 := NB409_401.out
                  have hcz51_0 : w44.cell? ⟨gb401, 0, none⟩ = some (.int .i64 t397) := (blk_cell BK401.out 0).trans rfl
                  have hcz51_1 : w44.cell? ⟨gb401, 1, none⟩ = some (.int .i64 t398) := (blk_cell BK401.out 1).trans rfl
                  have hcz51_2 : w44.cell? ⟨gb401, 2, none⟩ = some (.string t399) := (blk_cell BK401.out 2).trans rfl
                  have hfz51_0 := blk_frozen BK401.out 0
                  have hfz51_1 := blk_frozen BK401.out 1
                  have hfz51_2 := blk_frozen BK401.out 2
                  have hnb52 := NB387_409.out
                  have hnc52 := NB409_387.out
                  have hcz53_0 : w44.cell? ⟨gb387, 0, none⟩ = some (.int .i64 a0_0) := (blk_cell BK387.out 0).trans rfl
                  have hcz53_1 : w44.cell? ⟨gb387, 1, none⟩ = some (.int .i64 a0_1) := (blk_cell BK387.out 1).trans rfl
                  have hcz53_2 : w44.cell? ⟨gb387, 2, none⟩ = some (.string a0_2) := (blk_cell BK387.out 2).trans rfl
                  have hfz53_0 := blk_frozen BK387.out 0
                  have hfz53_1 := blk_frozen BK387.out 1
                  have hfz53_2 := blk_frozen BK387.out 2
                  go_wp2
                  go_meet
                  case rel => exact ⟨_, (true), q7_, H', ⟨q112_⟩, ⟨q42_⟩, ⟨q41_⟩, ⟨q21_⟩, ⟨q0_⟩⟩
                · rw [if_neg c48] at H
                  have c48b0 : (!(t397 == a0_0) || (!(t398 == a0_1) || (!(t399.toList == a0_2.toList)))) = false := by simpa using c48
                  clear c48
                  (first | (rw [c48b0]; try simp only [c48b0] at *) | (simp only [i64_w, i32_w]; rw [c48b0]) | skip)
                  by_cases c54 : t400 = 0
                  · rw [if_pos c54] at H
                    have c54b0 : (t400 == 0) = true := beq_iff_eq.mpr c54
                    have c54b1 : (t400 != 0) = false := bne_eq_false_iff_eq.mpr c54
                    clear c54
                    by_cases c55 : t408 = 0
                    · rw [if_pos c55] at H
                      have c55b0 : (t408 == 0) = true := beq_iff_eq.mpr c55
                      have c55b1 : (t408 != 0) = false := bne_eq_false_iff_eq.mpr c55
                      clear c55
                      by_cases c56 : t405 = 1
                      · rw [if_pos c56] at H
                        have c56b0 : (t405 == 1) = true := beq_iff_eq.mpr c56
                        have c56b1 : (t405 != 1) = false := bne_eq_false_iff_eq.mpr c56
                        clear c56
                        have H' := Aside0.mk H
                        clear H
                        have hnb57 := NB401_387.out
                        have hnc57 := NB387_401.out
                        have hnb58 := NB401_409.out
                        have hnc58 := NB409_401.out
                        have hcz59_0 : w44.cell? ⟨gb401, 0, none⟩ = some (.int .i64 t397) := (blk_cell BK401.out 0).trans rfl
                        have hcz59_1 : w44.cell? ⟨gb401, 1, none⟩ = some (.int .i64 t398) := (blk_cell BK401.out 1).trans rfl
                        have hcz59_2 : w44.cell? ⟨gb401, 2, none⟩ = some (.string t399) := (blk_cell BK401.out 2).trans rfl
                        have hfz59_0 := blk_frozen BK401.out 0
                        have hfz59_1 := blk_frozen BK401.out 1
                        have hfz59_2 := blk_frozen BK401.out 2
                        have hnb60 := NB387_409.out
                        have hnc60 := NB409_387.out
                        have hcz61_0 : w44.cell? ⟨gb387, 0, none⟩ = some (.int .i64 a0_0) := (blk_cell BK387.out 0).trans rfl
                        have hcz61_1 : w44.cell? ⟨gb387, 1, none⟩ = some (.int .i64 a0_1) := (blk_cell BK387.out 1).trans rfl
                        have hcz61_2 : w44.cell? ⟨gb387, 2, none⟩ = some (.string a0_2) := (blk_cell BK387.out 2).trans rfl
                        have hfz61_0 := blk_frozen BK387.out 0
                        have hfz61_1 := blk_frozen BK387.out 1
                        have hfz61_2 := blk_frozen BK387.out 2
                        have hcz62_0 : w44.cell? ⟨gb409, 0, none⟩ = some (.int .i64 0) := (blk_cell BK409.out 0).trans rfl
                        have hcz62_1 : w44.cell? ⟨gb409, 1, none⟩ = some (.int .i64 0) := (blk_cell BK409.out 1).trans rfl
                        have hcz62_2 : w44.cell? ⟨gb409, 2, none⟩ = some (.string (⟨#[]⟩ : ByteArray)) := (blk_cell BK409.out 2).trans rfl
                        have hfz62_0 := blk_frozen BK409.out 0
                        have hfz62_1 := blk_frozen BK409.out 1
                        have hfz62_2 := blk_frozen BK409.out 2
                        go_wp2
                        go_meet
                        case rel => exact ⟨_, (((t406 == 1) != (a0_0 == 0))), q7_, H', ⟨q112_⟩, ⟨q42_⟩, ⟨q41_⟩, ⟨q21_⟩, ⟨q0_⟩⟩
                      · rw [if_neg c56] at H
                        have c56b0 : (t405 == 1) = false := beq_eq_false_iff_ne.mpr c56
                        have c56b1 : (t405 != 1) = true := bne_iff_ne.mpr c56
                        have H' := Aside0.mk H
                        clear H
                        have hnb63 := NB401_387.out
                        have hnc63 := NB387_401.out
                        have hnb64 := NB401_409.out
                        have hnc64 := NB409_401.out
                        have hcz65_0 : w44.cell? ⟨gb401, 0, none⟩ = some (.int .i64 t397) := (blk_cell BK401.out 0).trans rfl
                        have hcz65_1 : w44.cell? ⟨gb401, 1, none⟩ = some (.int .i64 t398) := (blk_cell BK401.out 1).trans rfl
                        have hcz65_2 : w44.cell? ⟨gb401, 2, none⟩ = some (.string t399) := (blk_cell BK401.out 2).trans rfl
                        have hfz65_0 := blk_frozen BK401.out 0
                        have hfz65_1 := blk_frozen BK401.out 1
                        have hfz65_2 := blk_frozen BK401.out 2
                        have hnb66 := NB387_409.out
                        have hnc66 := NB409_387.out
                        have hcz67_0 : w44.cell? ⟨gb387, 0, none⟩ = some (.int .i64 a0_0) := (blk_cell BK387.out 0).trans rfl
                        have hcz67_1 : w44.cell? ⟨gb387, 1, none⟩ = some (.int .i64 a0_1) := (blk_cell BK387.out 1).trans rfl
                        have hcz67_2 : w44.cell? ⟨gb387, 2, none⟩ = some (.string a0_2) := (blk_cell BK387.out 2).trans rfl
                        have hfz67_0 := blk_frozen BK387.out 0
                        have hfz67_1 := blk_frozen BK387.out 1
                        have hfz67_2 := blk_frozen BK387.out 2
                        have hcz68_0 : w44.cell? ⟨gb409, 0, none⟩ = some (.int .i64 0) := (blk_cell BK409.out 0).trans rfl
                        have hcz68_1 : w44.cell? ⟨gb409, 1, none⟩ = some (.int .i64 0) := (blk_cell BK409.out 1).trans rfl
                        have hcz68_2 : w44.cell? ⟨gb409, 2, none⟩ = some (.string (⟨#[]⟩ : ByteArray)) := (blk_cell BK409.out 2).trans rfl
                        have hfz68_0 := blk_frozen BK409.out 0
                        have hfz68_1 := blk_frozen BK409.out 1
                        have hfz68_2 := blk_frozen BK409.out 2
                        go_wp2
                        go_meet
                        case rel => exact ⟨_, (true), q7_, H', ⟨q112_⟩, ⟨q42_⟩, ⟨q41_⟩, ⟨q21_⟩, ⟨q0_⟩⟩
                    · rw [if_neg c55] at H
                      have c55b0 : (t408 == 0) = false := beq_eq_false_iff_ne.mpr c55
                      have c55b1 : (t408 != 0) = true := bne_iff_ne.mpr c55
                      have H' := Aside0.mk H
                      clear H
                      have hnb69 := NB401_387.out
                      have hnc69 := NB387_401.out
                      have hnb70 := NB401_409.out
                      have hnc70 := NB409_401.out
                      have hcz71_0 : w44.cell? ⟨gb401, 0, none⟩ = some (.int .i64 t397) := (blk_cell BK401.out 0).trans rfl
                      have hcz71_1 : w44.cell? ⟨gb401, 1, none⟩ = some (.int .i64 t398) := (blk_cell BK401.out 1).trans rfl
                      have hcz71_2 : w44.cell? ⟨gb401, 2, none⟩ = some (.string t399) := (blk_cell BK401.out 2).trans rfl
                      have hfz71_0 := blk_frozen BK401.out 0
                      have hfz71_1 := blk_frozen BK401.out 1
                      have hfz71_2 := blk_frozen BK401.out 2
                      have hnb72 := NB387_409.out
                      have hnc72 := NB409_387.out
                      have hcz73_0 : w44.cell? ⟨gb387, 0, none⟩ = some (.int .i64 a0_0) := (blk_cell BK387.out 0).trans rfl
                      have hcz73_1 : w44.cell? ⟨gb387, 1, none⟩ = some (.int .i64 a0_1) := (blk_cell BK387.out 1).trans rfl
                      have hcz73_2 : w44.cell? ⟨gb387, 2, none⟩ = some (.string a0_2) := (blk_cell BK387.out 2).trans rfl
                      have hfz73_0 := blk_frozen BK387.out 0
                      have hfz73_1 := blk_frozen BK387.out 1
                      have hfz73_2 := blk_frozen BK387.out 2
                      go_wp2
                      go_meet
                      case rel => exact ⟨_, (true), q7_, H', ⟨q112_⟩, ⟨q42_⟩, ⟨q41_⟩, ⟨q21_⟩, ⟨q0_⟩⟩
                  · rw [if_neg c54] at H
                    have c54b0 : (t400 == 0) = false := beq_eq_false_iff_ne.mpr c54
                    have c54b1 : (t400 != 0) = true := bne_iff_ne.mpr c54
                    have H' := Aside0.mk H
                    clear H
                    have hnb74 := NB401_387.out
                    have hnc74 := NB387_401.out
                    have hnb75 := NB401_409.out
                    have hnc75 := NB409_401.out
                    have hcz76_0 : w44.cell? ⟨gb401, 0, none⟩ = some (.int .i64 t397) := (blk_cell BK401.out 0).trans rfl
                    have hcz76_1 : w44.cell? ⟨gb401, 1, none⟩ = some (.int .i64 t398) := (blk_cell BK401.out 1).trans rfl
                    have hcz76_2 : w44.cell? ⟨gb401, 2, none⟩ = some (.string t399) := (blk_cell BK401.out 2).trans rfl
                    have hfz76_0 := blk_frozen BK401.out 0
                    have hfz76_1 := blk_frozen BK401.out 1
                    have hfz76_2 := blk_frozen BK401.out 2
                    have hnb77 := NB387_409.out
                    have hnc77 := NB409_387.out
                    have hcz78_0 : w44.cell? ⟨gb387, 0, none⟩ = some (.int .i64 a0_0) := (blk_cell BK387.out 0).trans rfl
                    have hcz78_1 : w44.cell? ⟨gb387, 1, none⟩ = some (.int .i64 a0_1) := (blk_cell BK387.out 1).trans rfl
                    have hcz78_2 : w44.cell? ⟨gb387, 2, none⟩ = some (.string a0_2) := (blk_cell BK387.out 2).trans rfl
                    have hfz78_0 := blk_frozen BK387.out 0
                    have hfz78_1 := blk_frozen BK387.out 1
                    have hfz78_2 := blk_frozen BK387.out 2
                    go_wp2
                    go_meet
                    case rel => exact ⟨_, (true), q7_, H', ⟨q112_⟩, ⟨q42_⟩, ⟨q41_⟩, ⟨q21_⟩, ⟨q0_⟩⟩
              case rest =>
                clear HC30
                try clear c1
                try clear c2
                try clear p2
                try clear c3
                try clear p3
                try clear q3
                try clear hx3
                try clear c4
                try clear c5
                try clear c6
                try clear c6b0
                try clear c6b1
                try clear p6
                try clear c7
                try clear c9
                try clear c10
                try clear c11
                try clear c12
                try clear c13
                try clear c13b0
                try clear c14
                try clear c14b0
                try clear c15
                try clear c15b0
                try clear c17
                try clear c19
                try clear c24
                try clear c37
                try clear p39
                try clear q39
                try clear hx39
                try clear c45
                try clear c46
                try clear c48
                try clear c48b0
                try clear c49
                try clear c50
                try clear c52
                try clear c54
                try clear c54b0
                try clear c54b1
                try clear c55
                try clear c55b0
                try clear c55b1
                try clear c56
                try clear c56b0
                try clear c56b1
                try clear c57
                try clear c58
                try clear c60
                try clear c63
                try clear c64
                try clear p64
                try clear c66
                try clear c69
                try clear c70
                try clear c72
                try clear c74
                try clear c75
                try clear c77
                try clear hcz20_0
                try clear hcz20_1
                try clear hcz20_2
                try clear hcz25_0
                try clear hcz25_1
                try clear hcz25_2
                try clear hcz31_0
                try clear hcz31_1
                try clear hcz31_2
                try clear hcz38_0
                try clear hcz38_1
                try clear hcz38_2
                try clear hcz39_0
                try clear hcz39_1
                try clear hcz39_2
                try clear hcz47_0
                try clear hcz47_1
                try clear hcz47_2
                try clear hcz51_0
                try clear hcz51_1
                try clear hcz51_2
                try clear hcz53_0
                try clear hcz53_1
                try clear hcz53_2
                try clear hcz59_0
                try clear hcz59_1
                try clear hcz59_2
                try clear hcz61_0
                try clear hcz61_1
                try clear hcz61_2
                try clear hcz62_0
                try clear hcz62_1
                try clear hcz62_2
                try clear hcz65_0
                try clear hcz65_1
                try clear hcz65_2
                try clear hcz67_0
                try clear hcz67_1
                try clear hcz67_2
                try clear hcz68_0
                try clear hcz68_1
                try clear hcz68_2
                try clear hcz71_0
                try clear hcz71_1
                try clear hcz71_2
                try clear hcz73_0
                try clear hcz73_1
                try clear hcz73_2
                try clear hcz76_0
                try clear hcz76_1
                try clear hcz76_2
                try clear hcz78_0
                try clear hcz78_1
                try clear hcz78_2
                try clear hcz8_0
                try clear hcz8_1
                try clear hcz8_2
                try clear hfz20_0
                try clear hfz20_1
                try clear hfz20_2
                try clear hfz25_0
                try clear hfz25_1
                try clear hfz25_2
                try clear hfz31_0
                try clear hfz31_1
                try clear hfz31_2
                try clear hfz38_0
                try clear hfz38_1
                try clear hfz38_2
                try clear hfz39_0
                try clear hfz39_1
                try clear hfz39_2
                try clear hfz47_0
                try clear hfz47_1
                try clear hfz47_2
                try clear hfz51_0
                try clear hfz51_1
                try clear hfz51_2
                try clear hfz53_0
                try clear hfz53_1
                try clear hfz53_2
                try clear hfz59_0
                try clear hfz59_1
                try clear hfz59_2
                try clear hfz61_0
                try clear hfz61_1
                try clear hfz61_2
                try clear hfz62_0
                try clear hfz62_1
                try clear hfz62_2
                try clear hfz65_0
                try clear hfz65_1
                try clear hfz65_2
                try clear hfz67_0
                try clear hfz67_1
                try clear hfz67_2
                try clear hfz68_0
                try clear hfz68_1
                try clear hfz68_2
                try clear hfz71_0
                try clear hfz71_1
                try clear hfz71_2
                try clear hfz73_0
                try clear hfz73_1
                try clear hfz73_2
                try clear hfz76_0
                try clear hfz76_1
                try clear hfz76_2
                try clear hfz78_0
                try clear hfz78_1
                try clear hfz78_2
                try clear hfz8_0
                try clear hfz8_1
                try clear hfz8_2
                try clear hx390_0
                try clear hx390_1
                try clear hx390_2
                try clear p2
                try clear p390
                try clear q390
                obtain ⟨kq, x76_29, rfl, HA, HJ29, BK387, BK401, BK409, HB⟩ := hcut
                cases kq with
                | zero => exact absurd HA.out (by simp [corollarylaw10_ExprPlain.j2])
                | succ kj29 =>
                  have H := HA.out
                  clear HA
                  simp only [corollarylaw10_ExprPlain.j2] at H
                  by_cases c79 : x76_29 = true
                  · subst c79
                    replace H := ifT_ H
                    obtain rfl := Option.some.inj H
                    go_wp2
                    go_ret
                    exact ⟨q4_, q0_⟩
                  · replace c79 := Bool.eq_false_iff.mpr c79
                    subst c79
                    replace H := ifF_ H
                    obtain ⟨y410, hy410⟩ : ∃ y_ : List (S39), y_ = (([(⟨1, a2, (⟨0, 0, (⟨#[]⟩ : ByteArray)⟩ : S31)⟩ : S39)] : List (S39))) := ⟨_, rfl⟩
                    replace H : ((expr_Eval.f kj29 y410 l1).bind fun bt413 => (if a2 < 0 then (corollarylaw10_ExprPlain.j3 kj29 l1 a2 bt413.2.2.2 true bt413.1 bt413.2.1 bt413.2.2.1) else (corollarylaw10_ExprPlain.j3 kj29 l1 a2 bt413.2.2.2 (decide (a2 ≥ (l1.length : Int))) bt413.1 bt413.2.1 bt413.2.2.1))) = some r := by first | (rw [hy410]; with_reducible exact H) | (have H2_ := (Option.bind_some _ _).symm.trans H; rw [hy410]; with_reducible exact H2_) | (have H2_ := (Option.bind_some _ _).symm.trans H; with_reducible exact H2_) | with_reducible exact H | (rw [hy410]; exact H) | exact H
                    have Ny410 := Aside0.mk hy410
                    clear hy410
                    replace H := Option.bind_eq_some_iff.mp H
                    obtain ⟨⟨t413, t414, t415, t416⟩, A800, H⟩ := H
                    replace H : (if a2 < 0 then (corollarylaw10_ExprPlain.j3 kj29 l1 a2 t416 true t413 t414 t415) else (corollarylaw10_ExprPlain.j3 kj29 l1 a2 t416 (decide (a2 ≥ (l1.length : Int))) t413 t414 t415)) = some r := H
                    have A80 := Aside0.mk A800
                    clear A800
                    have HC81 := Aside0.mk H
                    clear H
                    go_upto_region 14 with (first | ((with_reducible refine gate_dst (N := 80) rfl ?_); (try (refine gate_guard (by rfl) ?_; dsimp only)); refine Kd.R_lit k39 _ 39 ?hg (N := 80) ?hd (xs := ([(⟨1, a2, (⟨0, 0, (⟨#[]⟩ : ByteArray)⟩ : S31)⟩ : S39)] : List (S39))) (inner := [.int .i64 1, .int .i64 a2, .int .i64 0, .int .i64 0, .string (⟨#[]⟩ : ByteArray)]) (ok := fun _ => True) (okp := fun _ => True) ?hr ?hp (fun _ hk => hk) trivial (Below.refl _ _) (Nat.le_refl _) (by simp) ?_; (case hd => rfl); (case hg => rfl); (case hr => first | (go_simp; done) | (go_simp; rfl)); (case hp => exact (Reps.c5 (show Kd.M k39 _ _ _ (⟨1, a2, (⟨0, 0, (⟨#[]⟩ : ByteArray)⟩ : S31)⟩ : S39) [.int .i64 1, .int .i64 a2, .int .i64 0, .int .i64 0, .string (⟨#[]⟩ : ByteArray)] from (k39_mkM _ _ _ (⟨1, a2, (⟨0, 0, (⟨#[]⟩ : ByteArray)⟩ : S31)⟩ : S39) )) (Reps.none _ _))); intro v411 w82 ho83 hb hg_ hnew_; clear hg_ hnew_; (first | rw [← Ny410.out] at ho83 | (simp only [Int.reduceToNat] at ho83; rw [← Ny410.out] at ho83)); have n0_ := Aside0.mk (Kd.R_lower ho83 (below_size q0_)); have n1_ := Aside0.mk (blk_below (g := gb387) (o := .cells #[.int .i64 a0_0, .int .i64 a0_1, .string a0_2] 31 (0, 0)) q24_ hb); have n2_ := Aside0.mk (blk_below (g := gb401) (o := .cells #[.int .i64 t397, .int .i64 t398, .string t399] 31 (0, 0)) q83_ hb); have n3_ := Aside0.mk (blk_below (g := gb409) (o := .cells #[.int .i64 t405, .int .i64 t406, .string t407] 31 (0, 0)) q109_ hb); have n4_ := Aside0.mk (below_step q0_ hb); clear BK387; clear BK401; clear BK409; clear HB; have HO412 := n0_; have BK387 := n1_; have BK401 := n2_; have BK409 := n3_; have HB := n4_; clear n0_ n1_ n2_ n3_ n4_; clear hb ho83; obtain ⟨Ao84, co84, eo84⟩ := Kd.R_slice HO412.out; subst eo84) | ((with_reducible refine gate_callee (f := 12) rfl ?_); refine goesL_ (some 82) rfl rfl Tryd.func12 (by kernel_rfl) rfl #[.slice Ao84 y410.length co84, .slice A1 l1.length c1] rfl q2_ ?_; (with_reducible refine (expr_Eval.calls kj29 _ _ y410 _ _ l1 t413 t414 t415 t416 _ ?side1 ?side2 ?side3 ?side4 A80.out (by first | exact HG.out | (refine Glob.below HG.out ?_; (repeat (first | (with_reducible first | exact HB.out | apply below_alloc | apply pw_below_drewN | apply below_drew1 | refine below_set ?_ GE387.out | refine below_set ?_ GE401.out | refine below_set ?_ GE409.out) | exact HB.out))) | (repeat (first | exact HG.out | apply Glob.drewN | apply Glob.drew | apply Glob.alloc)))).mono ?_); (case side1 => repeat (first | exact (Kd.R_reads' HO412.out).2.2 | (with_reducible refine Kd.C_alloc ?_ _) | (with_reducible refine Kd.C_drewN ?_ _) | (with_reducible refine Kd.C_drew ?_))); (case side2 => exact (Kd.R_reads' HO412.out).2.1); (case side3 => repeat (first | exact (Kd.C_below HR1.out HB.out) | (with_reducible refine Kd.C_alloc ?_ _) | (with_reducible refine Kd.C_drewN ?_ _) | (with_reducible refine Kd.C_drew ?_))); (case side4 => exact HC1.out); rintro e w85 ⟨rfl, hb⟩; refine ⟨_, rfl, ?_⟩; have n0_ := Aside0.mk (Kd.R_below (by (with_reducible repeat (first | apply Kd.R_alloc | apply Kd.R_drewN | apply Kd.R_drew)); exact HO412.out) hb); have n1_ := Aside0.mk (blk_below (g := gb387) (o := .cells #[.int .i64 a0_0, .int .i64 a0_1, .string a0_2] 31 (0, 0)) q24_ hb); have n2_ := Aside0.mk (blk_below (g := gb401) (o := .cells #[.int .i64 t397, .int .i64 t398, .string t399] 31 (0, 0)) q83_ hb); have n3_ := Aside0.mk (blk_below (g := gb409) (o := .cells #[.int .i64 t405, .int .i64 t406, .string t407] 31 (0, 0)) q109_ hb); have n4_ := Aside0.mk (below_step q0_ hb); clear HO412; clear BK387; clear BK401; clear BK409; clear HB; have HO412 := n0_; have BK387 := n1_; have BK401 := n2_; have BK409 := n3_; have HB := n4_; clear n0_ n1_ n2_ n3_ n4_; (try clear hb); (try clear hb2); (try clear hk); (try clear hi)) | ((with_reducible refine gate_dst (N := 13) rfl ?_); (try (refine gate_guard (by rfl) ?_; dsimp only)); refine box_event ?hg (N := 13) ?hd (cs := #[.int .i64 0, .int .i64 0, .string (⟨#[]⟩ : ByteArray)]) (t := 31) ?hr ?_; (case hd => rfl); (case hg => rfl); (case hr => first | (go_simp; done) | (go_simp; rfl)); intro gb417 hg w86 hbox hb; have n0_ := Aside0.mk (Kd.R_below (by (with_reducible repeat (first | apply Kd.R_alloc | apply Kd.R_drewN | apply Kd.R_drew)); exact HO412.out) hb); have n1_ := Aside0.mk (blk_below (g := gb387) (o := .cells #[.int .i64 a0_0, .int .i64 a0_1, .string a0_2] 31 (0, 0)) q24_ hb); have n2_ := Aside0.mk (blk_below (g := gb401) (o := .cells #[.int .i64 t397, .int .i64 t398, .string t399] 31 (0, 0)) q83_ hb); have n3_ := Aside0.mk (blk_below (g := gb409) (o := .cells #[.int .i64 t405, .int .i64 t406, .string t407] 31 (0, 0)) q109_ hb); have n4_ := Aside0.mk (below_step q0_ hb); have n5_ := Aside0.mk (hbox); have n6_ := Aside0.mk ((q1_ : w.heap.size ≤ gb417)); have n7_ := Aside0.mk ((q1_ : w.heap.size ≤ gb417)); have n8_ := Aside0.mk ((q79_ : gb387 ≠ gb417)); have n9_ := Aside0.mk ((q81_ : gb417 ≠ gb387)); have n10_ := Aside0.mk ((q180_ : gb401 ≠ gb417)); have n11_ := Aside0.mk ((q183_ : gb417 ≠ gb401)); have n12_ := Aside0.mk ((by rw [hg]; exact Nat.ne_of_lt (blk_lt (g := gb409) (o := .cells #[.int .i64 t405, .int .i64 t406, .string t407] 31 (0, 0)) q109_) : gb409 ≠ gb417)); have n13_ := Aside0.mk ((by rw [hg]; exact Nat.ne_of_gt (blk_lt (g := gb409) (o := .cells #[.int .i64 t405, .int .i64 t406, .string t407] 31 (0, 0)) q109_) : gb417 ≠ gb409)); clear HO412; clear BK387; clear BK401; clear BK409; clear HB; have HO412 := n0_; have BK387 := n1_; have BK401 := n2_; have BK409 := n3_; have HB := n4_; have BK417 := n5_; have GW417 := n6_; have GE417 := n7_; have NB387_417 := n8_; have NB417_387 := n9_; have NB401_417 := n10_; have NB417_401 := n11_; have NB409_417 := n12_; have NB417_409 := n13_; clear n0_ n1_ n2_ n3_ n4_ n5_ n6_ n7_ n8_ n9_ n10_ n11_ n12_ n13_; clear hb hbox hg; have hnb87 := NB417_387.out; have hnc87 := NB387_417.out; have hnb88 := NB417_401.out; have hnc88 := NB401_417.out; have hnb89 := NB417_409.out; have hnc89 := NB409_417.out; have hcz90_0 : w86.cell? ⟨gb417, 0, none⟩ = some (.int .i64 0) := (blk_cell BK417.out 0).trans rfl; have hcz90_1 : w86.cell? ⟨gb417, 1, none⟩ = some (.int .i64 0) := (blk_cell BK417.out 1).trans rfl; have hcz90_2 : w86.cell? ⟨gb417, 2, none⟩ = some (.string (⟨#[]⟩ : ByteArray)) := (blk_cell BK417.out 2).trans rfl; have hfz90_0 := blk_frozen BK417.out 0; have hfz90_1 := blk_frozen BK417.out 1; have hfz90_2 := blk_frozen BK417.out 2))
                    (try simp only [Act.put, List.setIfInBounds_toArray, List.set_cons_zero, List.set_cons_succ])
                    go_cut [92] (fun v92 wc => ∃ (kq : Nat) (x92_80 : Bool), v92 = .bool x92_80 ∧ Aside0 (corollarylaw10_ExprPlain.j3 kq l1 a2 t416 x92_80 t413 t414 t415 = some r) ∧ Aside0 (kq ≤ kj29) ∧ Aside0 (wc.heap[gb387]? = some (.cells #[.int .i64 a0_0, .int .i64 a0_1, .string a0_2] 31 (0, 0))) ∧ Aside0 (wc.heap[gb401]? = some (.cells #[.int .i64 t397, .int .i64 t398, .string t399] 31 (0, 0))) ∧ Aside0 (wc.heap[gb409]? = some (.cells #[.int .i64 t405, .int .i64 t406, .string t407] 31 (0, 0))) ∧ Aside0 (wc.heap[gb417]? = some (.cells #[.int .i64 t413, .int .i64 t414, .string t415] 31 (0, 0))) ∧ Aside0 (Below w.heap.size w wc))
                    case first =>
                      have H := HC81.out
                      clear HC81
                      by_cases c91 : a2 < 0
                      · rw [if_pos c91] at H
                        have c91b0 : decide (a2 < 0) = true := decide_eq_true c91
                        clear c91
                        (first | rw [c91b0] | (simp only [i64_w, i32_w]; rw [c91b0]) | skip)
                        have H' := Aside0.mk H
                        clear H
                        go_wp2
                        go_meet
                        case rel => exact ⟨_, (true), q7_, H', ⟨by have := HJ3.out; have := HK2.out; have := HJ29.out; first | omega | exact Nat.le_refl _⟩, ⟨q131_⟩, ⟨q130_⟩, ⟨q129_⟩, ⟨q103_⟩, ⟨q0_⟩⟩
                      · rw [if_neg c91] at H
                        have c91b0 : decide (a2 < 0) = false := decide_eq_false c91
                        clear c91
                        (first | rw [c91b0] | (simp only [i64_w, i32_w]; rw [c91b0]) | skip)
                        have H' := Aside0.mk H
                        clear H
                        go_wp2
                        go_meet
                        case rel => exact ⟨_, (decide (a2 ≥ (l1.length : Int))), q7_, H', ⟨by have := HJ3.out; have := HK2.out; have := HJ29.out; first | omega | exact Nat.le_refl _⟩, ⟨q131_⟩, ⟨q130_⟩, ⟨q129_⟩, ⟨q103_⟩, ⟨q0_⟩⟩
                    case rest =>
                      clear HC81
                      try clear c1
                      try clear c2
                      try clear p2
                      try clear c3
                      try clear p3
                      try clear q3
                      try clear hx3
                      try clear c4
                      try clear c5
                      try clear c6
                      try clear c6b0
                      try clear c6b1
                      try clear p6
                      try clear c7
                      try clear c8
                      try clear c9
                      try clear c10
                      try clear c11
                      try clear c12
                      try clear c13
                      try clear c13b0
                      try clear c14
                      try clear c14b0
                      try clear c15
                      try clear c15b0
                      try clear c17
                      try clear c19
                      try clear c24
                      try clear c37
                      try clear p39
                      try clear q39
                      try clear hx39
                      try clear c45
                      try clear c46
                      try clear c48
                      try clear c48b0
                      try clear c49
                      try clear c50
                      try clear c52
                      try clear c54
                      try clear c54b0
                      try clear c54b1
                      try clear c55
                      try clear c55b0
                      try clear c55b1
                      try clear c56
                      try clear c56b0
                      try clear c56b1
                      try clear c57
                      try clear c58
                      try clear c60
                      try clear c63
                      try clear c64
                      try clear p64
                      try clear c66
                      try clear c69
                      try clear c70
                      try clear c72
                      try clear c74
                      try clear c75
                      try clear c77
                      try clear c79
                      try clear c87
                      try clear c88
                      try clear c89
                      try clear c91
                      try clear c91b0
                      try clear hcz20_0
                      try clear hcz20_1
                      try clear hcz20_2
                      try clear hcz25_0
                      try clear hcz25_1
                      try clear hcz25_2
                      try clear hcz31_0
                      try clear hcz31_1
                      try clear hcz31_2
                      try clear hcz38_0
                      try clear hcz38_1
                      try clear hcz38_2
                      try clear hcz39_0
                      try clear hcz39_1
                      try clear hcz39_2
                      try clear hcz47_0
                      try clear hcz47_1
                      try clear hcz47_2
                      try clear hcz51_0
                      try clear hcz51_1
                      try clear hcz51_2
                      try clear hcz53_0
                      try clear hcz53_1
                      try clear hcz53_2
                      try clear hcz59_0
                      try clear hcz59_1
                      try clear hcz59_2
                      try clear hcz61_0
                      try clear hcz61_1
                      try clear hcz61_2
                      try clear hcz62_0
                      try clear hcz62_1
                      try clear hcz62_2
                      try clear hcz65_0
                      try clear hcz65_1
                      try clear hcz65_2
                      try clear hcz67_0
                      try clear hcz67_1
                      try clear hcz67_2
                      try clear hcz68_0
                      try clear hcz68_1
                      try clear hcz68_2
                      try clear hcz71_0
                      try clear hcz71_1
                      try clear hcz71_2
                      try clear hcz73_0
                      try clear hcz73_1
                      try clear hcz73_2
                      try clear hcz76_0
                      try clear hcz76_1
                      try clear hcz76_2
                      try clear hcz78_0
                      try clear hcz78_1
                      try clear hcz78_2
                      try clear hcz8_0
                      try clear hcz8_1
                      try clear hcz8_2
                      try clear hcz90_0
                      try clear hcz90_1
                      try clear hcz90_2
                      try clear hfz20_0
                      try clear hfz20_1
                      try clear hfz20_2
                      try clear hfz25_0
                      try clear hfz25_1
                      try clear hfz25_2
                      try clear hfz31_0
                      try clear hfz31_1
                      try clear hfz31_2
                      try clear hfz38_0
                      try clear hfz38_1
                      try clear hfz38_2
                      try clear hfz39_0
                      try clear hfz39_1
                      try clear hfz39_2
                      try clear hfz47_0
                      try clear hfz47_1
                      try clear hfz47_2
                      try clear hfz51_0
                      try clear hfz51_1
                      try clear hfz51_2
                      try clear hfz53_0
                      try clear hfz53_1
                      try clear hfz53_2
                      try clear hfz59_0
                      try clear hfz59_1
                      try clear hfz59_2
                      try clear hfz61_0
                      try clear hfz61_1
                      try clear hfz61_2
                      try clear hfz62_0
                      try clear hfz62_1
                      try clear hfz62_2
                      try clear hfz65_0
                      try clear hfz65_1
                      try clear hfz65_2
                      try clear hfz67_0
                      try clear hfz67_1
                      try clear hfz67_2
                      try clear hfz68_0
                      try clear hfz68_1
                      try clear hfz68_2
                      try clear hfz71_0
                      try clear hfz71_1
                      try clear hfz71_2
                      try clear hfz73_0
                      try clear hfz73_1
                      try clear hfz73_2
                      try clear hfz76_0
                      try clear hfz76_1
                      try clear hfz76_2
                      try clear hfz78_0
                      try clear hfz78_1
                      try clear hfz78_2
                      try clear hfz8_0
                      try clear hfz8_1
                      try clear hfz8_2
                      try clear hfz90_0
                      try clear hfz90_1
                      try clear hfz90_2
                      try clear hx390_0
                      try clear hx390_1
                      try clear hx390_2
                      try clear p2
                      try clear p3
                      try clear p39
                      try clear p390
                      try clear p6
                      try clear p64
                      try clear q3
                      try clear q39
                      try clear q390
                      obtain ⟨kq, x92_80, rfl, HA, HJ80, BK387, BK401, BK409, BK417, HB⟩ := hcut
                      cases kq with
                      | zero => exact absurd HA.out (by simp [corollarylaw10_ExprPlain.j3])
                      | succ kj80 =>
                        have H := HA.out
                        clear HA
                        simp only [corollarylaw10_ExprPlain.j3] at H
                        by_cases c92 : x92_80 = true
                        · subst c92
                          replace H := ifT_ H
                          by_cases c93 : t416 = 1
                          · rw [if_pos c93] at H
                            have c93b0 : (t416 == 1) = true := beq_iff_eq.mpr c93
                            have c93b1 : (t416 != 1) = false := bne_eq_false_iff_eq.mpr c93
                            clear c93
                            replace H := Option.bind_eq_some_iff.mp H
                            obtain ⟨t418, A940, H⟩ := H
                            replace H : (some t418) = some r := H
                            have A94 := Aside0.mk A940
                            clear A940
                            obtain rfl := Option.some.inj H
                            go_wp2_with (first | (go_at_call 9; (with_reducible refine (corollarylaw10_awake.calls kj80  t418 _ A94.out q123_).mono ?_); rintro e w95 ⟨rfl, hb⟩; have n0_ := Aside0.mk (blk_below (g := gb387) (o := .cells #[.int .i64 a0_0, .int .i64 a0_1, .string a0_2] 31 (0, 0)) q24_ hb); have n1_ := Aside0.mk (blk_below (g := gb401) (o := .cells #[.int .i64 t397, .int .i64 t398, .string t399] 31 (0, 0)) q83_ hb); have n2_ := Aside0.mk (blk_below (g := gb409) (o := .cells #[.int .i64 t405, .int .i64 t406, .string t407] 31 (0, 0)) q109_ hb); have n3_ := Aside0.mk (blk_below (g := gb417) (o := .cells #[.int .i64 t413, .int .i64 t414, .string t415] 31 (0, 0)) (by (with_reducible repeat first | apply bN_ | apply bD_ | apply bA_); exact BK417.out) hb); have n4_ := Aside0.mk (below_step q0_ hb); clear BK387; clear BK401; clear BK409; clear BK417; clear HB; have BK387 := n0_; have BK401 := n1_; have BK409 := n2_; have BK417 := n3_; have HB := n4_; clear n0_ n1_ n2_ n3_ n4_; (try clear hb); (try clear hb2); (try clear hk); (try clear hi)))
                            go_ret
                            exact ⟨q4_, q0_⟩
                          · rw [if_neg c93] at H
                            have c93b0 : (t416 == 1) = false := beq_eq_false_iff_ne.mpr c93
                            have c93b1 : (t416 != 1) = true := bne_iff_ne.mpr c93
                            obtain rfl := Option.some.inj H
                            go_wp2
                            go_ret
                            exact ⟨q4_, q0_⟩
                        · replace c92 := Bool.eq_false_iff.mpr c92
                          subst c92
                          replace H := ifF_ H
                          by_cases c96 : 0 ≤ a2
                          · rw [if_pos c96] at H
                            have c96b0 : decide (0 ≤ a2) = true := decide_eq_true c96
                            clear c96
                            by_cases c97 : a2 < (l1.length : Int)
                            · rw [if_pos c97] at H
                              have c97b0 : decide (a2 < (l1.length : Int)) = true := decide_eq_true c97
                              clear c97
                              by_cases c98 : (t413 == ((rd_T31 l1 a2).f0) && (t414 == ((rd_T31 l1 a2).f1) && (t415.toList == (((rd_T31 l1 a2).f2).toList)))) = true
                              · rw [if_pos c98] at H
                                have c98b0 : (t413 == ((rd_T31 l1 a2).f0) && (t414 == ((rd_T31 l1 a2).f1) && (t415.toList == (((rd_T31 l1 a2).f2).toList)))) = true := c98
                                (try (have c98b1 : decide (t413 = ((rd_T31 l1 a2).f0) && (t414 == ((rd_T31 l1 a2).f1) && (t415.toList == (((rd_T31 l1 a2).f2).toList)))) = true := by simpa using c98))
                                (try (have c98b2 : (t413 == ((rd_T31 l1 a2).f0) && (t414 == ((rd_T31 l1 a2).f1) && (t415.toList == (((rd_T31 l1 a2).f2).toList)))) = true := by simpa using c98))
                                clear c98
                                by_cases c99 : t416 = 0
                                · rw [if_pos c99] at H
                                  have c99b0 : (t416 == 0) = true := beq_iff_eq.mpr c99
                                  have c99b1 : (t416 != 0) = false := bne_eq_false_iff_eq.mpr c99
                                  clear c99
                                  replace H := Option.bind_eq_some_iff.mp H
                                  obtain ⟨t420, A1000, H⟩ := H
                                  replace H : (some t420) = some r := H
                                  have A100 := Aside0.mk A1000
                                  clear A1000
                                  obtain rfl := Option.some.inj H
                                  try go_wp2
                                  have n0_ := Aside0.mk (blk_drew BK387.out)
                                  have n1_ := Aside0.mk (blk_drew BK401.out)
                                  have n2_ := Aside0.mk (blk_drew BK409.out)
                                  have n3_ := Aside0.mk (blk_drew BK417.out)
                                  have n4_ := Aside0.mk (below_drew1 HB.out)
                                  clear BK387
                                  clear BK401
                                  clear BK409
                                  clear BK417
                                  clear HB
                                  have BK387 := n0_
                                  have BK401 := n1_
                                  have BK409 := n2_
                                  have BK417 := n3_
                                  have HB := n4_
                                  clear n0_ n1_ n2_ n3_ n4_
                                  have p419 : 0 ≤ (a2 : Int) := of_decide_eq_true q11_
                                  have q419 : a2 < (l1.length : Int) := of_decide_eq_true q11_
                                  obtain ⟨ad419, e419, hx419_0, hx419_1, hx419_2⟩ := at_T31 HR1.out a2 p419 q419
                                  have hw419_2 := hx419_2
                                  have hw419_1 := hx419_1
                                  have hw419_0 := hx419_0
                                  cases e419
                                  replace hx419_0 := (HB.out.cell (World.block_lt_of_cell? w _ hx419_0)).trans hx419_0
                                  replace hx419_1 := (HB.out.cell (World.block_lt_of_cell? w _ hx419_1)).trans hx419_1
                                  replace hx419_2 := (HB.out.cell (World.block_lt_of_cell? w _ hx419_2)).trans hx419_2
                                  replace p419 := eq_true p419
                                  replace q419 := eq_true q419
                                  refine start_ (n := 14) (S := fun w' => w'.cell? ⟨gb417, 0, none⟩ = some (.int .i64 t413) ∧ w'.cell? ⟨gb417, 1, none⟩ = some (.int .i64 t414) ∧ w'.cell? ⟨gb417, 2, none⟩ = some (.string t415) ∧ w'.cell? (ad419.add ((a2).toNat * 3)) = some (.int .i64 ((rd_T31 l1 a2).f0)) ∧ w'.cell? ⟨(ad419.add ((a2).toNat * 3)).block, (ad419.add ((a2).toNat * 3)).off + 1, none⟩ = some (.int .i64 ((rd_T31 l1 a2).f1)) ∧ w'.cell? ⟨(ad419.add ((a2).toNat * 3)).block, (ad419.add ((a2).toNat * 3)).off + 2, none⟩ = some (.string ((rd_T31 l1 a2).f2))) (ds := []) #[false, false, false, false, false, false, false, false, false, false, false, false, false, false] (by kernel_rfl) rfl rfl ⟨(blk_cell BK417.out 0).trans rfl, (blk_cell BK417.out 1).trans rfl, (blk_cell BK417.out 2).trans rfl, ((HB.out.cell (World.block_lt_of_cell? w _ hw419_0)).trans hw419_0), ((HB.out.cell (World.block_lt_of_cell? w _ hw419_1)).trans hw419_1), ((HB.out.cell (World.block_lt_of_cell? w _ hw419_2)).trans hw419_2)⟩ (fun hHeld => ?_); refine with_tabW corollarylaw10_ExprPlain.tab16 corollarylaw10_ExprPlain.bits16 (fun HT_ HW_ => ?_)
                                  generalize wc.drew = w101 at BK387 BK401 BK409 BK417 HB hx419_0 hx419_1 hx419_2 hHeld ⊢
                                  refine pure_ (i := 1) (N := some 99) (v := ?_) (a' := ?_) #[false, true, false, false, false, false, false, false, false, false, false, false, false, false] rfl rfl (any_of HT_.out (by kernel_rfl)) (fun _ _ _ h => h) (Or.inl ⟨by rfl, ?_⟩) ?_ ?_
                                  rotate_left
                                  · intro w'
                                    go_simp
                                    with_reducible rfl
                                  rotate_left
                                  · simp only [Act.put, List.setIfInBounds_toArray, List.set_cons_zero, List.set_cons_succ, i64_w, i32_w]
                                    rfl
                                  refine pure_ (i := 2) (N := some 100) (v := ?_) (a' := ?_) #[false, true, true, false, false, false, false, false, false, false, false, false, false, false] rfl rfl (any_of HT_.out (by kernel_rfl)) (fun _ _ _ h => h) (Or.inl ⟨by rfl, ?_⟩) ?_ ?_
                                  rotate_left
                                  · intro w'
                                    go_simp
                                    with_reducible rfl
                                  rotate_left
                                  · simp only [Act.put, List.setIfInBounds_toArray, List.set_cons_zero, List.set_cons_succ, i64_w, i32_w]
                                    rfl
                                  refine pure_ (i := 3) (N := some 101) (v := ?_) (a' := ?_) #[false, true, true, true, false, false, false, false, false, false, false, false, false, false] rfl rfl (any_of HT_.out (by kernel_rfl)) (fun _ _ _ h => h) (Or.inl ⟨by rfl, ?_⟩) ?_ ?_
                                  rotate_left
                                  · intro w'
                                    go_simp
                                    with_reducible rfl
                                  rotate_left
                                  · simp only [Act.put, List.setIfInBounds_toArray, List.set_cons_zero, List.set_cons_succ, i64_w, i32_w]
                                    rfl
                                  refine take_ (i := 0) (N := some 98) (v := ?_) (a' := ?_) #[true, true, true, true, false, false, false, false, false, false, false, false, false, false] rfl rfl (take_ofW HT_.out HW_.out (by kernel_rfl)) (fun _ _ _ h => h) (Or.inl ⟨by rfl, ?_⟩) hHeld ?_ ?_
                                  rotate_left
                                  · rintro w' ⟨s0, s1, s2, s3, s4, s5⟩
                                    go_simp
                                    with_reducible rfl
                                  rotate_left
                                  · simp only [Act.put, List.setIfInBounds_toArray, List.set_cons_zero, List.set_cons_succ, i64_w, i32_w]
                                    rfl
                                  refine take_ (i := 4) (N := some 102) (v := ?_) (a' := ?_) #[true, true, true, true, true, false, false, false, false, false, false, false, false, false] rfl rfl (take_ofW HT_.out HW_.out (by kernel_rfl)) (fun _ _ _ h => h) (Or.inl ⟨by rfl, ?_⟩) hHeld ?_ ?_
                                  rotate_left
                                  · rintro w' ⟨s0, s1, s2, s3, s4, s5⟩
                                    go_simp
                                    with_reducible rfl
                                  rotate_left
                                  · simp only [Act.put, List.setIfInBounds_toArray, List.set_cons_zero, List.set_cons_succ, i64_w, i32_w]
                                    rfl
                                  refine pure_ (i := 5) (N := some 103) (v := ?_) (a' := ?_) #[true, true, true, true, true, true, false, false, false, false, false, false, false, false] rfl rfl (any_of HT_.out (by kernel_rfl)) (fun _ _ _ h => h) (Or.inl ⟨by rfl, ?_⟩) ?_ ?_
                                  rotate_left
                                  · intro w'
                                    go_simp
                                    with_reducible rfl
                                  rotate_left
                                  · simp only [Act.put, List.setIfInBounds_toArray, List.set_cons_zero, List.set_cons_succ, i64_w, i32_w]
                                    rfl
                                  refine pure_ (i := 6) (N := some 104) (v := ?_) (a' := ?_) #[true, true, true, true, true, true, true, false, false, false, false, false, false, false] rfl rfl (any_of HT_.out (by kernel_rfl)) (fun _ _ _ h => h) (Or.inl ⟨by rfl, ?_⟩) ?_ ?_
                                  rotate_left
                                  · intro w'
                                    go_simp
                                    with_reducible rfl
                                  rotate_left
                                  · simp only [Act.put, List.setIfInBounds_toArray, List.set_cons_zero, List.set_cons_succ, i64_w, i32_w]
                                    rfl
                                  refine pure_ (i := 7) (N := some 105) (v := ?_) (a' := ?_) #[true, true, true, true, true, true, true, true, false, false, false, false, false, false] rfl rfl (any_of HT_.out (by kernel_rfl)) (fun _ _ _ h => h) (Or.inl ⟨by rfl, ?_⟩) ?_ ?_
                                  rotate_left
                                  · intro w'
                                    go_simp
                                    with_reducible rfl
                                  rotate_left
                                  · simp only [Act.put, List.setIfInBounds_toArray, List.set_cons_zero, List.set_cons_succ, i64_w, i32_w]
                                    rfl
                                  refine pure_ (i := 8) (N := some 106) (v := ?_) (a' := ?_) #[true, true, true, true, true, true, true, true, true, false, false, false, false, false] rfl rfl (any_of HT_.out (by kernel_rfl)) (fun _ _ _ h => h) (Or.inl ⟨by rfl, ?_⟩) ?_ ?_
                                  rotate_left
                                  · intro w'
                                    go_simp
                                    with_reducible rfl
                                  rotate_left
                                  · simp only [Act.put, List.setIfInBounds_toArray, List.set_cons_zero, List.set_cons_succ, i64_w, i32_w]
                                    rfl
                                  refine pure_ (i := 9) (N := some 107) (v := ?_) (a' := ?_) #[true, true, true, true, true, true, true, true, true, true, false, false, false, false] rfl rfl (any_of HT_.out (by kernel_rfl)) (fun _ _ _ h => h) (Or.inl ⟨by rfl, ?_⟩) ?_ ?_
                                  rotate_left
                                  · intro w'
                                    go_simp
                                    with_reducible rfl
                                  rotate_left
                                  · simp only [Act.put, List.setIfInBounds_toArray, List.set_cons_zero, List.set_cons_succ, i64_w, i32_w]
                                    rfl
                                  refine pure_ (i := 10) (N := some 108) (v := ?_) (a' := ?_) #[true, true, true, true, true, true, true, true, true, true, true, false, false, false] rfl rfl (any_of HT_.out (by kernel_rfl)) (fun _ _ _ h => h) (Or.inl ⟨by rfl, ?_⟩) ?_ ?_
                                  rotate_left
                                  · intro w'
                                    go_simp
                                    with_reducible rfl
                                  rotate_left
                                  · simp only [Act.put, List.setIfInBounds_toArray, List.set_cons_zero, List.set_cons_succ, i64_w, i32_w]
                                    rfl
                                  refine one_ (i := 11) (N := some 109) #[true, true, true, true, true, true, true, true, true, true, true, true, false, false] rfl rfl (one_of HT_.out (by kernel_rfl)) (by decide) (fun K hK => ?_)
                                  refine goes_ Tryd.func9 (by kernel_rfl) rfl #[] (by rfl) rfl rfl q2_ ?_
                                  with_reducible refine (corollarylaw10_awake.calls kj80  t420 _ A100.out q123_).mono ?_
                                  rintro e w102 ⟨rfl, hb⟩
                                  refine ⟨_, rfl, ?_⟩
                                  have n0_ := Aside0.mk (blk_below (g := gb387) (o := .cells #[.int .i64 a0_0, .int .i64 a0_1, .string a0_2] 31 (0, 0)) q24_ hb)
                                  have n1_ := Aside0.mk (blk_below (g := gb401) (o := .cells #[.int .i64 t397, .int .i64 t398, .string t399] 31 (0, 0)) q83_ hb)
                                  have n2_ := Aside0.mk (blk_below (g := gb409) (o := .cells #[.int .i64 t405, .int .i64 t406, .string t407] 31 (0, 0)) q109_ hb)
                                  have n3_ := Aside0.mk (blk_below (g := gb417) (o := .cells #[.int .i64 t413, .int .i64 t414, .string t415] 31 (0, 0)) (by (with_reducible repeat first | apply bN_ | apply bD_ | apply bA_); exact BK417.out) hb)
                                  have n4_ := Aside0.mk (below_step q0_ hb)
                                  clear BK387
                                  clear BK401
                                  clear BK409
                                  clear BK417
                                  clear HB
                                  have BK387 := n0_
                                  have BK401 := n1_
                                  have BK409 := n2_
                                  have BK417 := n3_
                                  have HB := n4_
                                  clear n0_ n1_ n2_ n3_ n4_
                                  (try clear hb)
                                  (try clear hb2)
                                  (try clear hk)
                                  (try clear hi)
                                  refine hK.out _ _ ⟨(blk_cell BK417.out 0).trans rfl, (blk_cell BK417.out 1).trans rfl, (blk_cell BK417.out 2).trans rfl, ((HB.out.cell (World.block_lt_of_cell? w _ hw419_0)).trans hw419_0), ((HB.out.cell (World.block_lt_of_cell? w _ hw419_1)).trans hw419_1), ((HB.out.cell (World.block_lt_of_cell? w _ hw419_2)).trans hw419_2)⟩ (fun hHeld => ?_)
                                  clear hK K
                                  refine norm_ (a' := ?_) ?_ ?_
                                  rotate_left
                                  · show Act.put _ (some 109) _ = _
                                    simp only [Act.put, List.setIfInBounds_toArray, List.set_cons_zero, List.set_cons_succ, i64_w, i32_w]
                                    rfl
                                  refine pure_ (i := 12) (N := some 110) (v := ?_) (a' := ?_) #[true, true, true, true, true, true, true, true, true, true, true, true, true, false] rfl rfl (any_of HT_.out (by kernel_rfl)) (fun _ _ _ h => h) (Or.inl ⟨by rfl, ?_⟩) ?_ ?_
                                  rotate_left
                                  · intro w'
                                    go_simp
                                    with_reducible rfl
                                  rotate_left
                                  · simp only [Act.put, List.setIfInBounds_toArray, List.set_cons_zero, List.set_cons_succ, i64_w, i32_w]
                                    rfl
                                  refine pure_ (i := 13) (N := some 6) (v := ?_) (a' := ?_) #[true, true, true, true, true, true, true, true, true, true, true, true, true, true] rfl rfl (any_of HT_.out (by kernel_rfl)) (fun _ _ _ h => h) (Or.inl ⟨by rfl, ?_⟩) ?_ ?_
                                  rotate_left
                                  · intro w'
                                    go_simp
                                    with_reducible rfl
                                  rotate_left
                                  · simp only [Act.put, List.setIfInBounds_toArray, List.set_cons_zero, List.set_cons_succ, i64_w, i32_w]
                                    rfl
                                  refine done_ (done_of HT_.out (by kernel_rfl)) ?_
                                  try go_wp2
                                  go_ret
                                  exact ⟨q4_, q0_⟩
                                · rw [if_neg c99] at H
                                  have c99b0 : (t416 == 0) = false := beq_eq_false_iff_ne.mpr c99
                                  have c99b1 : (t416 != 0) = true := bne_iff_ne.mpr c99
                                  obtain rfl := Option.some.inj H
                                  try go_wp2
                                  have n0_ := Aside0.mk (blk_drew BK387.out)
                                  have n1_ := Aside0.mk (blk_drew BK401.out)
                                  have n2_ := Aside0.mk (blk_drew BK409.out)
                                  have n3_ := Aside0.mk (blk_drew BK417.out)
                                  have n4_ := Aside0.mk (below_drew1 HB.out)
                                  clear BK387
                                  clear BK401
                                  clear BK409
                                  clear BK417
                                  clear HB
                                  have BK387 := n0_
                                  have BK401 := n1_
                                  have BK409 := n2_
                                  have BK417 := n3_
                                  have HB := n4_
                                  clear n0_ n1_ n2_ n3_ n4_
                                  have p419 : 0 ≤ (a2 : Int) := of_decide_eq_true q11_
                                  have q419 : a2 < (l1.length : Int) := of_decide_eq_true q11_
                                  obtain ⟨ad419, e419, hx419_0, hx419_1, hx419_2⟩ := at_T31 HR1.out a2 p419 q419
                                  have hw419_2 := hx419_2
                                  have hw419_1 := hx419_1
                                  have hw419_0 := hx419_0
                                  cases e419
                                  replace hx419_0 := (HB.out.cell (World.block_lt_of_cell? w _ hx419_0)).trans hx419_0
                                  replace hx419_1 := (HB.out.cell (World.block_lt_of_cell? w _ hx419_1)).trans hx419_1
                                  replace hx419_2 := (HB.out.cell (World.block_lt_of_cell? w _ hx419_2)).trans hx419_2
                                  replace p419 := eq_true p419
                                  replace q419 := eq_true q419
                                  refine start_ (n := 14) (S := fun w' => w'.cell? ⟨gb417, 0, none⟩ = some (.int .i64 t413) ∧ w'.cell? ⟨gb417, 1, none⟩ = some (.int .i64 t414) ∧ w'.cell? ⟨gb417, 2, none⟩ = some (.string t415) ∧ w'.cell? (ad419.add ((a2).toNat * 3)) = some (.int .i64 ((rd_T31 l1 a2).f0)) ∧ w'.cell? ⟨(ad419.add ((a2).toNat * 3)).block, (ad419.add ((a2).toNat * 3)).off + 1, none⟩ = some (.int .i64 ((rd_T31 l1 a2).f1)) ∧ w'.cell? ⟨(ad419.add ((a2).toNat * 3)).block, (ad419.add ((a2).toNat * 3)).off + 2, none⟩ = some (.string ((rd_T31 l1 a2).f2))) (ds := []) #[false, false, false, false, false, false, false, false, false, false, false, false, false, false] (by kernel_rfl) rfl rfl ⟨(blk_cell BK417.out 0).trans rfl, (blk_cell BK417.out 1).trans rfl, (blk_cell BK417.out 2).trans rfl, ((HB.out.cell (World.block_lt_of_cell? w _ hw419_0)).trans hw419_0), ((HB.out.cell (World.block_lt_of_cell? w _ hw419_1)).trans hw419_1), ((HB.out.cell (World.block_lt_of_cell? w _ hw419_2)).trans hw419_2)⟩ (fun hHeld => ?_); refine with_tabW corollarylaw10_ExprPlain.tab16 corollarylaw10_ExprPlain.bits16 (fun HT_ HW_ => ?_)
                                  generalize wc.drew = w103 at BK387 BK401 BK409 BK417 HB hx419_0 hx419_1 hx419_2 hHeld ⊢
                                  refine pure_ (i := 1) (N := some 99) (v := ?_) (a' := ?_) #[false, true, false, false, false, false, false, false, false, false, false, false, false, false] rfl rfl (any_of HT_.out (by kernel_rfl)) (fun _ _ _ h => h) (Or.inl ⟨by rfl, ?_⟩) ?_ ?_
                                  rotate_left
                                  · intro w'
                                    go_simp
                                    with_reducible rfl
                                  rotate_left
                                  · simp only [Act.put, List.setIfInBounds_toArray, List.set_cons_zero, List.set_cons_succ, i64_w, i32_w]
                                    rfl
                                  refine pure_ (i := 2) (N := some 100) (v := ?_) (a' := ?_) #[false, true, true, false, false, false, false, false, false, false, false, false, false, false] rfl rfl (any_of HT_.out (by kernel_rfl)) (fun _ _ _ h => h) (Or.inl ⟨by rfl, ?_⟩) ?_ ?_
                                  rotate_left
                                  · intro w'
                                    go_simp
                                    with_reducible rfl
                                  rotate_left
                                  · simp only [Act.put, List.setIfInBounds_toArray, List.set_cons_zero, List.set_cons_succ, i64_w, i32_w]
                                    rfl
                                  refine pure_ (i := 3) (N := some 101) (v := ?_) (a' := ?_) #[false, true, true, true, false, false, false, false, false, false, false, false, false, false] rfl rfl (any_of HT_.out (by kernel_rfl)) (fun _ _ _ h => h) (Or.inl ⟨by rfl, ?_⟩) ?_ ?_
                                  rotate_left
                                  · intro w'
                                    go_simp
                                    with_reducible rfl
                                  rotate_left
                                  · simp only [Act.put, List.setIfInBounds_toArray, List.set_cons_zero, List.set_cons_succ, i64_w, i32_w]
                                    rfl
                                  refine take_ (i := 0) (N := some 98) (v := ?_) (a' := ?_) #[true, true, true, true, false, false, false, false, false, false, false, false, false, false] rfl rfl (take_ofW HT_.out HW_.out (by kernel_rfl)) (fun _ _ _ h => h) (Or.inl ⟨by rfl, ?_⟩) hHeld ?_ ?_
                                  rotate_left
                                  · rintro w' ⟨s0, s1, s2, s3, s4, s5⟩
                                    go_simp
                                    with_reducible rfl
                                  rotate_left
                                  · simp only [Act.put, List.setIfInBounds_toArray, List.set_cons_zero, List.set_cons_succ, i64_w, i32_w]
                                    rfl
                                  refine take_ (i := 4) (N := some 102) (v := ?_) (a' := ?_) #[true, true, true, true, true, false, false, false, false, false, false, false, false, false] rfl rfl (take_ofW HT_.out HW_.out (by kernel_rfl)) (fun _ _ _ h => h) (Or.inl ⟨by rfl, ?_⟩) hHeld ?_ ?_
                                  rotate_left
                                  · rintro w' ⟨s0, s1, s2, s3, s4, s5⟩
                                    go_simp
                                    with_reducible rfl
                                  rotate_left
                                  · simp only [Act.put, List.setIfInBounds_toArray, List.set_cons_zero, List.set_cons_succ, i64_w, i32_w]
                                    rfl
                                  refine pure_ (i := 5) (N := some 103) (v := ?_) (a' := ?_) #[true, true, true, true, true, true, false, false, false, false, false, false, false, false] rfl rfl (any_of HT_.out (by kernel_rfl)) (fun _ _ _ h => h) (Or.inl ⟨by rfl, ?_⟩) ?_ ?_
                                  rotate_left
                                  · intro w'
                                    go_simp
                                    with_reducible rfl
                                  rotate_left
                                  · simp only [Act.put, List.setIfInBounds_toArray, List.set_cons_zero, List.set_cons_succ, i64_w, i32_w]
                                    rfl
                                  refine pure_ (i := 6) (N := some 104) (v := ?_) (a' := ?_) #[true, true, true, true, true, true, true, false, false, false, false, false, false, false] rfl rfl (any_of HT_.out (by kernel_rfl)) (fun _ _ _ h => h) (Or.inl ⟨by rfl, ?_⟩) ?_ ?_
                                  rotate_left
                                  · intro w'
                                    go_simp
                                    with_reducible rfl
                                  rotate_left
                                  · simp only [Act.put, List.setIfInBounds_toArray, List.set_cons_zero, List.set_cons_succ, i64_w, i32_w]
                                    rfl
                                  refine pure_ (i := 7) (N := some 105) (v := ?_) (a' := ?_) #[true, true, true, true, true, true, true, true, false, false, false, false, false, false] rfl rfl (any_of HT_.out (by kernel_rfl)) (fun _ _ _ h => h) (Or.inl ⟨by rfl, ?_⟩) ?_ ?_
                                  rotate_left
                                  · intro w'
                                    go_simp
                                    with_reducible rfl
                                  rotate_left
                                  · simp only [Act.put, List.setIfInBounds_toArray, List.set_cons_zero, List.set_cons_succ, i64_w, i32_w]
                                    rfl
                                  refine pure_ (i := 8) (N := some 106) (v := ?_) (a' := ?_) #[true, true, true, true, true, true, true, true, true, false, false, false, false, false] rfl rfl (any_of HT_.out (by kernel_rfl)) (fun _ _ _ h => h) (Or.inl ⟨by rfl, ?_⟩) ?_ ?_
                                  rotate_left
                                  · intro w'
                                    go_simp
                                    with_reducible rfl
                                  rotate_left
                                  · simp only [Act.put, List.setIfInBounds_toArray, List.set_cons_zero, List.set_cons_succ, i64_w, i32_w]
                                    rfl
                                  refine pure_ (i := 9) (N := some 107) (v := ?_) (a' := ?_) #[true, true, true, true, true, true, true, true, true, true, false, false, false, false] rfl rfl (any_of HT_.out (by kernel_rfl)) (fun _ _ _ h => h) (Or.inl ⟨by rfl, ?_⟩) ?_ ?_
                                  rotate_left
                                  · intro w'
                                    go_simp
                                    with_reducible rfl
                                  rotate_left
                                  · simp only [Act.put, List.setIfInBounds_toArray, List.set_cons_zero, List.set_cons_succ, i64_w, i32_w]
                                    rfl
                                  refine pure_ (i := 10) (N := some 108) (v := ?_) (a' := ?_) #[true, true, true, true, true, true, true, true, true, true, true, false, false, false] rfl rfl (any_of HT_.out (by kernel_rfl)) (fun _ _ _ h => h) (Or.inl ⟨by rfl, ?_⟩) ?_ ?_
                                  rotate_left
                                  · intro w'
                                    go_simp
                                    with_reducible rfl
                                  rotate_left
                                  · simp only [Act.put, List.setIfInBounds_toArray, List.set_cons_zero, List.set_cons_succ, i64_w, i32_w]
                                    rfl
                                  refine pure_ (i := 11) (N := some 109) (v := undef) (a' := ?_) #[true, true, true, true, true, true, true, true, true, true, true, true, false, false] rfl rfl (any_of HT_.out (by kernel_rfl)) (fun _ _ _ h => h) (Or.inr ⟨by rfl, rfl⟩) ?_ ?_
                                  rotate_left
                                  · simp only [Act.put, List.setIfInBounds_toArray, List.set_cons_zero, List.set_cons_succ, i64_w, i32_w]
                                    rfl
                                  refine pure_ (i := 12) (N := some 110) (v := ?_) (a' := ?_) #[true, true, true, true, true, true, true, true, true, true, true, true, true, false] rfl rfl (any_of HT_.out (by kernel_rfl)) (fun _ _ _ h => h) (Or.inl ⟨by rfl, ?_⟩) ?_ ?_
                                  rotate_left
                                  · intro w'
                                    go_simp
                                    with_reducible rfl
                                  rotate_left
                                  · simp only [Act.put, List.setIfInBounds_toArray, List.set_cons_zero, List.set_cons_succ, i64_w, i32_w]
                                    rfl
                                  refine pure_ (i := 13) (N := some 6) (v := ?_) (a' := ?_) #[true, true, true, true, true, true, true, true, true, true, true, true, true, true] rfl rfl (any_of HT_.out (by kernel_rfl)) (fun _ _ _ h => h) (Or.inl ⟨by rfl, ?_⟩) ?_ ?_
                                  rotate_left
                                  · intro w'
                                    go_simp
                                    with_reducible rfl
                                  rotate_left
                                  · simp only [Act.put, List.setIfInBounds_toArray, List.set_cons_zero, List.set_cons_succ, i64_w, i32_w]
                                    rfl
                                  refine done_ (done_of HT_.out (by kernel_rfl)) ?_
                                  try go_wp2
                                  go_ret
                                  exact ⟨q4_, q0_⟩
                              · rw [if_neg c98] at H
                                have c98b0 : (t413 == ((rd_T31 l1 a2).f0) && (t414 == ((rd_T31 l1 a2).f1) && (t415.toList == (((rd_T31 l1 a2).f2).toList)))) = false := by simpa using c98
                                (try (have c98b1 : decide (t413 = ((rd_T31 l1 a2).f0) && (t414 == ((rd_T31 l1 a2).f1) && (t415.toList == (((rd_T31 l1 a2).f2).toList)))) = false := by simpa using c98))
                                (try (have c98b2 : (t413 == ((rd_T31 l1 a2).f0) && (t414 == ((rd_T31 l1 a2).f1) && (t415.toList == (((rd_T31 l1 a2).f2).toList)))) = false := by simpa using c98))
                                (try (have c98b3 : ¬ (t413 = ((rd_T31 l1 a2).f0) && (t414 == ((rd_T31 l1 a2).f1) && (t415.toList == (((rd_T31 l1 a2).f2).toList)))) := by simpa using c98))
                                clear c98
                                obtain rfl := Option.some.inj H
                                try go_wp2
                                have n0_ := Aside0.mk (blk_drew BK387.out)
                                have n1_ := Aside0.mk (blk_drew BK401.out)
                                have n2_ := Aside0.mk (blk_drew BK409.out)
                                have n3_ := Aside0.mk (blk_drew BK417.out)
                                have n4_ := Aside0.mk (below_drew1 HB.out)
                                clear BK387
                                clear BK401
                                clear BK409
                                clear BK417
                                clear HB
                                have BK387 := n0_
                                have BK401 := n1_
                                have BK409 := n2_
                                have BK417 := n3_
                                have HB := n4_
                                clear n0_ n1_ n2_ n3_ n4_
                                have p419 : 0 ≤ (a2 : Int) := of_decide_eq_true q11_
                                have q419 : a2 < (l1.length : Int) := of_decide_eq_true q11_
                                obtain ⟨ad419, e419, hx419_0, hx419_1, hx419_2⟩ := at_T31 HR1.out a2 p419 q419
                                have hw419_2 := hx419_2
                                have hw419_1 := hx419_1
                                have hw419_0 := hx419_0
                                cases e419
                                replace hx419_0 := (HB.out.cell (World.block_lt_of_cell? w _ hx419_0)).trans hx419_0
                                replace hx419_1 := (HB.out.cell (World.block_lt_of_cell? w _ hx419_1)).trans hx419_1
                                replace hx419_2 := (HB.out.cell (World.block_lt_of_cell? w _ hx419_2)).trans hx419_2
                                replace p419 := eq_true p419
                                replace q419 := eq_true q419
                                refine start_ (n := 14) (S := fun w' => w'.cell? ⟨gb417, 0, none⟩ = some (.int .i64 t413) ∧ w'.cell? ⟨gb417, 1, none⟩ = some (.int .i64 t414) ∧ w'.cell? ⟨gb417, 2, none⟩ = some (.string t415) ∧ w'.cell? (ad419.add ((a2).toNat * 3)) = some (.int .i64 ((rd_T31 l1 a2).f0)) ∧ w'.cell? ⟨(ad419.add ((a2).toNat * 3)).block, (ad419.add ((a2).toNat * 3)).off + 1, none⟩ = some (.int .i64 ((rd_T31 l1 a2).f1)) ∧ w'.cell? ⟨(ad419.add ((a2).toNat * 3)).block, (ad419.add ((a2).toNat * 3)).off + 2, none⟩ = some (.string ((rd_T31 l1 a2).f2))) (ds := []) #[false, false, false, false, false, false, false, false, false, false, false, false, false, false] (by kernel_rfl) rfl rfl ⟨(blk_cell BK417.out 0).trans rfl, (blk_cell BK417.out 1).trans rfl, (blk_cell BK417.out 2).trans rfl, ((HB.out.cell (World.block_lt_of_cell? w _ hw419_0)).trans hw419_0), ((HB.out.cell (World.block_lt_of_cell? w _ hw419_1)).trans hw419_1), ((HB.out.cell (World.block_lt_of_cell? w _ hw419_2)).trans hw419_2)⟩ (fun hHeld => ?_); refine with_tabW corollarylaw10_ExprPlain.tab16 corollarylaw10_ExprPlain.bits16 (fun HT_ HW_ => ?_)
                                generalize wc.drew = w104 at BK387 BK401 BK409 BK417 HB hx419_0 hx419_1 hx419_2 hHeld ⊢
                                refine pure_ (i := 1) (N := some 99) (v := ?_) (a' := ?_) #[false, true, false, false, false, false, false, false, false, false, false, false, false, false] rfl rfl (any_of HT_.out (by kernel_rfl)) (fun _ _ _ h => h) (Or.inl ⟨by rfl, ?_⟩) ?_ ?_
                                rotate_left
                                · intro w'
                                  go_simp
                                  with_reducible rfl
                                rotate_left
                                · simp only [Act.put, List.setIfInBounds_toArray, List.set_cons_zero, List.set_cons_succ, i64_w, i32_w]
                                  rfl
                                refine pure_ (i := 2) (N := some 100) (v := ?_) (a' := ?_) #[false, true, true, false, false, false, false, false, false, false, false, false, false, false] rfl rfl (any_of HT_.out (by kernel_rfl)) (fun _ _ _ h => h) (Or.inl ⟨by rfl, ?_⟩) ?_ ?_
                                rotate_left
                                · intro w'
                                  go_simp
                                  with_reducible rfl
                                rotate_left
                                · simp only [Act.put, List.setIfInBounds_toArray, List.set_cons_zero, List.set_cons_succ, i64_w, i32_w]
                                  rfl
                                refine pure_ (i := 3) (N := some 101) (v := ?_) (a' := ?_) #[false, true, true, true, false, false, false, false, false, false, false, false, false, false] rfl rfl (any_of HT_.out (by kernel_rfl)) (fun _ _ _ h => h) (Or.inl ⟨by rfl, ?_⟩) ?_ ?_
                                rotate_left
                                · intro w'
                                  go_simp
                                  with_reducible rfl
                                rotate_left
                                · simp only [Act.put, List.setIfInBounds_toArray, List.set_cons_zero, List.set_cons_succ, i64_w, i32_w]
                                  rfl
                                refine take_ (i := 0) (N := some 98) (v := ?_) (a' := ?_) #[true, true, true, true, false, false, false, false, false, false, false, false, false, false] rfl rfl (take_ofW HT_.out HW_.out (by kernel_rfl)) (fun _ _ _ h => h) (Or.inl ⟨by rfl, ?_⟩) hHeld ?_ ?_
                                rotate_left
                                · rintro w' ⟨s0, s1, s2, s3, s4, s5⟩
                                  go_simp
                                  with_reducible rfl
                                rotate_left
                                · simp only [Act.put, List.setIfInBounds_toArray, List.set_cons_zero, List.set_cons_succ, i64_w, i32_w]
                                  rfl
                                refine take_ (i := 4) (N := some 102) (v := ?_) (a' := ?_) #[true, true, true, true, true, false, false, false, false, false, false, false, false, false] rfl rfl (take_ofW HT_.out HW_.out (by kernel_rfl)) (fun _ _ _ h => h) (Or.inl ⟨by rfl, ?_⟩) hHeld ?_ ?_
                                rotate_left
                                · rintro w' ⟨s0, s1, s2, s3, s4, s5⟩
                                  go_simp
                                  with_reducible rfl
                                rotate_left
                                · simp only [Act.put, List.setIfInBounds_toArray, List.set_cons_zero, List.set_cons_succ, i64_w, i32_w]
                                  rfl
                                refine pure_ (i := 5) (N := some 103) (v := ?_) (a' := ?_) #[true, true, true, true, true, true, false, false, false, false, false, false, false, false] rfl rfl (any_of HT_.out (by kernel_rfl)) (fun _ _ _ h => h) (Or.inl ⟨by rfl, ?_⟩) ?_ ?_
                                rotate_left
                                · intro w'
                                  go_simp
                                  with_reducible rfl
                                rotate_left
                                · simp only [Act.put, List.setIfInBounds_toArray, List.set_cons_zero, List.set_cons_succ, i64_w, i32_w]
                                  rfl
                                refine pure_ (i := 6) (N := some 104) (v := ?_) (a' := ?_) #[true, true, true, true, true, true, true, false, false, false, false, false, false, false] rfl rfl (any_of HT_.out (by kernel_rfl)) (fun _ _ _ h => h) (Or.inl ⟨by rfl, ?_⟩) ?_ ?_
                                rotate_left
                                · intro w'
                                  go_simp
                                  with_reducible rfl
                                rotate_left
                                · simp only [Act.put, List.setIfInBounds_toArray, List.set_cons_zero, List.set_cons_succ, i64_w, i32_w]
                                  rfl
                                refine pure_ (i := 7) (N := some 105) (v := undef) (a' := ?_) #[true, true, true, true, true, true, true, true, false, false, false, false, false, false] rfl rfl (any_of HT_.out (by kernel_rfl)) (fun _ _ _ h => h) (Or.inr ⟨by rfl, rfl⟩) ?_ ?_
                                rotate_left
                                · simp only [Act.put, List.setIfInBounds_toArray, List.set_cons_zero, List.set_cons_succ, i64_w, i32_w]
                                  rfl
                                refine pure_ (i := 8) (N := some 106) (v := undef) (a' := ?_) #[true, true, true, true, true, true, true, true, true, false, false, false, false, false] rfl rfl (any_of HT_.out (by kernel_rfl)) (fun _ _ _ h => h) (Or.inr ⟨by rfl, rfl⟩) ?_ ?_
                                rotate_left
                                · simp only [Act.put, List.setIfInBounds_toArray, List.set_cons_zero, List.set_cons_succ, i64_w, i32_w]
                                  rfl
                                refine pure_ (i := 9) (N := some 107) (v := ?_) (a' := ?_) #[true, true, true, true, true, true, true, true, true, true, false, false, false, false] rfl rfl (any_of HT_.out (by kernel_rfl)) (fun _ _ _ h => h) (Or.inl ⟨by rfl, ?_⟩) ?_ ?_
                                rotate_left
                                · intro w'
                                  go_simp
                                  with_reducible rfl
                                rotate_left
                                · simp only [Act.put, List.setIfInBounds_toArray, List.set_cons_zero, List.set_cons_succ, i64_w, i32_w]
                                  rfl
                                refine pure_ (i := 10) (N := some 108) (v := ?_) (a' := ?_) #[true, true, true, true, true, true, true, true, true, true, true, false, false, false] rfl rfl (any_of HT_.out (by kernel_rfl)) (fun _ _ _ h => h) (Or.inl ⟨by rfl, ?_⟩) ?_ ?_
                                rotate_left
                                · intro w'
                                  go_simp
                                  with_reducible rfl
                                rotate_left
                                · simp only [Act.put, List.setIfInBounds_toArray, List.set_cons_zero, List.set_cons_succ, i64_w, i32_w]
                                  rfl
                                refine pure_ (i := 11) (N := some 109) (v := undef) (a' := ?_) #[true, true, true, true, true, true, true, true, true, true, true, true, false, false] rfl rfl (any_of HT_.out (by kernel_rfl)) (fun _ _ _ h => h) (Or.inr ⟨by rfl, rfl⟩) ?_ ?_
                                rotate_left
                                · simp only [Act.put, List.setIfInBounds_toArray, List.set_cons_zero, List.set_cons_succ, i64_w, i32_w]
                                  rfl
                                refine pure_ (i := 12) (N := some 110) (v := ?_) (a' := ?_) #[true, true, true, true, true, true, true, true, true, true, true, true, true, false] rfl rfl (any_of HT_.out (by kernel_rfl)) (fun _ _ _ h => h) (Or.inl ⟨by rfl, ?_⟩) ?_ ?_
                                rotate_left
                                · intro w'
                                  go_simp
                                  with_reducible rfl
                                rotate_left
                                · simp only [Act.put, List.setIfInBounds_toArray, List.set_cons_zero, List.set_cons_succ, i64_w, i32_w]
                                  rfl
                                refine pure_ (i := 13) (N := some 6) (v := ?_) (a' := ?_) #[true, true, true, true, true, true, true, true, true, true, true, true, true, true] rfl rfl (any_of HT_.out (by kernel_rfl)) (fun _ _ _ h => h) (Or.inl ⟨by rfl, ?_⟩) ?_ ?_
                                rotate_left
                                · intro w'
                                  go_simp
                                  with_reducible rfl
                                rotate_left
                                · simp only [Act.put, List.setIfInBounds_toArray, List.set_cons_zero, List.set_cons_succ, i64_w, i32_w]
                                  rfl
                                refine done_ (done_of HT_.out (by kernel_rfl)) ?_
                                try go_wp2
                                go_ret
                                exact ⟨q4_, q0_⟩
                            · rw [if_neg c97] at H
                              exact absurd H (by simp)
                          · rw [if_neg c96] at H
                            exact absurd H (by simp)

end Go.Proofs.YtiamgfpeffjcjaaDoor.P
