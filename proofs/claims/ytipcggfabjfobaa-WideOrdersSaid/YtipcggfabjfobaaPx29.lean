-- Written by our own program (wip/xprint) over the seat's translation. Lean checks it.
import Derived.Test.YtipcggfabjfobaaPx0
import Derived.Test.YtipcggfabjfobaaPx6
import Derived.Test.YtipcggfabjfobaaPx22
import Derived.Test.YtipcggfabjfobaaPx28
namespace Go.Proofs.Ytipcggfabjfobaa.P
open Go.RowKit Go.Proofs.YtipcggfabjfobaaW.PrintWords Go.Proofs.YtipcggfabjfobaaW.PrintLast Go.Proofs.YtipcggfabjfobaaW.PrintMore
attribute [local go_sem] max2_int min2_int max_two min_two max_three min_three max_four min_four   -- for this text's walks alone
set_option linter.unusedVariables false
set_option linter.unusedSimpArgs false

/-! ### corollarylaw02_WideOrders: function 7 -/
def corollarylaw02_WideOrders.j0 : Nat → Int → Int → Int → Int → Int → Option (Bool)
  | 0, _, _, _, _, _ => none
  | k + 1, x5, x283000, x283001, x284000, x284001 => (corollaryref02_Less.f k x284000 x284001 x283000 x283001).bind fun t285 => (if t285 = true then ((wide_Compare.f k x283000 x283001 x284000 x284001).bind fun t286 => (if t286 = 1 then ((corollarylaw02_awake.f k).bind fun t287 => (some t287)) else (some false))) else ((wide_Compare.f k x283000 x283001 x284000 x284001).bind fun t288 => (if t288 = x5 then ((corollarylaw02_awake.f k).bind fun t289 => (some t289)) else (some false))))
def corollarylaw02_WideOrders.f (k : Nat) (a0_0 : Int) (a0_1 : Int) (a1_0 : Int) (a1_1 : Int) : Option (Bool) := (corollaryref02_Less.f k a0_0 a0_1 a1_0 a1_1).bind fun t284 => (if t284 = true then (corollarylaw02_WideOrders.j0 k (-1) a0_0 a0_1 a1_0 a1_1) else (corollarylaw02_WideOrders.j0 k 0 a0_0 a0_1 a1_0 a1_1))
theorem corollarylaw02_WideOrders.mono_l : ∀ k, (∀ y0 y1 y2 y3 y4, LeO (corollarylaw02_WideOrders.j0 k y0 y1 y2 y3 y4) (corollarylaw02_WideOrders.j0 (k + 1) y0 y1 y2 y3 y4))
  | 0 => fun _ _ _ _ _ r h => by simp [corollarylaw02_WideOrders.j0] at h
  | k + 1 => by
    have ih0 := corollarylaw02_WideOrders.mono_l k
    · intro y0 y1 y2 y3 y4
      unfold corollarylaw02_WideOrders.j0
      repeat' first
      | (with_reducible exact ih0 _ _ _ _ _)
      | (with_reducible exact corollarylaw02_awake.mono _)
      | (with_reducible exact corollaryref02_Less.mono _ _ _ _ _)
      | (with_reducible exact wide_Compare.mono _ _ _ _ _)
      | (with_reducible exact LeO.refl _)
      | (with_reducible exact LeO.none _)
      | (with_reducible refine LeO.ite ?_ ?_)
      | (with_reducible refine LeO.bind ?_ (fun _ => ?_))
      | exact ih0 _ _ _ _ _
      | exact corollarylaw02_awake.mono _
      | exact corollaryref02_Less.mono _ _ _ _ _
      | exact wide_Compare.mono _ _ _ _ _
      | exact LeO.none _
      | refine LeO.ite ?_ ?_
      | refine LeO.bind ?_ (fun _ => ?_)
theorem corollarylaw02_WideOrders.mono : ∀ a0 a1 a2 a3 k, LeO (corollarylaw02_WideOrders.f k a0 a1 a2 a3) (corollarylaw02_WideOrders.f (k + 1) a0 a1 a2 a3) := by
  intro a0 a1 a2 a3 k
  have ih0 := corollarylaw02_WideOrders.mono_l k
  unfold corollarylaw02_WideOrders.f
  repeat' first
      | (with_reducible exact ih0 _ _ _ _ _)
      | (with_reducible exact corollarylaw02_awake.mono _)
      | (with_reducible exact corollaryref02_Less.mono _ _ _ _ _)
      | (with_reducible exact wide_Compare.mono _ _ _ _ _)
      | (with_reducible exact LeO.refl _)
      | (with_reducible exact LeO.none _)
      | (with_reducible refine LeO.ite ?_ ?_)
      | (with_reducible refine LeO.bind ?_ (fun _ => ?_))
      | exact ih0 _ _ _ _ _
      | exact corollarylaw02_awake.mono _
      | exact corollaryref02_Less.mono _ _ _ _ _
      | exact wide_Compare.mono _ _ _ _ _
      | exact LeO.none _
      | refine LeO.ite ?_ ?_
      | refine LeO.bind ?_ (fun _ => ?_)
set_option maxHeartbeats 8000000 in
set_option maxRecDepth 100000 in
theorem corollarylaw02_WideOrders.calls (k : Nat) (a0_0 : Int) (a0_1 : Int) (a1_0 : Int) (a1_1 : Int) (r : Bool) (w : World) (h : corollarylaw02_WideOrders.f k a0_0 a0_1 a1_0 a1_1 = some r) :
    Calls Try.prog 7 #[.agg #[.int .i64 a0_0, .int .u64 a0_1], .agg #[.int .i64 a1_0, .int .u64 a1_1]] w fun e w' => e = .returned (.bool r) ∧ Below w.heap.size w w' := by
  have hu26 := Try.underlying26
  have HB := Aside0.mk (Below.refl w.heap.size w)
  have H : ((corollaryref02_Less.f k a0_0 a0_1 a1_0 a1_1).bind fun t284 => (if t284 = true then (corollarylaw02_WideOrders.j0 k (-1) a0_0 a0_1 a1_0 a1_1) else (corollarylaw02_WideOrders.j0 k 0 a0_0 a0_1 a1_0 a1_1))) = some r := h
  clear h
  replace H := Option.bind_eq_some_iff.mp H
  obtain ⟨t284, A30, H⟩ := H
  replace H : (if t284 = true then (corollarylaw02_WideOrders.j0 k (-1) a0_0 a0_1 a1_0 a1_1) else (corollarylaw02_WideOrders.j0 k 0 a0_0 a0_1 a1_0 a1_1)) = some r := H
  have A3 := Aside0.mk A30
  clear A30
  have HC4 := Aside0.mk H
  clear H
  go_enter Try.func7, Try.ntmps7
  go_upto_if 8 with (first | ((with_reducible refine gate_dst (N := 2) rfl ?_); refine box_event ?hg (N := 2) ?hd (cs := #[.int .i64 a0_0, .int .u64 a0_1]) (t := 26) ?hr ?_; (case hd => rfl); (case hg => rfl); (case hr => first | (go_simp; done) | (go_simp; rfl)); intro gb282 hg w5 hbox hb; have n0_ := Aside0.mk (below_step (by repeat (first | (with_reducible first | exact HB.out | apply below_alloc | apply pw_below_drewN | apply below_drew1) | exact HB.out)) hb); have n1_ := Aside0.mk (hbox); have n2_ := Aside0.mk ((by rw [hg]; exact (below_size (by repeat (first | (with_reducible first | exact HB.out | apply below_alloc | apply pw_below_drewN | apply below_drew1) | exact HB.out))) : w.heap.size ≤ gb282)); have n3_ := Aside0.mk ((by rw [hg]; exact (below_size (by repeat (first | (with_reducible first | exact HB.out | apply below_alloc | apply pw_below_drewN | apply below_drew1) | exact HB.out))) : w.heap.size ≤ gb282)); clear HB; have HB := n0_; have BK282 := n1_; have GW282 := n2_; have GE282 := n3_; clear n0_ n1_ n2_ n3_; clear hb hbox hg) | ((with_reducible refine gate_dst (N := 3) rfl ?_); refine box_event ?hg (N := 3) ?hd (cs := #[.int .i64 a1_0, .int .u64 a1_1]) (t := 26) ?hr ?_; (case hd => rfl); (case hg => rfl); (case hr => first | (go_simp; done) | (go_simp; rfl)); intro gb283 hg w6 hbox hb; have n0_ := Aside0.mk (blk_below (g := gb282) (o := .cells #[.int .i64 a0_0, .int .u64 a0_1] 26 (0, 0)) (by (with_reducible repeat first | apply bN_ | apply bD_ | apply bA_); exact BK282.out) hb); have n1_ := Aside0.mk (below_step (by repeat (first | (with_reducible first | exact HB.out | apply below_alloc | apply pw_below_drewN | apply below_drew1 | refine below_set ?_ GE282.out) | exact HB.out)) hb); have n2_ := Aside0.mk (hbox); have n3_ := Aside0.mk ((by rw [hg]; exact (below_size (by repeat (first | (with_reducible first | exact HB.out | apply below_alloc | apply pw_below_drewN | apply below_drew1 | refine below_set ?_ GE282.out) | exact HB.out))) : w.heap.size ≤ gb283)); have n4_ := Aside0.mk ((by rw [hg]; exact (below_size (by repeat (first | (with_reducible first | exact HB.out | apply below_alloc | apply pw_below_drewN | apply below_drew1 | refine below_set ?_ GE282.out) | exact HB.out))) : w.heap.size ≤ gb283)); have n5_ := Aside0.mk ((by rw [hg]; exact Nat.ne_of_lt (blk_lt (g := gb282) (o := .cells #[.int .i64 a0_0, .int .u64 a0_1] 26 (0, 0)) (by (with_reducible repeat first | apply bN_ | apply bD_ | apply bA_); exact BK282.out)) : gb282 ≠ gb283)); have n6_ := Aside0.mk ((by rw [hg]; exact Nat.ne_of_gt (blk_lt (g := gb282) (o := .cells #[.int .i64 a0_0, .int .u64 a0_1] 26 (0, 0)) (by (with_reducible repeat first | apply bN_ | apply bD_ | apply bA_); exact BK282.out)) : gb283 ≠ gb282)); clear BK282; clear HB; have BK282 := n0_; have HB := n1_; have BK283 := n2_; have GW283 := n3_; have GE283 := n4_; have NB282_283 := n5_; have NB283_282 := n6_; clear n0_ n1_ n2_ n3_ n4_ n5_ n6_; clear hb hbox hg; have hnb7 := NB282_283.out; have hnc7 := NB283_282.out; have hcz8_0 : w6.cell? ⟨gb282, 0, none⟩ = some (.int .i64 a0_0) := (blk_cell BK282.out 0).trans rfl; have hcz8_1 : w6.cell? ⟨gb282, 1, none⟩ = some (.int .u64 a0_1) := (blk_cell BK282.out 1).trans rfl; have hfz8_0 := blk_frozen BK282.out 0; have hfz8_1 := blk_frozen BK282.out 1; have hcz9_0 : w6.cell? ⟨gb283, 0, none⟩ = some (.int .i64 a1_0) := (blk_cell BK283.out 0).trans rfl; have hcz9_1 : w6.cell? ⟨gb283, 1, none⟩ = some (.int .u64 a1_1) := (blk_cell BK283.out 1).trans rfl; have hfz9_0 := blk_frozen BK283.out 0; have hfz9_1 := blk_frozen BK283.out 1) | ((with_reducible refine gate_callee (f := 20) rfl ?_); refine goesL_ (some 8) rfl rfl Try.func20 (by kernel_rfl) rfl #[.agg #[.int .i64 a0_0, .int .u64 a0_1], .agg #[.int .i64 a1_0, .int .u64 a1_1]] rfl (by (try simp only [List.map_toArray, List.map_cons, List.map_nil]); first | done | rfl | (simp only [List.length_drop, List.length_take]; rfl)) ?_; (with_reducible refine (corollaryref02_Less.calls k a0_0 a0_1 a1_0 a1_1 t284 _ A3.out).mono ?_); rintro e w10 ⟨rfl, hb⟩; refine ⟨_, rfl, ?_⟩; have n0_ := Aside0.mk (blk_below (g := gb282) (o := .cells #[.int .i64 a0_0, .int .u64 a0_1] 26 (0, 0)) (by (with_reducible repeat first | apply bN_ | apply bD_ | apply bA_); exact BK282.out) hb); have n1_ := Aside0.mk (blk_below (g := gb283) (o := .cells #[.int .i64 a1_0, .int .u64 a1_1] 26 (0, 0)) (by (with_reducible repeat first | apply bN_ | apply bD_ | apply bA_); exact BK283.out) hb); have n2_ := Aside0.mk (below_step (by repeat (first | (with_reducible first | exact HB.out | apply below_alloc | apply pw_below_drewN | apply below_drew1 | refine below_set ?_ GE282.out | refine below_set ?_ GE283.out) | exact HB.out)) hb); clear BK282; clear BK283; clear HB; have BK282 := n0_; have BK283 := n1_; have HB := n2_; clear n0_ n1_ n2_; (try clear hb); (try clear hb2); (try clear hk); (try clear hi)))
  (try simp only [Act.put, List.setIfInBounds_toArray, List.set_cons_zero, List.set_cons_succ])
  go_cut [5] (fun v5 wc => ∃ (kq : Nat) (x5_3 : Int), v5 = .int .i64 x5_3 ∧ Aside0 (corollarylaw02_WideOrders.j0 kq x5_3 a0_0 a0_1 a1_0 a1_1 = some r) ∧ Aside0 (kq ≤ k) ∧ Aside0 (wc.heap[gb282]? = some (.cells #[.int .i64 a0_0, .int .u64 a0_1] 26 (0, 0))) ∧ Aside0 (wc.heap[gb283]? = some (.cells #[.int .i64 a1_0, .int .u64 a1_1] 26 (0, 0))) ∧ Aside0 (Below w.heap.size w wc))
  case first =>
    have H := HC4.out
    clear HC4
    by_cases c11 : t284 = true
    · subst c11
      have H1 : (corollarylaw02_WideOrders.j0 k (-1) a0_0 a0_1 a1_0 a1_1) = some r := by rw [if_pos rfl] at H; exact H
      clear H
      have H := H1
      clear H1
      have H' := Aside0.mk H
      clear H
      go_wp2
      go_meet
      case rel => exact ⟨_, ((-1)), (by first | rfl | (simp; done) | (simp [*]; done)), H', ⟨by first | omega | exact Nat.le_refl _⟩, ⟨by (with_reducible repeat first | apply bN_ | apply bD_ | apply bA_); exact BK282.out⟩, ⟨by (with_reducible repeat first | apply bN_ | apply bD_ | apply bA_); exact BK283.out⟩, ⟨by repeat (first | (with_reducible first | exact HB.out | apply below_alloc | apply pw_below_drewN | apply below_drew1 | refine below_set ?_ GE282.out | refine below_set ?_ GE283.out) | exact HB.out)⟩⟩
    · replace c11 := Bool.eq_false_iff.mpr c11
      subst c11
      have H1 : (corollarylaw02_WideOrders.j0 k 0 a0_0 a0_1 a1_0 a1_1) = some r := by rw [if_neg (show ¬ (false = true) by decide)] at H; exact H
      clear H
      have H := H1
      clear H1
      have H' := Aside0.mk H
      clear H
      go_wp2
      go_meet
      case rel => exact ⟨_, (0), (by first | rfl | (simp; done) | (simp [*]; done)), H', ⟨by first | omega | exact Nat.le_refl _⟩, ⟨by (with_reducible repeat first | apply bN_ | apply bD_ | apply bA_); exact BK282.out⟩, ⟨by (with_reducible repeat first | apply bN_ | apply bD_ | apply bA_); exact BK283.out⟩, ⟨by repeat (first | (with_reducible first | exact HB.out | apply below_alloc | apply pw_below_drewN | apply below_drew1 | refine below_set ?_ GE282.out | refine below_set ?_ GE283.out) | exact HB.out)⟩⟩
  case rest =>
    clear HC4
    try clear c1
    try clear c2
    try clear p2
    try clear c7
    try clear c11
    try clear hcz8_0
    try clear hcz8_1
    try clear hcz9_0
    try clear hcz9_1
    try clear hfz8_0
    try clear hfz8_1
    try clear hfz9_0
    try clear hfz9_1
    obtain ⟨kq, x5_3, rfl, HA, HJ3, BK282, BK283, HB⟩ := hcut
    cases kq with
    | zero => exact absurd HA.out (by simp [corollarylaw02_WideOrders.j0])
    | succ kj3 =>
      have H := HA.out
      clear HA
      simp only [corollarylaw02_WideOrders.j0] at H
      replace H := Option.bind_eq_some_iff.mp H
      obtain ⟨t285, A120, H⟩ := H
      replace H : (if t285 = true then ((wide_Compare.f kj3 a0_0 a0_1 a1_0 a1_1).bind fun t286 => (if t286 = 1 then ((corollarylaw02_awake.f kj3).bind fun t287 => (some t287)) else (some false))) else ((wide_Compare.f kj3 a0_0 a0_1 a1_0 a1_1).bind fun t288 => (if t288 = x5_3 then ((corollarylaw02_awake.f kj3).bind fun t289 => (some t289)) else (some false)))) = some r := H
      have A12 := Aside0.mk A120
      clear A120
      by_cases c13 : t285 = true
      · subst c13
        have H1 : ((wide_Compare.f kj3 a0_0 a0_1 a1_0 a1_1).bind fun t286 => (if t286 = 1 then ((corollarylaw02_awake.f kj3).bind fun t287 => (some t287)) else (some false))) = some r := by rw [if_pos rfl] at H; exact H
        clear H
        have H := H1
        clear H1
        replace H := Option.bind_eq_some_iff.mp H
        obtain ⟨t286, A140, H⟩ := H
        replace H : (if t286 = 1 then ((corollarylaw02_awake.f kj3).bind fun t287 => (some t287)) else (some false)) = some r := H
        have A14 := Aside0.mk A140
        clear A140
        by_cases c15 : t286 = 1
        · rw [if_pos c15] at H
          have c15b0 : (t286 == 1) = true := beq_iff_eq.mpr c15
          have c15b1 : (t286 != 1) = false := bne_eq_false_iff_eq.mpr c15
          clear c15
          replace H := Option.bind_eq_some_iff.mp H
          obtain ⟨t287, A160, H⟩ := H
          replace H : (some t287) = some r := H
          have A16 := Aside0.mk A160
          clear A160
          obtain rfl := Option.some.inj H
          have hnb17 := NB283_282.out
          have hnc17 := NB282_283.out
          have hcz18_0 : wc.cell? ⟨gb283, 0, none⟩ = some (.int .i64 a1_0) := (blk_cell BK283.out 0).trans rfl
          have hcz18_1 : wc.cell? ⟨gb283, 1, none⟩ = some (.int .u64 a1_1) := (blk_cell BK283.out 1).trans rfl
          have hfz18_0 := blk_frozen BK283.out 0
          have hfz18_1 := blk_frozen BK283.out 1
          have hcz19_0 : wc.cell? ⟨gb282, 0, none⟩ = some (.int .i64 a0_0) := (blk_cell BK282.out 0).trans rfl
          have hcz19_1 : wc.cell? ⟨gb282, 1, none⟩ = some (.int .u64 a0_1) := (blk_cell BK282.out 1).trans rfl
          have hfz19_0 := blk_frozen BK282.out 0
          have hfz19_1 := blk_frozen BK282.out 1
          go_wp2_with (first | ((with_reducible refine gate_callee (f := 20) rfl ?_); refine goesL_ (some 11) rfl rfl Try.func20 (by kernel_rfl) rfl #[.agg #[.int .i64 a1_0, .int .u64 a1_1], .agg #[.int .i64 a0_0, .int .u64 a0_1]] rfl (by (try simp only [List.map_toArray, List.map_cons, List.map_nil]); first | done | rfl | (simp only [List.length_drop, List.length_take]; rfl)) ?_; (with_reducible refine (corollaryref02_Less.calls kj3 a1_0 a1_1 a0_0 a0_1 true _ A12.out).mono ?_); rintro e w20 ⟨rfl, hb⟩; refine ⟨_, rfl, ?_⟩; have n0_ := Aside0.mk (blk_below (g := gb282) (o := .cells #[.int .i64 a0_0, .int .u64 a0_1] 26 (0, 0)) (by (with_reducible repeat first | apply bN_ | apply bD_ | apply bA_); exact BK282.out) hb); have n1_ := Aside0.mk (blk_below (g := gb283) (o := .cells #[.int .i64 a1_0, .int .u64 a1_1] 26 (0, 0)) (by (with_reducible repeat first | apply bN_ | apply bD_ | apply bA_); exact BK283.out) hb); have n2_ := Aside0.mk (below_step (by repeat (first | (with_reducible first | exact HB.out | apply below_alloc | apply pw_below_drewN | apply below_drew1 | refine below_set ?_ GE282.out | refine below_set ?_ GE283.out) | exact HB.out)) hb); clear BK282; clear BK283; clear HB; have BK282 := n0_; have BK283 := n1_; have HB := n2_; clear n0_ n1_ n2_; (try clear hb); (try clear hb2); (try clear hk); (try clear hi); have hcz21_0 : w20.cell? ⟨gb282, 0, none⟩ = some (.int .i64 a0_0) := (blk_cell BK282.out 0).trans rfl; have hcz21_1 : w20.cell? ⟨gb282, 1, none⟩ = some (.int .u64 a0_1) := (blk_cell BK282.out 1).trans rfl; have hfz21_0 := blk_frozen BK282.out 0; have hfz21_1 := blk_frozen BK282.out 1; have hcz22_0 : w20.cell? ⟨gb283, 0, none⟩ = some (.int .i64 a1_0) := (blk_cell BK283.out 0).trans rfl; have hcz22_1 : w20.cell? ⟨gb283, 1, none⟩ = some (.int .u64 a1_1) := (blk_cell BK283.out 1).trans rfl; have hfz22_0 := blk_frozen BK283.out 0; have hfz22_1 := blk_frozen BK283.out 1) | ((with_reducible refine gate_callee (f := 21) rfl ?_); refine goesL_ (some 14) rfl rfl Try.func21 (by kernel_rfl) rfl #[.agg #[.int .i64 a0_0, .int .u64 a0_1], .agg #[.int .i64 a1_0, .int .u64 a1_1]] rfl (by (try simp only [List.map_toArray, List.map_cons, List.map_nil]); first | done | rfl | (simp only [List.length_drop, List.length_take]; rfl)) ?_; (with_reducible refine (wide_Compare.calls kj3 a0_0 a0_1 a1_0 a1_1 t286 _ A14.out).mono ?_); rintro e w23 ⟨rfl, hb⟩; refine ⟨_, rfl, ?_⟩; have n0_ := Aside0.mk (blk_below (g := gb282) (o := .cells #[.int .i64 a0_0, .int .u64 a0_1] 26 (0, 0)) (by (with_reducible repeat first | apply bN_ | apply bD_ | apply bA_); exact BK282.out) hb); have n1_ := Aside0.mk (blk_below (g := gb283) (o := .cells #[.int .i64 a1_0, .int .u64 a1_1] 26 (0, 0)) (by (with_reducible repeat first | apply bN_ | apply bD_ | apply bA_); exact BK283.out) hb); have n2_ := Aside0.mk (below_step (by repeat (first | (with_reducible first | exact HB.out | apply below_alloc | apply pw_below_drewN | apply below_drew1 | refine below_set ?_ GE282.out | refine below_set ?_ GE283.out) | exact HB.out)) hb); clear BK282; clear BK283; clear HB; have BK282 := n0_; have BK283 := n1_; have HB := n2_; clear n0_ n1_ n2_; (try clear hb); (try clear hb2); (try clear hk); (try clear hi)) | (go_at_call 10; (with_reducible refine (corollarylaw02_awake.calls kj3  t287 _ A16.out).mono ?_); rintro e w24 ⟨rfl, hb⟩; have n0_ := Aside0.mk (blk_below (g := gb282) (o := .cells #[.int .i64 a0_0, .int .u64 a0_1] 26 (0, 0)) (by (with_reducible repeat first | apply bN_ | apply bD_ | apply bA_); exact BK282.out) hb); have n1_ := Aside0.mk (blk_below (g := gb283) (o := .cells #[.int .i64 a1_0, .int .u64 a1_1] 26 (0, 0)) (by (with_reducible repeat first | apply bN_ | apply bD_ | apply bA_); exact BK283.out) hb); have n2_ := Aside0.mk (below_step (by repeat (first | (with_reducible first | exact HB.out | apply below_alloc | apply pw_below_drewN | apply below_drew1 | refine below_set ?_ GE282.out | refine below_set ?_ GE283.out) | exact HB.out)) hb); clear BK282; clear BK283; clear HB; have BK282 := n0_; have BK283 := n1_; have HB := n2_; clear n0_ n1_ n2_; (try clear hb); (try clear hb2); (try clear hk); (try clear hi)))
          go_ret
          exact ⟨by first | rfl | (simp [errW_none, errW_some] <;> rfl) | (simp [*, errW_none, errW_some] <;> rfl), by repeat (first | (with_reducible first | exact HB.out | apply below_alloc | apply pw_below_drewN | apply below_drew1 | refine below_set ?_ GE282.out | refine below_set ?_ GE283.out) | exact HB.out)⟩
        · rw [if_neg c15] at H
          have c15b0 : (t286 == 1) = false := beq_eq_false_iff_ne.mpr c15
          have c15b1 : (t286 != 1) = true := bne_iff_ne.mpr c15
          obtain rfl := Option.some.inj H
          have hnb25 := NB283_282.out
          have hnc25 := NB282_283.out
          have hcz26_0 : wc.cell? ⟨gb283, 0, none⟩ = some (.int .i64 a1_0) := (blk_cell BK283.out 0).trans rfl
          have hcz26_1 : wc.cell? ⟨gb283, 1, none⟩ = some (.int .u64 a1_1) := (blk_cell BK283.out 1).trans rfl
          have hfz26_0 := blk_frozen BK283.out 0
          have hfz26_1 := blk_frozen BK283.out 1
          have hcz27_0 : wc.cell? ⟨gb282, 0, none⟩ = some (.int .i64 a0_0) := (blk_cell BK282.out 0).trans rfl
          have hcz27_1 : wc.cell? ⟨gb282, 1, none⟩ = some (.int .u64 a0_1) := (blk_cell BK282.out 1).trans rfl
          have hfz27_0 := blk_frozen BK282.out 0
          have hfz27_1 := blk_frozen BK282.out 1
          go_wp2_with (first | ((with_reducible refine gate_callee (f := 20) rfl ?_); refine goesL_ (some 11) rfl rfl Try.func20 (by kernel_rfl) rfl #[.agg #[.int .i64 a1_0, .int .u64 a1_1], .agg #[.int .i64 a0_0, .int .u64 a0_1]] rfl (by (try simp only [List.map_toArray, List.map_cons, List.map_nil]); first | done | rfl | (simp only [List.length_drop, List.length_take]; rfl)) ?_; (with_reducible refine (corollaryref02_Less.calls kj3 a1_0 a1_1 a0_0 a0_1 true _ A12.out).mono ?_); rintro e w28 ⟨rfl, hb⟩; refine ⟨_, rfl, ?_⟩; have n0_ := Aside0.mk (blk_below (g := gb282) (o := .cells #[.int .i64 a0_0, .int .u64 a0_1] 26 (0, 0)) (by (with_reducible repeat first | apply bN_ | apply bD_ | apply bA_); exact BK282.out) hb); have n1_ := Aside0.mk (blk_below (g := gb283) (o := .cells #[.int .i64 a1_0, .int .u64 a1_1] 26 (0, 0)) (by (with_reducible repeat first | apply bN_ | apply bD_ | apply bA_); exact BK283.out) hb); have n2_ := Aside0.mk (below_step (by repeat (first | (with_reducible first | exact HB.out | apply below_alloc | apply pw_below_drewN | apply below_drew1 | refine below_set ?_ GE282.out | refine below_set ?_ GE283.out) | exact HB.out)) hb); clear BK282; clear BK283; clear HB; have BK282 := n0_; have BK283 := n1_; have HB := n2_; clear n0_ n1_ n2_; (try clear hb); (try clear hb2); (try clear hk); (try clear hi); have hcz29_0 : w28.cell? ⟨gb282, 0, none⟩ = some (.int .i64 a0_0) := (blk_cell BK282.out 0).trans rfl; have hcz29_1 : w28.cell? ⟨gb282, 1, none⟩ = some (.int .u64 a0_1) := (blk_cell BK282.out 1).trans rfl; have hfz29_0 := blk_frozen BK282.out 0; have hfz29_1 := blk_frozen BK282.out 1; have hcz30_0 : w28.cell? ⟨gb283, 0, none⟩ = some (.int .i64 a1_0) := (blk_cell BK283.out 0).trans rfl; have hcz30_1 : w28.cell? ⟨gb283, 1, none⟩ = some (.int .u64 a1_1) := (blk_cell BK283.out 1).trans rfl; have hfz30_0 := blk_frozen BK283.out 0; have hfz30_1 := blk_frozen BK283.out 1) | ((with_reducible refine gate_callee (f := 21) rfl ?_); refine goesL_ (some 14) rfl rfl Try.func21 (by kernel_rfl) rfl #[.agg #[.int .i64 a0_0, .int .u64 a0_1], .agg #[.int .i64 a1_0, .int .u64 a1_1]] rfl (by (try simp only [List.map_toArray, List.map_cons, List.map_nil]); first | done | rfl | (simp only [List.length_drop, List.length_take]; rfl)) ?_; (with_reducible refine (wide_Compare.calls kj3 a0_0 a0_1 a1_0 a1_1 t286 _ A14.out).mono ?_); rintro e w31 ⟨rfl, hb⟩; refine ⟨_, rfl, ?_⟩; have n0_ := Aside0.mk (blk_below (g := gb282) (o := .cells #[.int .i64 a0_0, .int .u64 a0_1] 26 (0, 0)) (by (with_reducible repeat first | apply bN_ | apply bD_ | apply bA_); exact BK282.out) hb); have n1_ := Aside0.mk (blk_below (g := gb283) (o := .cells #[.int .i64 a1_0, .int .u64 a1_1] 26 (0, 0)) (by (with_reducible repeat first | apply bN_ | apply bD_ | apply bA_); exact BK283.out) hb); have n2_ := Aside0.mk (below_step (by repeat (first | (with_reducible first | exact HB.out | apply below_alloc | apply pw_below_drewN | apply below_drew1 | refine below_set ?_ GE282.out | refine below_set ?_ GE283.out) | exact HB.out)) hb); clear BK282; clear BK283; clear HB; have BK282 := n0_; have BK283 := n1_; have HB := n2_; clear n0_ n1_ n2_; (try clear hb); (try clear hb2); (try clear hk); (try clear hi)))
          go_ret
          exact ⟨by first | rfl | (simp [errW_none, errW_some] <;> rfl) | (simp [*, errW_none, errW_some] <;> rfl), by repeat (first | (with_reducible first | exact HB.out | apply below_alloc | apply pw_below_drewN | apply below_drew1 | refine below_set ?_ GE282.out | refine below_set ?_ GE283.out) | exact HB.out)⟩
      · replace c13 := Bool.eq_false_iff.mpr c13
        subst c13
        have H1 : ((wide_Compare.f kj3 a0_0 a0_1 a1_0 a1_1).bind fun t288 => (if t288 = x5_3 then ((corollarylaw02_awake.f kj3).bind fun t289 => (some t289)) else (some false))) = some r := by rw [if_neg (show ¬ (false = true) by decide)] at H; exact H
        clear H
        have H := H1
        clear H1
        replace H := Option.bind_eq_some_iff.mp H
        obtain ⟨t288, A320, H⟩ := H
        replace H : (if t288 = x5_3 then ((corollarylaw02_awake.f kj3).bind fun t289 => (some t289)) else (some false)) = some r := H
        have A32 := Aside0.mk A320
        clear A320
        by_cases c33 : t288 = x5_3
        · rw [if_pos c33] at H
          have c33b0 : (t288 == x5_3) = true := beq_iff_eq.mpr c33
          have c33b1 : (t288 != x5_3) = false := bne_eq_false_iff_eq.mpr c33
          clear c33
          replace H := Option.bind_eq_some_iff.mp H
          obtain ⟨t289, A340, H⟩ := H
          replace H : (some t289) = some r := H
          have A34 := Aside0.mk A340
          clear A340
          obtain rfl := Option.some.inj H
          have hnb35 := NB283_282.out
          have hnc35 := NB282_283.out
          have hcz36_0 : wc.cell? ⟨gb283, 0, none⟩ = some (.int .i64 a1_0) := (blk_cell BK283.out 0).trans rfl
          have hcz36_1 : wc.cell? ⟨gb283, 1, none⟩ = some (.int .u64 a1_1) := (blk_cell BK283.out 1).trans rfl
          have hfz36_0 := blk_frozen BK283.out 0
          have hfz36_1 := blk_frozen BK283.out 1
          have hcz37_0 : wc.cell? ⟨gb282, 0, none⟩ = some (.int .i64 a0_0) := (blk_cell BK282.out 0).trans rfl
          have hcz37_1 : wc.cell? ⟨gb282, 1, none⟩ = some (.int .u64 a0_1) := (blk_cell BK282.out 1).trans rfl
          have hfz37_0 := blk_frozen BK282.out 0
          have hfz37_1 := blk_frozen BK282.out 1
          go_wp2_with (first | ((with_reducible refine gate_callee (f := 20) rfl ?_); refine goesL_ (some 11) rfl rfl Try.func20 (by kernel_rfl) rfl #[.agg #[.int .i64 a1_0, .int .u64 a1_1], .agg #[.int .i64 a0_0, .int .u64 a0_1]] rfl (by (try simp only [List.map_toArray, List.map_cons, List.map_nil]); first | done | rfl | (simp only [List.length_drop, List.length_take]; rfl)) ?_; (with_reducible refine (corollaryref02_Less.calls kj3 a1_0 a1_1 a0_0 a0_1 false _ A12.out).mono ?_); rintro e w38 ⟨rfl, hb⟩; refine ⟨_, rfl, ?_⟩; have n0_ := Aside0.mk (blk_below (g := gb282) (o := .cells #[.int .i64 a0_0, .int .u64 a0_1] 26 (0, 0)) (by (with_reducible repeat first | apply bN_ | apply bD_ | apply bA_); exact BK282.out) hb); have n1_ := Aside0.mk (blk_below (g := gb283) (o := .cells #[.int .i64 a1_0, .int .u64 a1_1] 26 (0, 0)) (by (with_reducible repeat first | apply bN_ | apply bD_ | apply bA_); exact BK283.out) hb); have n2_ := Aside0.mk (below_step (by repeat (first | (with_reducible first | exact HB.out | apply below_alloc | apply pw_below_drewN | apply below_drew1 | refine below_set ?_ GE282.out | refine below_set ?_ GE283.out) | exact HB.out)) hb); clear BK282; clear BK283; clear HB; have BK282 := n0_; have BK283 := n1_; have HB := n2_; clear n0_ n1_ n2_; (try clear hb); (try clear hb2); (try clear hk); (try clear hi); have hcz39_0 : w38.cell? ⟨gb282, 0, none⟩ = some (.int .i64 a0_0) := (blk_cell BK282.out 0).trans rfl; have hcz39_1 : w38.cell? ⟨gb282, 1, none⟩ = some (.int .u64 a0_1) := (blk_cell BK282.out 1).trans rfl; have hfz39_0 := blk_frozen BK282.out 0; have hfz39_1 := blk_frozen BK282.out 1; have hcz40_0 : w38.cell? ⟨gb283, 0, none⟩ = some (.int .i64 a1_0) := (blk_cell BK283.out 0).trans rfl; have hcz40_1 : w38.cell? ⟨gb283, 1, none⟩ = some (.int .u64 a1_1) := (blk_cell BK283.out 1).trans rfl; have hfz40_0 := blk_frozen BK283.out 0; have hfz40_1 := blk_frozen BK283.out 1) | ((with_reducible refine gate_callee (f := 21) rfl ?_); refine goesL_ (some 14) rfl rfl Try.func21 (by kernel_rfl) rfl #[.agg #[.int .i64 a0_0, .int .u64 a0_1], .agg #[.int .i64 a1_0, .int .u64 a1_1]] rfl (by (try simp only [List.map_toArray, List.map_cons, List.map_nil]); first | done | rfl | (simp only [List.length_drop, List.length_take]; rfl)) ?_; (with_reducible refine (wide_Compare.calls kj3 a0_0 a0_1 a1_0 a1_1 t288 _ A32.out).mono ?_); rintro e w41 ⟨rfl, hb⟩; refine ⟨_, rfl, ?_⟩; have n0_ := Aside0.mk (blk_below (g := gb282) (o := .cells #[.int .i64 a0_0, .int .u64 a0_1] 26 (0, 0)) (by (with_reducible repeat first | apply bN_ | apply bD_ | apply bA_); exact BK282.out) hb); have n1_ := Aside0.mk (blk_below (g := gb283) (o := .cells #[.int .i64 a1_0, .int .u64 a1_1] 26 (0, 0)) (by (with_reducible repeat first | apply bN_ | apply bD_ | apply bA_); exact BK283.out) hb); have n2_ := Aside0.mk (below_step (by repeat (first | (with_reducible first | exact HB.out | apply below_alloc | apply pw_below_drewN | apply below_drew1 | refine below_set ?_ GE282.out | refine below_set ?_ GE283.out) | exact HB.out)) hb); clear BK282; clear BK283; clear HB; have BK282 := n0_; have BK283 := n1_; have HB := n2_; clear n0_ n1_ n2_; (try clear hb); (try clear hb2); (try clear hk); (try clear hi)) | (go_at_call 10; (with_reducible refine (corollarylaw02_awake.calls kj3  t289 _ A34.out).mono ?_); rintro e w42 ⟨rfl, hb⟩; have n0_ := Aside0.mk (blk_below (g := gb282) (o := .cells #[.int .i64 a0_0, .int .u64 a0_1] 26 (0, 0)) (by (with_reducible repeat first | apply bN_ | apply bD_ | apply bA_); exact BK282.out) hb); have n1_ := Aside0.mk (blk_below (g := gb283) (o := .cells #[.int .i64 a1_0, .int .u64 a1_1] 26 (0, 0)) (by (with_reducible repeat first | apply bN_ | apply bD_ | apply bA_); exact BK283.out) hb); have n2_ := Aside0.mk (below_step (by repeat (first | (with_reducible first | exact HB.out | apply below_alloc | apply pw_below_drewN | apply below_drew1 | refine below_set ?_ GE282.out | refine below_set ?_ GE283.out) | exact HB.out)) hb); clear BK282; clear BK283; clear HB; have BK282 := n0_; have BK283 := n1_; have HB := n2_; clear n0_ n1_ n2_; (try clear hb); (try clear hb2); (try clear hk); (try clear hi)))
          go_ret
          exact ⟨by first | rfl | (simp [errW_none, errW_some] <;> rfl) | (simp [*, errW_none, errW_some] <;> rfl), by repeat (first | (with_reducible first | exact HB.out | apply below_alloc | apply pw_below_drewN | apply below_drew1 | refine below_set ?_ GE282.out | refine below_set ?_ GE283.out) | exact HB.out)⟩
        · rw [if_neg c33] at H
          have c33b0 : (t288 == x5_3) = false := beq_eq_false_iff_ne.mpr c33
          have c33b1 : (t288 != x5_3) = true := bne_iff_ne.mpr c33
          obtain rfl := Option.some.inj H
          have hnb43 := NB283_282.out
          have hnc43 := NB282_283.out
          have hcz44_0 : wc.cell? ⟨gb283, 0, none⟩ = some (.int .i64 a1_0) := (blk_cell BK283.out 0).trans rfl
          have hcz44_1 : wc.cell? ⟨gb283, 1, none⟩ = some (.int .u64 a1_1) := (blk_cell BK283.out 1).trans rfl
          have hfz44_0 := blk_frozen BK283.out 0
          have hfz44_1 := blk_frozen BK283.out 1
          have hcz45_0 : wc.cell? ⟨gb282, 0, none⟩ = some (.int .i64 a0_0) := (blk_cell BK282.out 0).trans rfl
          have hcz45_1 : wc.cell? ⟨gb282, 1, none⟩ = some (.int .u64 a0_1) := (blk_cell BK282.out 1).trans rfl
          have hfz45_0 := blk_frozen BK282.out 0
          have hfz45_1 := blk_frozen BK282.out 1
          go_wp2_with (first | ((with_reducible refine gate_callee (f := 20) rfl ?_); refine goesL_ (some 11) rfl rfl Try.func20 (by kernel_rfl) rfl #[.agg #[.int .i64 a1_0, .int .u64 a1_1], .agg #[.int .i64 a0_0, .int .u64 a0_1]] rfl (by (try simp only [List.map_toArray, List.map_cons, List.map_nil]); first | done | rfl | (simp only [List.length_drop, List.length_take]; rfl)) ?_; (with_reducible refine (corollaryref02_Less.calls kj3 a1_0 a1_1 a0_0 a0_1 false _ A12.out).mono ?_); rintro e w46 ⟨rfl, hb⟩; refine ⟨_, rfl, ?_⟩; have n0_ := Aside0.mk (blk_below (g := gb282) (o := .cells #[.int .i64 a0_0, .int .u64 a0_1] 26 (0, 0)) (by (with_reducible repeat first | apply bN_ | apply bD_ | apply bA_); exact BK282.out) hb); have n1_ := Aside0.mk (blk_below (g := gb283) (o := .cells #[.int .i64 a1_0, .int .u64 a1_1] 26 (0, 0)) (by (with_reducible repeat first | apply bN_ | apply bD_ | apply bA_); exact BK283.out) hb); have n2_ := Aside0.mk (below_step (by repeat (first | (with_reducible first | exact HB.out | apply below_alloc | apply pw_below_drewN | apply below_drew1 | refine below_set ?_ GE282.out | refine below_set ?_ GE283.out) | exact HB.out)) hb); clear BK282; clear BK283; clear HB; have BK282 := n0_; have BK283 := n1_; have HB := n2_; clear n0_ n1_ n2_; (try clear hb); (try clear hb2); (try clear hk); (try clear hi); have hcz47_0 : w46.cell? ⟨gb282, 0, none⟩ = some (.int .i64 a0_0) := (blk_cell BK282.out 0).trans rfl; have hcz47_1 : w46.cell? ⟨gb282, 1, none⟩ = some (.int .u64 a0_1) := (blk_cell BK282.out 1).trans rfl; have hfz47_0 := blk_frozen BK282.out 0; have hfz47_1 := blk_frozen BK282.out 1; have hcz48_0 : w46.cell? ⟨gb283, 0, none⟩ = some (.int .i64 a1_0) := (blk_cell BK283.out 0).trans rfl; have hcz48_1 : w46.cell? ⟨gb283, 1, none⟩ = some (.int .u64 a1_1) := (blk_cell BK283.out 1).trans rfl; have hfz48_0 := blk_frozen BK283.out 0; have hfz48_1 := blk_frozen BK283.out 1) | ((with_reducible refine gate_callee (f := 21) rfl ?_); refine goesL_ (some 14) rfl rfl Try.func21 (by kernel_rfl) rfl #[.agg #[.int .i64 a0_0, .int .u64 a0_1], .agg #[.int .i64 a1_0, .int .u64 a1_1]] rfl (by (try simp only [List.map_toArray, List.map_cons, List.map_nil]); first | done | rfl | (simp only [List.length_drop, List.length_take]; rfl)) ?_; (with_reducible refine (wide_Compare.calls kj3 a0_0 a0_1 a1_0 a1_1 t288 _ A32.out).mono ?_); rintro e w49 ⟨rfl, hb⟩; refine ⟨_, rfl, ?_⟩; have n0_ := Aside0.mk (blk_below (g := gb282) (o := .cells #[.int .i64 a0_0, .int .u64 a0_1] 26 (0, 0)) (by (with_reducible repeat first | apply bN_ | apply bD_ | apply bA_); exact BK282.out) hb); have n1_ := Aside0.mk (blk_below (g := gb283) (o := .cells #[.int .i64 a1_0, .int .u64 a1_1] 26 (0, 0)) (by (with_reducible repeat first | apply bN_ | apply bD_ | apply bA_); exact BK283.out) hb); have n2_ := Aside0.mk (below_step (by repeat (first | (with_reducible first | exact HB.out | apply below_alloc | apply pw_below_drewN | apply below_drew1 | refine below_set ?_ GE282.out | refine below_set ?_ GE283.out) | exact HB.out)) hb); clear BK282; clear BK283; clear HB; have BK282 := n0_; have BK283 := n1_; have HB := n2_; clear n0_ n1_ n2_; (try clear hb); (try clear hb2); (try clear hk); (try clear hi)))
          go_ret
          exact ⟨by first | rfl | (simp [errW_none, errW_some] <;> rfl) | (simp [*, errW_none, errW_some] <;> rfl), by repeat (first | (with_reducible first | exact HB.out | apply below_alloc | apply pw_below_drewN | apply below_drew1 | refine below_set ?_ GE282.out | refine below_set ?_ GE283.out) | exact HB.out)⟩

end Go.Proofs.Ytipcggfabjfobaa.P
