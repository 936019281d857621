-- Written by our own program (wip/xprint) over the seat's translation. Lean checks it.
import Derived.Test.YtipcggfabjfobaaPx0
import Derived.Test.YtipcggfabjfobaaPx9
namespace Go.Proofs.Ytipcggfabjfobaa.P
open Go.RowKit Go.Proofs.YtipcggfabjfobaaW.PrintWords Go.Proofs.YtipcggfabjfobaaW.PrintLast Go.Proofs.YtipcggfabjfobaaW.PrintMore
attribute [local go_sem] max2_int min2_int max_two min_two max_three min_three max_four min_four   -- for this text's walks alone
set_option linter.unusedVariables false
set_option linter.unusedSimpArgs false

/-! ### corollaryref02_Int: function 15 -/
def corollaryref02_Int.j0 : Nat → Bool → Int → Int → Int → Int → Option (Int × Bool)
  | 0, _, _, _, _, _ => none
  | k + 1, x19, x190000, x190001, x190002, x190003 => if x19 = true then (some (wrap64 ((wrap64 (x190001 * 4294967296)) + x190000), true)) else (if x190003 = (-1) then (if x190002 = 4294967295 then (if x190001 ≥ 2147483648 then (some (wrap64 ((wrap64 ((wrap64 (x190001 - 4294967296)) * 4294967296)) + x190000), true)) else (some (0, false))) else (some (0, false))) else (some (0, false)))
def corollaryref02_Int.f (k : Nat) (a0_0 : Int) (a0_1 : Int) : Option (Int × Bool) := (corollaryref02_Four.f a0_0 a0_1).bind fun bt185 => (if bt185.2.2.2 = 0 then (if bt185.2.2.1 = 0 then (corollaryref02_Int.j0 k (decide (bt185.2.1 < 2147483648)) bt185.1 bt185.2.1 bt185.2.2.1 bt185.2.2.2) else (corollaryref02_Int.j0 k false bt185.1 bt185.2.1 bt185.2.2.1 bt185.2.2.2)) else (corollaryref02_Int.j0 k false bt185.1 bt185.2.1 bt185.2.2.1 bt185.2.2.2))
theorem corollaryref02_Int.mono_l : ∀ k, (∀ y0 y1 y2 y3 y4, LeO (corollaryref02_Int.j0 k y0 y1 y2 y3 y4) (corollaryref02_Int.j0 (k + 1) y0 y1 y2 y3 y4))
  | 0 => fun _ _ _ _ _ r h => by simp [corollaryref02_Int.j0] at h
  | k + 1 => by
    have ih0 := corollaryref02_Int.mono_l k
    · intro y0 y1 y2 y3 y4
      unfold corollaryref02_Int.j0
      repeat' first
      | (with_reducible exact ih0 _ _ _ _ _)
      | (with_reducible exact LeO.refl _)
      | (with_reducible exact LeO.none _)
      | (with_reducible refine LeO.ite ?_ ?_)
      | (with_reducible refine LeO.bind ?_ (fun _ => ?_))
      | exact ih0 _ _ _ _ _
      | exact LeO.none _
      | refine LeO.ite ?_ ?_
      | refine LeO.bind ?_ (fun _ => ?_)
theorem corollaryref02_Int.mono : ∀ a0 a1 k, LeO (corollaryref02_Int.f k a0 a1) (corollaryref02_Int.f (k + 1) a0 a1) := by
  intro a0 a1 k
  have ih0 := corollaryref02_Int.mono_l k
  unfold corollaryref02_Int.f
  repeat' first
      | (with_reducible exact ih0 _ _ _ _ _)
      | (with_reducible exact LeO.refl _)
      | (with_reducible exact LeO.none _)
      | (with_reducible refine LeO.ite ?_ ?_)
      | (with_reducible refine LeO.bind ?_ (fun _ => ?_))
      | exact ih0 _ _ _ _ _
      | exact LeO.none _
      | refine LeO.ite ?_ ?_
      | refine LeO.bind ?_ (fun _ => ?_)
set_option maxHeartbeats 8000000 in
set_option maxRecDepth 100000 in
theorem corollaryref02_Int.calls (k : Nat) (a0_0 : Int) (a0_1 : Int) (r1 : Int) (r2 : Bool) (w : World) (h : corollaryref02_Int.f k a0_0 a0_1 = some (r1, r2)) :
    Calls Try.prog 15 #[.agg #[.int .i64 a0_0, .int .u64 a0_1]] w fun e w' => e = .returned (.tuple #[.int .i64 r1, .bool r2]) ∧ Below w.heap.size w w' := by
  have hu26 := Try.underlying26
  have hu46 := Try.underlying46
  have HB := Aside0.mk (Below.refl w.heap.size w)
  have H : ((corollaryref02_Four.f a0_0 a0_1).bind fun bt185 => (if bt185.2.2.2 = 0 then (if bt185.2.2.1 = 0 then (corollaryref02_Int.j0 k (decide (bt185.2.1 < 2147483648)) bt185.1 bt185.2.1 bt185.2.2.1 bt185.2.2.2) else (corollaryref02_Int.j0 k false bt185.1 bt185.2.1 bt185.2.2.1 bt185.2.2.2)) else (corollaryref02_Int.j0 k false bt185.1 bt185.2.1 bt185.2.2.1 bt185.2.2.2))) = some (r1, r2) := h
  clear h
  replace H := Option.bind_eq_some_iff.mp H
  obtain ⟨⟨t185, t186, t187, t188⟩, A20, H⟩ := H
  replace H : (if t188 = 0 then (if t187 = 0 then (corollaryref02_Int.j0 k (decide (t186 < 2147483648)) t185 t186 t187 t188) else (corollaryref02_Int.j0 k false t185 t186 t187 t188)) else (corollaryref02_Int.j0 k false t185 t186 t187 t188)) = some (r1, r2) := H
  have A2 := Aside0.mk A20
  clear A20
  have HC3 := Aside0.mk H
  clear H
  go_enter Try.func15, Try.ntmps15
  go_upto_region 2 with (first | ((with_reducible refine gate_dst (N := 1) rfl ?_); refine box_event ?hg (N := 1) ?hd (cs := #[.int .i64 a0_0, .int .u64 a0_1]) (t := 26) ?hr ?_; (case hd => rfl); (case hg => rfl); (case hr => first | (go_simp; done) | (go_simp; rfl)); intro gb184 hg w4 hbox hb; have n0_ := Aside0.mk (below_step (by repeat (first | (with_reducible first | exact HB.out | apply below_alloc | apply pw_below_drewN | apply below_drew1) | exact HB.out)) hb); have n1_ := Aside0.mk (hbox); have n2_ := Aside0.mk ((by rw [hg]; exact (below_size (by repeat (first | (with_reducible first | exact HB.out | apply below_alloc | apply pw_below_drewN | apply below_drew1) | exact HB.out))) : w.heap.size ≤ gb184)); have n3_ := Aside0.mk ((by rw [hg]; exact (below_size (by repeat (first | (with_reducible first | exact HB.out | apply below_alloc | apply pw_below_drewN | apply below_drew1) | exact HB.out))) : w.heap.size ≤ gb184)); clear HB; have HB := n0_; have BK184 := n1_; have GW184 := n2_; have GE184 := n3_; clear n0_ n1_ n2_ n3_; clear hb hbox hg; have hcz5_0 : w4.cell? ⟨gb184, 0, none⟩ = some (.int .i64 a0_0) := (blk_cell BK184.out 0).trans rfl; have hcz5_1 : w4.cell? ⟨gb184, 1, none⟩ = some (.int .u64 a0_1) := (blk_cell BK184.out 1).trans rfl; have hfz5_0 := blk_frozen BK184.out 0; have hfz5_1 := blk_frozen BK184.out 1) | ((with_reducible refine gate_callee (f := 22) rfl ?_); refine goesL_ (some 6) rfl rfl Try.func22 (by kernel_rfl) rfl #[.agg #[.int .i64 a0_0, .int .u64 a0_1]] rfl (by (try simp only [List.map_toArray, List.map_cons, List.map_nil]); first | done | rfl | (simp only [List.length_drop, List.length_take]; rfl)) ?_; (with_reducible refine (corollaryref02_Four.calls a0_0 a0_1 t185 t186 t187 t188 _ A2.out).mono ?_); rintro e w6 ⟨rfl, hb⟩; refine ⟨_, rfl, ?_⟩; have n0_ := Aside0.mk (blk_below (g := gb184) (o := .cells #[.int .i64 a0_0, .int .u64 a0_1] 26 (0, 0)) (by (with_reducible repeat first | apply bN_ | apply bD_ | apply bA_); exact BK184.out) hb); have n1_ := Aside0.mk (below_step (by repeat (first | (with_reducible first | exact HB.out | apply below_alloc | apply pw_below_drewN | apply below_drew1 | refine below_set ?_ GE184.out) | exact HB.out)) hb); clear BK184; clear HB; have BK184 := n0_; have HB := n1_; clear n0_ n1_; (try clear hb); (try clear hb2); (try clear hk); (try clear hi)) | ((with_reducible refine gate_dst (N := 4) rfl ?_); refine box_event ?hg (N := 4) ?hd (cs := #[.int .i64 0, .int .i64 0, .int .i64 0, .int .i64 0]) (t := 46) ?hr ?_; (case hd => rfl); (case hg => rfl); (case hr => first | (go_simp; done) | (go_simp; rfl)); intro gb189 hg w7 hbox hb; have n0_ := Aside0.mk (blk_below (g := gb184) (o := .cells #[.int .i64 a0_0, .int .u64 a0_1] 26 (0, 0)) (by (with_reducible repeat first | apply bN_ | apply bD_ | apply bA_); exact BK184.out) hb); have n1_ := Aside0.mk (below_step (by repeat (first | (with_reducible first | exact HB.out | apply below_alloc | apply pw_below_drewN | apply below_drew1 | refine below_set ?_ GE184.out) | exact HB.out)) hb); have n2_ := Aside0.mk (hbox); have n3_ := Aside0.mk ((by rw [hg]; exact (below_size (by repeat (first | (with_reducible first | exact HB.out | apply below_alloc | apply pw_below_drewN | apply below_drew1 | refine below_set ?_ GE184.out) | exact HB.out))) : w.heap.size ≤ gb189)); have n4_ := Aside0.mk ((by rw [hg]; exact (below_size (by repeat (first | (with_reducible first | exact HB.out | apply below_alloc | apply pw_below_drewN | apply below_drew1 | refine below_set ?_ GE184.out) | exact HB.out))) : w.heap.size ≤ gb189)); have n5_ := Aside0.mk ((by rw [hg]; exact Nat.ne_of_lt (blk_lt (g := gb184) (o := .cells #[.int .i64 a0_0, .int .u64 a0_1] 26 (0, 0)) (by (with_reducible repeat first | apply bN_ | apply bD_ | apply bA_); exact BK184.out)) : gb184 ≠ gb189)); have n6_ := Aside0.mk ((by rw [hg]; exact Nat.ne_of_gt (blk_lt (g := gb184) (o := .cells #[.int .i64 a0_0, .int .u64 a0_1] 26 (0, 0)) (by (with_reducible repeat first | apply bN_ | apply bD_ | apply bA_); exact BK184.out)) : gb189 ≠ gb184)); clear BK184; clear HB; have BK184 := n0_; have HB := n1_; have BK189 := n2_; have GW189 := n3_; have GE189 := n4_; have NB184_189 := n5_; have NB189_184 := n6_; clear n0_ n1_ n2_ n3_ n4_ n5_ n6_; clear hb hbox hg; have hnb8 := NB189_184.out; have hnc8 := NB184_189.out; have hcz9_0 : w7.cell? ⟨gb189, 0, none⟩ = some (.int .i64 0) := (blk_cell BK189.out 0).trans rfl; have hcz9_1 : w7.cell? ⟨gb189, 1, none⟩ = some (.int .i64 0) := (blk_cell BK189.out 1).trans rfl; have hcz9_2 : w7.cell? ⟨gb189, 2, none⟩ = some (.int .i64 0) := (blk_cell BK189.out 2).trans rfl; have hcz9_3 : w7.cell? ⟨gb189, 3, none⟩ = some (.int .i64 0) := (blk_cell BK189.out 3).trans rfl; have hfz9_0 := blk_frozen BK189.out 0; have hfz9_1 := blk_frozen BK189.out 1; have hfz9_2 := blk_frozen BK189.out 2; have hfz9_3 := blk_frozen BK189.out 3))
  (try simp only [Act.put, List.setIfInBounds_toArray, List.set_cons_zero, List.set_cons_succ])
  go_cut [19] (fun v19 wc => ∃ (kq : Nat) (x19_2 : Bool), v19 = .bool x19_2 ∧ Aside0 (corollaryref02_Int.j0 kq x19_2 t185 t186 t187 t188 = some (r1, r2)) ∧ Aside0 (kq ≤ k) ∧ Aside0 (wc.heap[gb184]? = some (.cells #[.int .i64 a0_0, .int .u64 a0_1] 26 (0, 0))) ∧ Aside0 (wc.heap[gb189]? = some (.cells #[.int .i64 t185, .int .i64 t186, .int .i64 t187, .int .i64 t188] 46 (0, 0))) ∧ Aside0 (Below w.heap.size w wc))
  case first =>
    have H := HC3.out
    clear HC3
    by_cases c10 : t188 = 0
    · rw [if_pos c10] at H
      have c10b0 : (t188 == 0) = true := beq_iff_eq.mpr c10
      have c10b1 : (t188 != 0) = false := bne_eq_false_iff_eq.mpr c10
      clear c10
      (first | rw [c10b0] | (simp only [i64_w, i32_w]; rw [c10b0]) | skip)
      by_cases c11 : t187 = 0
      · rw [if_pos c11] at H
        have c11b0 : (t187 == 0) = true := beq_iff_eq.mpr c11
        have c11b1 : (t187 != 0) = false := bne_eq_false_iff_eq.mpr c11
        clear c11
        have H' := Aside0.mk H
        clear H
        have hnb12 := NB189_184.out
        have hnc12 := NB184_189.out
        have hcz13_0 : w7.cell? ⟨gb189, 0, none⟩ = some (.int .i64 0) := (blk_cell BK189.out 0).trans rfl
        have hcz13_1 : w7.cell? ⟨gb189, 1, none⟩ = some (.int .i64 0) := (blk_cell BK189.out 1).trans rfl
        have hcz13_2 : w7.cell? ⟨gb189, 2, none⟩ = some (.int .i64 0) := (blk_cell BK189.out 2).trans rfl
        have hcz13_3 : w7.cell? ⟨gb189, 3, none⟩ = some (.int .i64 0) := (blk_cell BK189.out 3).trans rfl
        have hfz13_0 := blk_frozen BK189.out 0
        have hfz13_1 := blk_frozen BK189.out 1
        have hfz13_2 := blk_frozen BK189.out 2
        have hfz13_3 := blk_frozen BK189.out 3
        go_wp2
        go_meet
        case rel => exact ⟨_, (decide (t186 < 2147483648)), (by first | rfl | (simp; done) | (simp [*]; done)), H', ⟨by first | omega | exact Nat.le_refl _⟩, ⟨by (with_reducible repeat first | apply bN_ | apply bD_ | apply bA_); refine blk_far ?_ NB184_189.out _; (with_reducible repeat first | apply bN_ | apply bD_ | apply bA_); refine blk_far ?_ NB184_189.out _; (with_reducible repeat first | apply bN_ | apply bD_ | apply bA_); refine blk_far ?_ NB184_189.out _; (with_reducible repeat first | apply bN_ | apply bD_ | apply bA_); refine blk_far ?_ NB184_189.out _; (with_reducible repeat first | apply bN_ | apply bD_ | apply bA_); exact BK184.out⟩, ⟨by (with_reducible repeat first | apply bN_ | apply bD_ | apply bA_); refine blk_put (cs := #[.int .i64 t185, .int .i64 t186, .int .i64 t187, .int .i64 0]) ?_ 3 _ rfl; (with_reducible repeat first | apply bN_ | apply bD_ | apply bA_); refine blk_put (cs := #[.int .i64 t185, .int .i64 t186, .int .i64 0, .int .i64 0]) ?_ 2 _ rfl; (with_reducible repeat first | apply bN_ | apply bD_ | apply bA_); refine blk_put (cs := #[.int .i64 t185, .int .i64 0, .int .i64 0, .int .i64 0]) ?_ 1 _ rfl; (with_reducible repeat first | apply bN_ | apply bD_ | apply bA_); refine blk_put (cs := #[.int .i64 0, .int .i64 0, .int .i64 0, .int .i64 0]) ?_ 0 _ rfl; (with_reducible repeat first | apply bN_ | apply bD_ | apply bA_); exact BK189.out⟩, ⟨by repeat (first | (with_reducible first | exact HB.out | apply below_alloc | apply pw_below_drewN | apply below_drew1 | refine below_set ?_ GE184.out | refine below_set ?_ GE189.out) | exact HB.out)⟩⟩
      · rw [if_neg c11] at H
        have c11b0 : (t187 == 0) = false := beq_eq_false_iff_ne.mpr c11
        have c11b1 : (t187 != 0) = true := bne_iff_ne.mpr c11
        have H' := Aside0.mk H
        clear H
        have hnb14 := NB189_184.out
        have hnc14 := NB184_189.out
        have hcz15_0 : w7.cell? ⟨gb189, 0, none⟩ = some (.int .i64 0) := (blk_cell BK189.out 0).trans rfl
        have hcz15_1 : w7.cell? ⟨gb189, 1, none⟩ = some (.int .i64 0) := (blk_cell BK189.out 1).trans rfl
        have hcz15_2 : w7.cell? ⟨gb189, 2, none⟩ = some (.int .i64 0) := (blk_cell BK189.out 2).trans rfl
        have hcz15_3 : w7.cell? ⟨gb189, 3, none⟩ = some (.int .i64 0) := (blk_cell BK189.out 3).trans rfl
        have hfz15_0 := blk_frozen BK189.out 0
        have hfz15_1 := blk_frozen BK189.out 1
        have hfz15_2 := blk_frozen BK189.out 2
        have hfz15_3 := blk_frozen BK189.out 3
        go_wp2
        go_meet
        case rel => exact ⟨_, (false), (by first | rfl | (simp; done) | (simp [*]; done)), H', ⟨by first | omega | exact Nat.le_refl _⟩, ⟨by (with_reducible repeat first | apply bN_ | apply bD_ | apply bA_); refine blk_far ?_ NB184_189.out _; (with_reducible repeat first | apply bN_ | apply bD_ | apply bA_); refine blk_far ?_ NB184_189.out _; (with_reducible repeat first | apply bN_ | apply bD_ | apply bA_); refine blk_far ?_ NB184_189.out _; (with_reducible repeat first | apply bN_ | apply bD_ | apply bA_); refine blk_far ?_ NB184_189.out _; (with_reducible repeat first | apply bN_ | apply bD_ | apply bA_); exact BK184.out⟩, ⟨by (with_reducible repeat first | apply bN_ | apply bD_ | apply bA_); refine blk_put (cs := #[.int .i64 t185, .int .i64 t186, .int .i64 t187, .int .i64 0]) ?_ 3 _ rfl; (with_reducible repeat first | apply bN_ | apply bD_ | apply bA_); refine blk_put (cs := #[.int .i64 t185, .int .i64 t186, .int .i64 0, .int .i64 0]) ?_ 2 _ rfl; (with_reducible repeat first | apply bN_ | apply bD_ | apply bA_); refine blk_put (cs := #[.int .i64 t185, .int .i64 0, .int .i64 0, .int .i64 0]) ?_ 1 _ rfl; (with_reducible repeat first | apply bN_ | apply bD_ | apply bA_); refine blk_put (cs := #[.int .i64 0, .int .i64 0, .int .i64 0, .int .i64 0]) ?_ 0 _ rfl; (with_reducible repeat first | apply bN_ | apply bD_ | apply bA_); exact BK189.out⟩, ⟨by repeat (first | (with_reducible first | exact HB.out | apply below_alloc | apply pw_below_drewN | apply below_drew1 | refine below_set ?_ GE184.out | refine below_set ?_ GE189.out) | exact HB.out)⟩⟩
    · rw [if_neg c10] at H
      have c10b0 : (t188 == 0) = false := beq_eq_false_iff_ne.mpr c10
      have c10b1 : (t188 != 0) = true := bne_iff_ne.mpr c10
      (first | rw [c10b0] | (simp only [i64_w, i32_w]; rw [c10b0]) | skip)
      have H' := Aside0.mk H
      clear H
      have hnb16 := NB189_184.out
      have hnc16 := NB184_189.out
      have hcz17_0 : w7.cell? ⟨gb189, 0, none⟩ = some (.int .i64 0) := (blk_cell BK189.out 0).trans rfl
      have hcz17_1 : w7.cell? ⟨gb189, 1, none⟩ = some (.int .i64 0) := (blk_cell BK189.out 1).trans rfl
      have hcz17_2 : w7.cell? ⟨gb189, 2, none⟩ = some (.int .i64 0) := (blk_cell BK189.out 2).trans rfl
      have hcz17_3 : w7.cell? ⟨gb189, 3, none⟩ = some (.int .i64 0) := (blk_cell BK189.out 3).trans rfl
      have hfz17_0 := blk_frozen BK189.out 0
      have hfz17_1 := blk_frozen BK189.out 1
      have hfz17_2 := blk_frozen BK189.out 2
      have hfz17_3 := blk_frozen BK189.out 3
      go_wp2
      go_meet
      case rel => exact ⟨_, (false), (by first | rfl | (simp; done) | (simp [*]; done)), H', ⟨by first | omega | exact Nat.le_refl _⟩, ⟨by (with_reducible repeat first | apply bN_ | apply bD_ | apply bA_); refine blk_far ?_ NB184_189.out _; (with_reducible repeat first | apply bN_ | apply bD_ | apply bA_); refine blk_far ?_ NB184_189.out _; (with_reducible repeat first | apply bN_ | apply bD_ | apply bA_); refine blk_far ?_ NB184_189.out _; (with_reducible repeat first | apply bN_ | apply bD_ | apply bA_); refine blk_far ?_ NB184_189.out _; (with_reducible repeat first | apply bN_ | apply bD_ | apply bA_); exact BK184.out⟩, ⟨by (with_reducible repeat first | apply bN_ | apply bD_ | apply bA_); refine blk_put (cs := #[.int .i64 t185, .int .i64 t186, .int .i64 t187, .int .i64 0]) ?_ 3 _ rfl; (with_reducible repeat first | apply bN_ | apply bD_ | apply bA_); refine blk_put (cs := #[.int .i64 t185, .int .i64 t186, .int .i64 0, .int .i64 0]) ?_ 2 _ rfl; (with_reducible repeat first | apply bN_ | apply bD_ | apply bA_); refine blk_put (cs := #[.int .i64 t185, .int .i64 0, .int .i64 0, .int .i64 0]) ?_ 1 _ rfl; (with_reducible repeat first | apply bN_ | apply bD_ | apply bA_); refine blk_put (cs := #[.int .i64 0, .int .i64 0, .int .i64 0, .int .i64 0]) ?_ 0 _ rfl; (with_reducible repeat first | apply bN_ | apply bD_ | apply bA_); exact BK189.out⟩, ⟨by repeat (first | (with_reducible first | exact HB.out | apply below_alloc | apply pw_below_drewN | apply below_drew1 | refine below_set ?_ GE184.out | refine below_set ?_ GE189.out) | exact HB.out)⟩⟩
  case rest =>
    clear HC3
    try clear c1
    try clear c2
    try clear p2
    try clear c8
    try clear c10
    try clear c10b0
    try clear c10b1
    try clear c11
    try clear c11b0
    try clear c11b1
    try clear c12
    try clear c14
    try clear c15
    try clear c16
    try clear hcz13_0
    try clear hcz13_1
    try clear hcz13_2
    try clear hcz13_3
    try clear hcz15_0
    try clear hcz15_1
    try clear hcz15_2
    try clear hcz15_3
    try clear hcz17_0
    try clear hcz17_1
    try clear hcz17_2
    try clear hcz17_3
    try clear hcz5_0
    try clear hcz5_1
    try clear hcz9_0
    try clear hcz9_1
    try clear hcz9_2
    try clear hcz9_3
    try clear hfz13_0
    try clear hfz13_1
    try clear hfz13_2
    try clear hfz13_3
    try clear hfz15_0
    try clear hfz15_1
    try clear hfz15_2
    try clear hfz15_3
    try clear hfz17_0
    try clear hfz17_1
    try clear hfz17_2
    try clear hfz17_3
    try clear hfz5_0
    try clear hfz5_1
    try clear hfz9_0
    try clear hfz9_1
    try clear hfz9_2
    try clear hfz9_3
    obtain ⟨kq, x19_2, rfl, HA, HJ2, BK184, BK189, HB⟩ := hcut
    cases kq with
    | zero => exact absurd HA.out (by simp [corollaryref02_Int.j0])
    | succ kj2 =>
      have H := HA.out
      clear HA
      simp only [corollaryref02_Int.j0] at H
      by_cases c18 : x19_2 = true
      · subst c18
        have H1 : (some (wrap64 ((wrap64 (t186 * 4294967296)) + t185), true)) = some (r1, r2) := by rw [if_pos rfl] at H; exact H
        clear H
        have H := H1
        clear H1
        simp only [Option.some.injEq, Prod.mk.injEq] at H
        obtain ⟨rfl, rfl⟩ := H
        have hnb19 := NB189_184.out
        have hnc19 := NB184_189.out
        have hcz20_0 : wc.cell? ⟨gb189, 0, none⟩ = some (.int .i64 t185) := (blk_cell BK189.out 0).trans rfl
        have hcz20_1 : wc.cell? ⟨gb189, 1, none⟩ = some (.int .i64 t186) := (blk_cell BK189.out 1).trans rfl
        have hcz20_2 : wc.cell? ⟨gb189, 2, none⟩ = some (.int .i64 t187) := (blk_cell BK189.out 2).trans rfl
        have hcz20_3 : wc.cell? ⟨gb189, 3, none⟩ = some (.int .i64 t188) := (blk_cell BK189.out 3).trans rfl
        have hfz20_0 := blk_frozen BK189.out 0
        have hfz20_1 := blk_frozen BK189.out 1
        have hfz20_2 := blk_frozen BK189.out 2
        have hfz20_3 := blk_frozen BK189.out 3
        go_wp2
        go_ret2
        exact ⟨by first | rfl | (simp [errW_none, errW_some] <;> rfl) | (simp [*, errW_none, errW_some] <;> rfl), by repeat (first | (with_reducible first | exact HB.out | apply below_alloc | apply pw_below_drewN | apply below_drew1 | refine below_set ?_ GE184.out | refine below_set ?_ GE189.out) | exact HB.out)⟩
      · replace c18 := Bool.eq_false_iff.mpr c18
        subst c18
        have H1 : (if t188 = (-1) then (if t187 = 4294967295 then (if t186 ≥ 2147483648 then (some (wrap64 ((wrap64 ((wrap64 (t186 - 4294967296)) * 4294967296)) + t185), true)) else (some (0, false))) else (some (0, false))) else (some (0, false))) = some (r1, r2) := by rw [if_neg (show ¬ (false = true) by decide)] at H; exact H
        clear H
        have H := H1
        clear H1
        by_cases c21 : t188 = (-1)
        · rw [if_pos c21] at H
          have c21b0 : (t188 == (-1)) = true := beq_iff_eq.mpr c21
          have c21b1 : (t188 != (-1)) = false := bne_eq_false_iff_eq.mpr c21
          clear c21
          by_cases c22 : t187 = 4294967295
          · rw [if_pos c22] at H
            have c22b0 : (t187 == 4294967295) = true := beq_iff_eq.mpr c22
            have c22b1 : (t187 != 4294967295) = false := bne_eq_false_iff_eq.mpr c22
            clear c22
            by_cases c23 : t186 ≥ 2147483648
            · rw [if_pos c23] at H
              have c23b0 : decide (2147483648 ≤ t186) = true := decide_eq_true c23
              clear c23
              simp only [Option.some.injEq, Prod.mk.injEq] at H
              obtain ⟨rfl, rfl⟩ := H
              have hnb24 := NB189_184.out
              have hnc24 := NB184_189.out
              have hcz25_0 : wc.cell? ⟨gb189, 0, none⟩ = some (.int .i64 t185) := (blk_cell BK189.out 0).trans rfl
              have hcz25_1 : wc.cell? ⟨gb189, 1, none⟩ = some (.int .i64 t186) := (blk_cell BK189.out 1).trans rfl
              have hcz25_2 : wc.cell? ⟨gb189, 2, none⟩ = some (.int .i64 t187) := (blk_cell BK189.out 2).trans rfl
              have hcz25_3 : wc.cell? ⟨gb189, 3, none⟩ = some (.int .i64 t188) := (blk_cell BK189.out 3).trans rfl
              have hfz25_0 := blk_frozen BK189.out 0
              have hfz25_1 := blk_frozen BK189.out 1
              have hfz25_2 := blk_frozen BK189.out 2
              have hfz25_3 := blk_frozen BK189.out 3
              go_wp2
              go_ret2
              exact ⟨by first | rfl | (simp [errW_none, errW_some] <;> rfl) | (simp [*, errW_none, errW_some] <;> rfl), by repeat (first | (with_reducible first | exact HB.out | apply below_alloc | apply pw_below_drewN | apply below_drew1 | refine below_set ?_ GE184.out | refine below_set ?_ GE189.out) | exact HB.out)⟩
            · rw [if_neg c23] at H
              have c23b0 : decide (2147483648 ≤ t186) = false := decide_eq_false c23
              clear c23
              simp only [Option.some.injEq, Prod.mk.injEq] at H
              obtain ⟨rfl, rfl⟩ := H
              have hnb26 := NB189_184.out
              have hnc26 := NB184_189.out
              have hcz27_0 : wc.cell? ⟨gb189, 0, none⟩ = some (.int .i64 t185) := (blk_cell BK189.out 0).trans rfl
              have hcz27_1 : wc.cell? ⟨gb189, 1, none⟩ = some (.int .i64 t186) := (blk_cell BK189.out 1).trans rfl
              have hcz27_2 : wc.cell? ⟨gb189, 2, none⟩ = some (.int .i64 t187) := (blk_cell BK189.out 2).trans rfl
              have hcz27_3 : wc.cell? ⟨gb189, 3, none⟩ = some (.int .i64 t188) := (blk_cell BK189.out 3).trans rfl
              have hfz27_0 := blk_frozen BK189.out 0
              have hfz27_1 := blk_frozen BK189.out 1
              have hfz27_2 := blk_frozen BK189.out 2
              have hfz27_3 := blk_frozen BK189.out 3
              go_wp2
              go_ret2
              exact ⟨by first | rfl | (simp [errW_none, errW_some] <;> rfl) | (simp [*, errW_none, errW_some] <;> rfl), by repeat (first | (with_reducible first | exact HB.out | apply below_alloc | apply pw_below_drewN | apply below_drew1 | refine below_set ?_ GE184.out | refine below_set ?_ GE189.out) | exact HB.out)⟩
          · rw [if_neg c22] at H
            have c22b0 : (t187 == 4294967295) = false := beq_eq_false_iff_ne.mpr c22
            have c22b1 : (t187 != 4294967295) = true := bne_iff_ne.mpr c22
            simp only [Option.some.injEq, Prod.mk.injEq] at H
            obtain ⟨rfl, rfl⟩ := H
            have hnb28 := NB189_184.out
            have hnc28 := NB184_189.out
            have hcz29_0 : wc.cell? ⟨gb189, 0, none⟩ = some (.int .i64 t185) := (blk_cell BK189.out 0).trans rfl
            have hcz29_1 : wc.cell? ⟨gb189, 1, none⟩ = some (.int .i64 t186) := (blk_cell BK189.out 1).trans rfl
            have hcz29_2 : wc.cell? ⟨gb189, 2, none⟩ = some (.int .i64 t187) := (blk_cell BK189.out 2).trans rfl
            have hcz29_3 : wc.cell? ⟨gb189, 3, none⟩ = some (.int .i64 t188) := (blk_cell BK189.out 3).trans rfl
            have hfz29_0 := blk_frozen BK189.out 0
            have hfz29_1 := blk_frozen BK189.out 1
            have hfz29_2 := blk_frozen BK189.out 2
            have hfz29_3 := blk_frozen BK189.out 3
            go_wp2
            go_ret2
            exact ⟨by first | rfl | (simp [errW_none, errW_some] <;> rfl) | (simp [*, errW_none, errW_some] <;> rfl), by repeat (first | (with_reducible first | exact HB.out | apply below_alloc | apply pw_below_drewN | apply below_drew1 | refine below_set ?_ GE184.out | refine below_set ?_ GE189.out) | exact HB.out)⟩
        · rw [if_neg c21] at H
          have c21b0 : (t188 == (-1)) = false := beq_eq_false_iff_ne.mpr c21
          have c21b1 : (t188 != (-1)) = true := bne_iff_ne.mpr c21
          simp only [Option.some.injEq, Prod.mk.injEq] at H
          obtain ⟨rfl, rfl⟩ := H
          have hnb30 := NB189_184.out
          have hnc30 := NB184_189.out
          have hcz31_0 : wc.cell? ⟨gb189, 0, none⟩ = some (.int .i64 t185) := (blk_cell BK189.out 0).trans rfl
          have hcz31_1 : wc.cell? ⟨gb189, 1, none⟩ = some (.int .i64 t186) := (blk_cell BK189.out 1).trans rfl
          have hcz31_2 : wc.cell? ⟨gb189, 2, none⟩ = some (.int .i64 t187) := (blk_cell BK189.out 2).trans rfl
          have hcz31_3 : wc.cell? ⟨gb189, 3, none⟩ = some (.int .i64 t188) := (blk_cell BK189.out 3).trans rfl
          have hfz31_0 := blk_frozen BK189.out 0
          have hfz31_1 := blk_frozen BK189.out 1
          have hfz31_2 := blk_frozen BK189.out 2
          have hfz31_3 := blk_frozen BK189.out 3
          go_wp2
          go_ret2
          exact ⟨by first | rfl | (simp [errW_none, errW_some] <;> rfl) | (simp [*, errW_none, errW_some] <;> rfl), by repeat (first | (with_reducible first | exact HB.out | apply below_alloc | apply pw_below_drewN | apply below_drew1 | refine below_set ?_ GE184.out | refine below_set ?_ GE189.out) | exact HB.out)⟩

end Go.Proofs.Ytipcggfabjfobaa.P
