-- Written by our own program (wip/xprint) over the seat's translation. Lean checks it.
import Derived.Test.YtipcggfabjfobaaPx0
import Derived.Test.YtipcggfabjfobaaPx9
import Derived.Test.YtipcggfabjfobaaPx10
namespace Go.Proofs.Ytipcggfabjfobaa.P
open Go.RowKit Go.Proofs.YtipcggfabjfobaaW.PrintWords Go.Proofs.YtipcggfabjfobaaW.PrintLast Go.Proofs.YtipcggfabjfobaaW.PrintMore
attribute [local go_sem] max2_int min2_int max_two min_two max_three min_three max_four min_four   -- for this text's walks alone
set_option linter.unusedVariables false
set_option linter.unusedSimpArgs false

/-! ### corollaryref02_Neg: function 19 -/
def corollaryref02_Neg.l0 : Nat → Int → Int → Int → Int → Int → Option (Int × Int × Bool)
  | 0, _, _, _, _, _ => none
  | k + 1, x5, x215000, x215001, x215002, x215003 => if x5 < 4 then (if x5 = 0 then (corollaryref02_Neg.l0 k 1 (wrap64 (-x215000)) x215001 x215002 x215003) else (if x5 = 1 then (corollaryref02_Neg.l0 k 2 x215000 (wrap64 (-x215001)) x215002 x215003) else (if x5 = 2 then (corollaryref02_Neg.l0 k 3 x215000 x215001 (wrap64 (-x215002)) x215003) else (if x5 = 3 then (corollaryref02_Neg.l0 k 4 x215000 x215001 x215002 (wrap64 (-x215003))) else (none))))) else ((corollaryref02_Back.f k x215000 x215001 x215002 x215003).bind fun bt215 => (some (bt215.1, bt215.2.1, bt215.2.2)))
def corollaryref02_Neg.f (k : Nat) (a0_0 : Int) (a0_1 : Int) : Option (Int × Int × Bool) := (corollaryref02_Four.f a0_0 a0_1).bind fun bt210 => (corollaryref02_Neg.l0 k 0 bt210.1 bt210.2.1 bt210.2.2.1 bt210.2.2.2)
theorem corollaryref02_Neg.mono_l : ∀ k, (∀ y0 y1 y2 y3 y4, LeO (corollaryref02_Neg.l0 k y0 y1 y2 y3 y4) (corollaryref02_Neg.l0 (k + 1) y0 y1 y2 y3 y4))
  | 0 => fun _ _ _ _ _ r h => by simp [corollaryref02_Neg.l0] at h
  | k + 1 => by
    have ih0 := corollaryref02_Neg.mono_l k
    · intro y0 y1 y2 y3 y4
      unfold corollaryref02_Neg.l0
      repeat' first
      | (with_reducible exact ih0 _ _ _ _ _)
      | (with_reducible exact corollaryref02_Back.mono _ _ _ _ _)
      | (with_reducible exact LeO.refl _)
      | (with_reducible exact LeO.none _)
      | (with_reducible refine LeO.ite ?_ ?_)
      | (with_reducible refine LeO.bind ?_ (fun _ => ?_))
      | exact ih0 _ _ _ _ _
      | exact corollaryref02_Back.mono _ _ _ _ _
      | exact LeO.none _
      | refine LeO.ite ?_ ?_
      | refine LeO.bind ?_ (fun _ => ?_)
theorem corollaryref02_Neg.mono : ∀ a0 a1 k, LeO (corollaryref02_Neg.f k a0 a1) (corollaryref02_Neg.f (k + 1) a0 a1) := by
  intro a0 a1 k
  have ih0 := corollaryref02_Neg.mono_l k
  unfold corollaryref02_Neg.f
  repeat' first
      | (with_reducible exact ih0 _ _ _ _ _)
      | (with_reducible exact corollaryref02_Back.mono _ _ _ _ _)
      | (with_reducible exact LeO.refl _)
      | (with_reducible exact LeO.none _)
      | (with_reducible refine LeO.ite ?_ ?_)
      | (with_reducible refine LeO.bind ?_ (fun _ => ?_))
      | exact ih0 _ _ _ _ _
      | exact corollaryref02_Back.mono _ _ _ _ _
      | exact LeO.none _
      | refine LeO.ite ?_ ?_
      | refine LeO.bind ?_ (fun _ => ?_)
set_option maxHeartbeats 8000000 in
set_option maxRecDepth 100000 in
theorem corollaryref02_Neg.calls (k : Nat) (a0_0 : Int) (a0_1 : Int) (r1 : Int) (r2 : Int) (r3 : Bool) (w : World) (h : corollaryref02_Neg.f k a0_0 a0_1 = some (r1, r2, r3)) :
    Calls Try.prog 19 #[.agg #[.int .i64 a0_0, .int .u64 a0_1]] w fun e w' => e = .returned (.tuple #[.agg #[.int .i64 r1, .int .u64 r2], .bool r3]) ∧ Below w.heap.size w w' := by
  have hu26 := Try.underlying26
  have hu46 := Try.underlying46
  have HB := Aside0.mk (Below.refl w.heap.size w)
  have H : ((corollaryref02_Four.f a0_0 a0_1).bind fun bt210 => (corollaryref02_Neg.l0 k 0 bt210.1 bt210.2.1 bt210.2.2.1 bt210.2.2.2)) = some (r1, r2, r3) := h
  clear h
  replace H := Option.bind_eq_some_iff.mp H
  obtain ⟨⟨t210, t211, t212, t213⟩, A20, H⟩ := H
  replace H : (corollaryref02_Neg.l0 k 0 t210 t211 t212 t213) = some (r1, r2, r3) := H
  have A2 := Aside0.mk A20
  clear A20
  have H' := Aside0.mk H
  clear H
  go_enter Try.func19, Try.ntmps19
  go_wp2_with (first | ((with_reducible refine gate_dst (N := 1) rfl ?_); refine box_event ?hg (N := 1) ?hd (cs := #[.int .i64 a0_0, .int .u64 a0_1]) (t := 26) ?hr ?_; (case hd => rfl); (case hg => rfl); (case hr => first | (go_simp; done) | (go_simp; rfl)); intro gb208 hg w3 hbox hb; have n0_ := Aside0.mk (below_step (by repeat (first | (with_reducible first | exact HB.out | apply below_alloc | apply pw_below_drewN | apply below_drew1) | exact HB.out)) hb); have n1_ := Aside0.mk (hbox); have n2_ := Aside0.mk ((by rw [hg]; exact (below_size (by repeat (first | (with_reducible first | exact HB.out | apply below_alloc | apply pw_below_drewN | apply below_drew1) | exact HB.out))) : w.heap.size ≤ gb208)); have n3_ := Aside0.mk ((by rw [hg]; exact (below_size (by repeat (first | (with_reducible first | exact HB.out | apply below_alloc | apply pw_below_drewN | apply below_drew1) | exact HB.out))) : w.heap.size ≤ gb208)); clear HB; have HB := n0_; have BK208 := n1_; have GW208 := n2_; have GE208 := n3_; clear n0_ n1_ n2_ n3_; clear hb hbox hg) | ((with_reducible refine gate_dst (N := 2) rfl ?_); refine box_event ?hg (N := 2) ?hd (cs := #[.int .i64 0, .int .u64 0]) (t := 26) ?hr ?_; (case hd => rfl); (case hg => rfl); (case hr => first | (go_simp; done) | (go_simp; rfl)); intro gb209 hg w4 hbox hb; have n0_ := Aside0.mk (blk_below (g := gb208) (o := .cells #[.int .i64 a0_0, .int .u64 a0_1] 26 (0, 0)) (by (with_reducible repeat first | apply bN_ | apply bD_ | apply bA_); exact BK208.out) hb); have n1_ := Aside0.mk (below_step (by repeat (first | (with_reducible first | exact HB.out | apply below_alloc | apply pw_below_drewN | apply below_drew1 | refine below_set ?_ GE208.out) | exact HB.out)) hb); have n2_ := Aside0.mk (hbox); have n3_ := Aside0.mk ((by rw [hg]; exact (below_size (by repeat (first | (with_reducible first | exact HB.out | apply below_alloc | apply pw_below_drewN | apply below_drew1 | refine below_set ?_ GE208.out) | exact HB.out))) : w.heap.size ≤ gb209)); have n4_ := Aside0.mk ((by rw [hg]; exact (below_size (by repeat (first | (with_reducible first | exact HB.out | apply below_alloc | apply pw_below_drewN | apply below_drew1 | refine below_set ?_ GE208.out) | exact HB.out))) : w.heap.size ≤ gb209)); have n5_ := Aside0.mk ((by rw [hg]; exact Nat.ne_of_lt (blk_lt (g := gb208) (o := .cells #[.int .i64 a0_0, .int .u64 a0_1] 26 (0, 0)) (by (with_reducible repeat first | apply bN_ | apply bD_ | apply bA_); exact BK208.out)) : gb208 ≠ gb209)); have n6_ := Aside0.mk ((by rw [hg]; exact Nat.ne_of_gt (blk_lt (g := gb208) (o := .cells #[.int .i64 a0_0, .int .u64 a0_1] 26 (0, 0)) (by (with_reducible repeat first | apply bN_ | apply bD_ | apply bA_); exact BK208.out)) : gb209 ≠ gb208)); clear BK208; clear HB; have BK208 := n0_; have HB := n1_; have BK209 := n2_; have GW209 := n3_; have GE209 := n4_; have NB208_209 := n5_; have NB209_208 := n6_; clear n0_ n1_ n2_ n3_ n4_ n5_ n6_; clear hb hbox hg; have hnb5 := NB208_209.out; have hnc5 := NB209_208.out; have hcz6_0 : w4.cell? ⟨gb208, 0, none⟩ = some (.int .i64 a0_0) := (blk_cell BK208.out 0).trans rfl; have hcz6_1 : w4.cell? ⟨gb208, 1, none⟩ = some (.int .u64 a0_1) := (blk_cell BK208.out 1).trans rfl; have hfz6_0 := blk_frozen BK208.out 0; have hfz6_1 := blk_frozen BK208.out 1) | ((with_reducible refine gate_callee (f := 22) rfl ?_); refine goesL_ (some 7) rfl rfl Try.func22 (by kernel_rfl) rfl #[.agg #[.int .i64 a0_0, .int .u64 a0_1]] rfl (by (try simp only [List.map_toArray, List.map_cons, List.map_nil]); first | done | rfl | (simp only [List.length_drop, List.length_take]; rfl)) ?_; (with_reducible refine (corollaryref02_Four.calls a0_0 a0_1 t210 t211 t212 t213 _ A2.out).mono ?_); rintro e w7 ⟨rfl, hb⟩; refine ⟨_, rfl, ?_⟩; have n0_ := Aside0.mk (blk_below (g := gb208) (o := .cells #[.int .i64 a0_0, .int .u64 a0_1] 26 (0, 0)) (by (with_reducible repeat first | apply bN_ | apply bD_ | apply bA_); exact BK208.out) hb); have n1_ := Aside0.mk (blk_below (g := gb209) (o := .cells #[.int .i64 0, .int .u64 0] 26 (0, 0)) (by (with_reducible repeat first | apply bN_ | apply bD_ | apply bA_); exact BK209.out) hb); have n2_ := Aside0.mk (below_step (by repeat (first | (with_reducible first | exact HB.out | apply below_alloc | apply pw_below_drewN | apply below_drew1 | refine below_set ?_ GE208.out | refine below_set ?_ GE209.out) | exact HB.out)) hb); clear BK208; clear BK209; clear HB; have BK208 := n0_; have BK209 := n1_; have HB := n2_; clear n0_ n1_ n2_; (try clear hb); (try clear hb2); (try clear hk); (try clear hi)) | ((with_reducible refine gate_dst (N := 4) rfl ?_); refine box_event ?hg (N := 4) ?hd (cs := #[.int .i64 0, .int .i64 0, .int .i64 0, .int .i64 0]) (t := 46) ?hr ?_; (case hd => rfl); (case hg => rfl); (case hr => first | (go_simp; done) | (go_simp; rfl)); intro gb214 hg w8 hbox hb; have n0_ := Aside0.mk (blk_below (g := gb208) (o := .cells #[.int .i64 a0_0, .int .u64 a0_1] 26 (0, 0)) (by (with_reducible repeat first | apply bN_ | apply bD_ | apply bA_); exact BK208.out) hb); have n1_ := Aside0.mk (blk_below (g := gb209) (o := .cells #[.int .i64 0, .int .u64 0] 26 (0, 0)) (by (with_reducible repeat first | apply bN_ | apply bD_ | apply bA_); exact BK209.out) hb); have n2_ := Aside0.mk (below_step (by repeat (first | (with_reducible first | exact HB.out | apply below_alloc | apply pw_below_drewN | apply below_drew1 | refine below_set ?_ GE208.out | refine below_set ?_ GE209.out) | exact HB.out)) hb); have n3_ := Aside0.mk (hbox); have n4_ := Aside0.mk ((by rw [hg]; exact (below_size (by repeat (first | (with_reducible first | exact HB.out | apply below_alloc | apply pw_below_drewN | apply below_drew1 | refine below_set ?_ GE208.out | refine below_set ?_ GE209.out) | exact HB.out))) : w.heap.size ≤ gb214)); have n5_ := Aside0.mk ((by rw [hg]; exact (below_size (by repeat (first | (with_reducible first | exact HB.out | apply below_alloc | apply pw_below_drewN | apply below_drew1 | refine below_set ?_ GE208.out | refine below_set ?_ GE209.out) | exact HB.out))) : w.heap.size ≤ gb214)); have n6_ := Aside0.mk ((by rw [hg]; exact Nat.ne_of_lt (blk_lt (g := gb208) (o := .cells #[.int .i64 a0_0, .int .u64 a0_1] 26 (0, 0)) (by (with_reducible repeat first | apply bN_ | apply bD_ | apply bA_); exact BK208.out)) : gb208 ≠ gb214)); have n7_ := Aside0.mk ((by rw [hg]; exact Nat.ne_of_gt (blk_lt (g := gb208) (o := .cells #[.int .i64 a0_0, .int .u64 a0_1] 26 (0, 0)) (by (with_reducible repeat first | apply bN_ | apply bD_ | apply bA_); exact BK208.out)) : gb214 ≠ gb208)); have n8_ := Aside0.mk ((by rw [hg]; exact Nat.ne_of_lt (blk_lt (g := gb209) (o := .cells #[.int .i64 0, .int .u64 0] 26 (0, 0)) (by (with_reducible repeat first | apply bN_ | apply bD_ | apply bA_); exact BK209.out)) : gb209 ≠ gb214)); have n9_ := Aside0.mk ((by rw [hg]; exact Nat.ne_of_gt (blk_lt (g := gb209) (o := .cells #[.int .i64 0, .int .u64 0] 26 (0, 0)) (by (with_reducible repeat first | apply bN_ | apply bD_ | apply bA_); exact BK209.out)) : gb214 ≠ gb209)); clear BK208; clear BK209; clear HB; have BK208 := n0_; have BK209 := n1_; have HB := n2_; have BK214 := n3_; have GW214 := n4_; have GE214 := n5_; have NB208_214 := n6_; have NB214_208 := n7_; have NB209_214 := n8_; have NB214_209 := n9_; clear n0_ n1_ n2_ n3_ n4_ n5_ n6_ n7_ n8_ n9_; clear hb hbox hg; have hnb9 := NB214_208.out; have hnc9 := NB208_214.out; have hnb10 := NB214_209.out; have hnc10 := NB209_214.out; have hcz11_0 : w8.cell? ⟨gb214, 0, none⟩ = some (.int .i64 0) := (blk_cell BK214.out 0).trans rfl; have hcz11_1 : w8.cell? ⟨gb214, 1, none⟩ = some (.int .i64 0) := (blk_cell BK214.out 1).trans rfl; have hcz11_2 : w8.cell? ⟨gb214, 2, none⟩ = some (.int .i64 0) := (blk_cell BK214.out 2).trans rfl; have hcz11_3 : w8.cell? ⟨gb214, 3, none⟩ = some (.int .i64 0) := (blk_cell BK214.out 3).trans rfl; have hfz11_0 := blk_frozen BK214.out 0; have hfz11_1 := blk_frozen BK214.out 1; have hfz11_2 := blk_frozen BK214.out 2; have hfz11_3 := blk_frozen BK214.out 3))
  go_loopg [5] k (fun kq v5 w' => ∃ (x5_1 : Int) (x215000_1 : Int) (x215001_1 : Int) (x215002_1 : Int) (x215003_1 : Int), v5 = .int .i64 x5_1 ∧ Aside0 (corollaryref02_Neg.l0 kq x5_1 x215000_1 x215001_1 x215002_1 x215003_1 = some (r1, r2, r3)) ∧ Aside0 (kq ≤ k) ∧ Aside0 (w'.heap[gb208]? = some (.cells #[.int .i64 a0_0, .int .u64 a0_1] 26 (0, 0))) ∧ Aside0 (w'.heap[gb209]? = some (.cells #[.int .i64 0, .int .u64 0] 26 (0, 0))) ∧ Aside0 (w'.heap[gb214]? = some (.cells #[.int .i64 x215000_1, .int .i64 x215001_1, .int .i64 x215002_1, .int .i64 x215003_1] 46 (0, 0))) ∧ Aside0 (Below w.heap.size w w'))
  case atStart => exact ⟨(0), (t210), (t211), (t212), (t213), (by first | rfl | (simp; done) | (simp [*]; done)), H', ⟨Nat.le_refl _⟩, ⟨by (with_reducible repeat first | apply bN_ | apply bD_ | apply bA_); refine blk_far ?_ NB208_214.out _; (with_reducible repeat first | apply bN_ | apply bD_ | apply bA_); refine blk_far ?_ NB208_214.out _; (with_reducible repeat first | apply bN_ | apply bD_ | apply bA_); refine blk_far ?_ NB208_214.out _; (with_reducible repeat first | apply bN_ | apply bD_ | apply bA_); refine blk_far ?_ NB208_214.out _; (with_reducible repeat first | apply bN_ | apply bD_ | apply bA_); exact BK208.out⟩, ⟨by (with_reducible repeat first | apply bN_ | apply bD_ | apply bA_); refine blk_far ?_ NB209_214.out _; (with_reducible repeat first | apply bN_ | apply bD_ | apply bA_); refine blk_far ?_ NB209_214.out _; (with_reducible repeat first | apply bN_ | apply bD_ | apply bA_); refine blk_far ?_ NB209_214.out _; (with_reducible repeat first | apply bN_ | apply bD_ | apply bA_); refine blk_far ?_ NB209_214.out _; (with_reducible repeat first | apply bN_ | apply bD_ | apply bA_); exact BK209.out⟩, ⟨by (with_reducible repeat first | apply bN_ | apply bD_ | apply bA_); refine blk_put (cs := #[.int .i64 t210, .int .i64 t211, .int .i64 t212, .int .i64 0]) ?_ 3 _ rfl; (with_reducible repeat first | apply bN_ | apply bD_ | apply bA_); refine blk_put (cs := #[.int .i64 t210, .int .i64 t211, .int .i64 0, .int .i64 0]) ?_ 2 _ rfl; (with_reducible repeat first | apply bN_ | apply bD_ | apply bA_); refine blk_put (cs := #[.int .i64 t210, .int .i64 0, .int .i64 0, .int .i64 0]) ?_ 1 _ rfl; (with_reducible repeat first | apply bN_ | apply bD_ | apply bA_); refine blk_put (cs := #[.int .i64 0, .int .i64 0, .int .i64 0, .int .i64 0]) ?_ 0 _ rfl; (with_reducible repeat first | apply bN_ | apply bD_ | apply bA_); exact BK214.out⟩, ⟨by repeat (first | (with_reducible first | exact HB.out | apply below_alloc | apply pw_below_drewN | apply below_drew1 | refine below_set ?_ GE208.out | refine below_set ?_ GE209.out | refine below_set ?_ GE214.out) | exact HB.out)⟩⟩
  case round =>
    clear H'
    try clear c1
    try clear c2
    try clear p2
    try clear c5
    try clear c9
    try clear c10
    try clear hcz11_0
    try clear hcz11_1
    try clear hcz11_2
    try clear hcz11_3
    try clear hcz6_0
    try clear hcz6_1
    try clear hfz11_0
    try clear hfz11_1
    try clear hfz11_2
    try clear hfz11_3
    try clear hfz6_0
    try clear hfz6_1
    obtain ⟨x5_1, x215000_1, x215001_1, x215002_1, x215003_1, rfl, HA, HK1, BK208, BK209, BK214, HB⟩ := hrel
    cases gk with
    | zero => exact absurd HA.out (by simp [corollaryref02_Neg.l0])
    | succ k1 =>
      have H := HA.out
      clear HA
      simp only [corollaryref02_Neg.l0] at H
      by_cases c12 : x5_1 < 4
      · rw [if_pos c12] at H
        have c12b0 : decide (x5_1 < 4) = true := decide_eq_true c12
        clear c12
        by_cases c13 : x5_1 = 0
        · rw [if_pos c13] at H
          subst c13
          have wlc13_0 : wrap64 (-1) = (-1) := by (unfold wrap64; omega)
          have wlc13_1 : wrap64 0 = 0 := by (unfold wrap64; omega)
          have wlc13_2 : wrap64 1 = 1 := by (unfold wrap64; omega)
          have wlc13_3 : wrap64 2 = 2 := by (unfold wrap64; omega)
          have H' := Aside0.mk H
          clear H
          have hnb14 := NB214_208.out
          have hnc14 := NB208_214.out
          have hnb15 := NB214_209.out
          have hnc15 := NB209_214.out
          have hcz16_0 : wr.cell? ⟨gb214, 0, none⟩ = some (.int .i64 x215000_1) := (blk_cell BK214.out 0).trans rfl
          have hcz16_1 : wr.cell? ⟨gb214, 1, none⟩ = some (.int .i64 x215001_1) := (blk_cell BK214.out 1).trans rfl
          have hcz16_2 : wr.cell? ⟨gb214, 2, none⟩ = some (.int .i64 x215002_1) := (blk_cell BK214.out 2).trans rfl
          have hcz16_3 : wr.cell? ⟨gb214, 3, none⟩ = some (.int .i64 x215003_1) := (blk_cell BK214.out 3).trans rfl
          have hfz16_0 := blk_frozen BK214.out 0
          have hfz16_1 := blk_frozen BK214.out 1
          have hfz16_2 := blk_frozen BK214.out 2
          have hfz16_3 := blk_frozen BK214.out 3
          go_wp2
          go_roundg k1
          case measure => have := HK1.out; omega
          case rel => exact ⟨(1), (wrap64 (-x215000_1)), (x215001_1), (x215002_1), (x215003_1), (by first | rfl | (simp; done) | (simp [*]; done)), H', ⟨by have := HK1.out; omega⟩, ⟨by (with_reducible repeat first | apply bN_ | apply bD_ | apply bA_); refine blk_far ?_ NB208_214.out _; (with_reducible repeat first | apply bN_ | apply bD_ | apply bA_); exact BK208.out⟩, ⟨by (with_reducible repeat first | apply bN_ | apply bD_ | apply bA_); refine blk_far ?_ NB209_214.out _; (with_reducible repeat first | apply bN_ | apply bD_ | apply bA_); exact BK209.out⟩, ⟨by (with_reducible repeat first | apply bN_ | apply bD_ | apply bA_); refine blk_put (cs := #[.int .i64 x215000_1, .int .i64 x215001_1, .int .i64 x215002_1, .int .i64 x215003_1]) ?_ 0 _ rfl; (with_reducible repeat first | apply bN_ | apply bD_ | apply bA_); exact BK214.out⟩, ⟨by repeat (first | (with_reducible first | exact HB.out | apply below_alloc | apply pw_below_drewN | apply below_drew1 | refine below_set ?_ GE208.out | refine below_set ?_ GE209.out | refine below_set ?_ GE214.out) | exact HB.out)⟩⟩
        · rw [if_neg c13] at H
          clear c13
          by_cases c17 : x5_1 = 1
          · rw [if_pos c17] at H
            subst c17
            have wlc17_0 : wrap64 (-1) = (-1) := by (unfold wrap64; omega)
            have wlc17_1 : wrap64 0 = 0 := by (unfold wrap64; omega)
            have wlc17_2 : wrap64 1 = 1 := by (unfold wrap64; omega)
            have wlc17_3 : wrap64 2 = 2 := by (unfold wrap64; omega)
            have wlc17_4 : wrap64 3 = 3 := by (unfold wrap64; omega)
            have H' := Aside0.mk H
            clear H
            have hnb18 := NB214_208.out
            have hnc18 := NB208_214.out
            have hnb19 := NB214_209.out
            have hnc19 := NB209_214.out
            have hcz20_0 : wr.cell? ⟨gb214, 0, none⟩ = some (.int .i64 x215000_1) := (blk_cell BK214.out 0).trans rfl
            have hcz20_1 : wr.cell? ⟨gb214, 1, none⟩ = some (.int .i64 x215001_1) := (blk_cell BK214.out 1).trans rfl
            have hcz20_2 : wr.cell? ⟨gb214, 2, none⟩ = some (.int .i64 x215002_1) := (blk_cell BK214.out 2).trans rfl
            have hcz20_3 : wr.cell? ⟨gb214, 3, none⟩ = some (.int .i64 x215003_1) := (blk_cell BK214.out 3).trans rfl
            have hfz20_0 := blk_frozen BK214.out 0
            have hfz20_1 := blk_frozen BK214.out 1
            have hfz20_2 := blk_frozen BK214.out 2
            have hfz20_3 := blk_frozen BK214.out 3
            go_wp2
            go_roundg k1
            case measure => have := HK1.out; omega
            case rel => exact ⟨(2), (x215000_1), (wrap64 (-x215001_1)), (x215002_1), (x215003_1), (by first | rfl | (simp; done) | (simp [*]; done)), H', ⟨by have := HK1.out; omega⟩, ⟨by (with_reducible repeat first | apply bN_ | apply bD_ | apply bA_); refine blk_far ?_ NB208_214.out _; (with_reducible repeat first | apply bN_ | apply bD_ | apply bA_); exact BK208.out⟩, ⟨by (with_reducible repeat first | apply bN_ | apply bD_ | apply bA_); refine blk_far ?_ NB209_214.out _; (with_reducible repeat first | apply bN_ | apply bD_ | apply bA_); exact BK209.out⟩, ⟨by (with_reducible repeat first | apply bN_ | apply bD_ | apply bA_); refine blk_put (cs := #[.int .i64 x215000_1, .int .i64 x215001_1, .int .i64 x215002_1, .int .i64 x215003_1]) ?_ 1 _ rfl; (with_reducible repeat first | apply bN_ | apply bD_ | apply bA_); exact BK214.out⟩, ⟨by repeat (first | (with_reducible first | exact HB.out | apply below_alloc | apply pw_below_drewN | apply below_drew1 | refine below_set ?_ GE208.out | refine below_set ?_ GE209.out | refine below_set ?_ GE214.out) | exact HB.out)⟩⟩
          · rw [if_neg c17] at H
            clear c17
            by_cases c21 : x5_1 = 2
            · rw [if_pos c21] at H
              subst c21
              have wlc21_0 : wrap64 (-1) = (-1) := by (unfold wrap64; omega)
              have wlc21_1 : wrap64 0 = 0 := by (unfold wrap64; omega)
              have wlc21_2 : wrap64 1 = 1 := by (unfold wrap64; omega)
              have wlc21_3 : wrap64 2 = 2 := by (unfold wrap64; omega)
              have wlc21_4 : wrap64 3 = 3 := by (unfold wrap64; omega)
              have wlc21_5 : wrap64 4 = 4 := by (unfold wrap64; omega)
              have H' := Aside0.mk H
              clear H
              have hnb22 := NB214_208.out
              have hnc22 := NB208_214.out
              have hnb23 := NB214_209.out
              have hnc23 := NB209_214.out
              have hcz24_0 : wr.cell? ⟨gb214, 0, none⟩ = some (.int .i64 x215000_1) := (blk_cell BK214.out 0).trans rfl
              have hcz24_1 : wr.cell? ⟨gb214, 1, none⟩ = some (.int .i64 x215001_1) := (blk_cell BK214.out 1).trans rfl
              have hcz24_2 : wr.cell? ⟨gb214, 2, none⟩ = some (.int .i64 x215002_1) := (blk_cell BK214.out 2).trans rfl
              have hcz24_3 : wr.cell? ⟨gb214, 3, none⟩ = some (.int .i64 x215003_1) := (blk_cell BK214.out 3).trans rfl
              have hfz24_0 := blk_frozen BK214.out 0
              have hfz24_1 := blk_frozen BK214.out 1
              have hfz24_2 := blk_frozen BK214.out 2
              have hfz24_3 := blk_frozen BK214.out 3
              go_wp2
              go_roundg k1
              case measure => have := HK1.out; omega
              case rel => exact ⟨(3), (x215000_1), (x215001_1), (wrap64 (-x215002_1)), (x215003_1), (by first | rfl | (simp; done) | (simp [*]; done)), H', ⟨by have := HK1.out; omega⟩, ⟨by (with_reducible repeat first | apply bN_ | apply bD_ | apply bA_); refine blk_far ?_ NB208_214.out _; (with_reducible repeat first | apply bN_ | apply bD_ | apply bA_); exact BK208.out⟩, ⟨by (with_reducible repeat first | apply bN_ | apply bD_ | apply bA_); refine blk_far ?_ NB209_214.out _; (with_reducible repeat first | apply bN_ | apply bD_ | apply bA_); exact BK209.out⟩, ⟨by (with_reducible repeat first | apply bN_ | apply bD_ | apply bA_); refine blk_put (cs := #[.int .i64 x215000_1, .int .i64 x215001_1, .int .i64 x215002_1, .int .i64 x215003_1]) ?_ 2 _ rfl; (with_reducible repeat first | apply bN_ | apply bD_ | apply bA_); exact BK214.out⟩, ⟨by repeat (first | (with_reducible first | exact HB.out | apply below_alloc | apply pw_below_drewN | apply below_drew1 | refine below_set ?_ GE208.out | refine below_set ?_ GE209.out | refine below_set ?_ GE214.out) | exact HB.out)⟩⟩
            · rw [if_neg c21] at H
              clear c21
              by_cases c25 : x5_1 = 3
              · rw [if_pos c25] at H
                subst c25
                have wlc25_0 : wrap64 (-1) = (-1) := by (unfold wrap64; omega)
                have wlc25_1 : wrap64 0 = 0 := by (unfold wrap64; omega)
                have wlc25_2 : wrap64 1 = 1 := by (unfold wrap64; omega)
                have wlc25_3 : wrap64 2 = 2 := by (unfold wrap64; omega)
                have wlc25_4 : wrap64 3 = 3 := by (unfold wrap64; omega)
                have wlc25_5 : wrap64 4 = 4 := by (unfold wrap64; omega)
                have wlc25_6 : wrap64 5 = 5 := by (unfold wrap64; omega)
                have H' := Aside0.mk H
                clear H
                have hnb26 := NB214_208.out
                have hnc26 := NB208_214.out
                have hnb27 := NB214_209.out
                have hnc27 := NB209_214.out
                have hcz28_0 : wr.cell? ⟨gb214, 0, none⟩ = some (.int .i64 x215000_1) := (blk_cell BK214.out 0).trans rfl
                have hcz28_1 : wr.cell? ⟨gb214, 1, none⟩ = some (.int .i64 x215001_1) := (blk_cell BK214.out 1).trans rfl
                have hcz28_2 : wr.cell? ⟨gb214, 2, none⟩ = some (.int .i64 x215002_1) := (blk_cell BK214.out 2).trans rfl
                have hcz28_3 : wr.cell? ⟨gb214, 3, none⟩ = some (.int .i64 x215003_1) := (blk_cell BK214.out 3).trans rfl
                have hfz28_0 := blk_frozen BK214.out 0
                have hfz28_1 := blk_frozen BK214.out 1
                have hfz28_2 := blk_frozen BK214.out 2
                have hfz28_3 := blk_frozen BK214.out 3
                go_wp2
                go_roundg k1
                case measure => have := HK1.out; omega
                case rel => exact ⟨(4), (x215000_1), (x215001_1), (x215002_1), (wrap64 (-x215003_1)), (by first | rfl | (simp; done) | (simp [*]; done)), H', ⟨by have := HK1.out; omega⟩, ⟨by (with_reducible repeat first | apply bN_ | apply bD_ | apply bA_); refine blk_far ?_ NB208_214.out _; (with_reducible repeat first | apply bN_ | apply bD_ | apply bA_); exact BK208.out⟩, ⟨by (with_reducible repeat first | apply bN_ | apply bD_ | apply bA_); refine blk_far ?_ NB209_214.out _; (with_reducible repeat first | apply bN_ | apply bD_ | apply bA_); exact BK209.out⟩, ⟨by (with_reducible repeat first | apply bN_ | apply bD_ | apply bA_); refine blk_put (cs := #[.int .i64 x215000_1, .int .i64 x215001_1, .int .i64 x215002_1, .int .i64 x215003_1]) ?_ 3 _ rfl; (with_reducible repeat first | apply bN_ | apply bD_ | apply bA_); exact BK214.out⟩, ⟨by repeat (first | (with_reducible first | exact HB.out | apply below_alloc | apply pw_below_drewN | apply below_drew1 | refine below_set ?_ GE208.out | refine below_set ?_ GE209.out | refine below_set ?_ GE214.out) | exact HB.out)⟩⟩
              · rw [if_neg c25] at H
                clear c25
                exact absurd H (by simp)
      · rw [if_neg c12] at H
        have c12b0 : decide (x5_1 < 4) = false := decide_eq_false c12
        clear c12
        replace H := Option.bind_eq_some_iff.mp H
        obtain ⟨⟨t215, t216, t217⟩, A290, H⟩ := H
        replace H : (some (t215, t216, t217)) = some (r1, r2, r3) := H
        have A29 := Aside0.mk A290
        clear A290
        simp only [Option.some.injEq, Prod.mk.injEq] at H
        obtain ⟨rfl, rfl, rfl⟩ := H
        have hnb30 := NB214_208.out
        have hnc30 := NB208_214.out
        have hnb31 := NB214_209.out
        have hnc31 := NB209_214.out
        have hcz32_0 : wr.cell? ⟨gb214, 0, none⟩ = some (.int .i64 x215000_1) := (blk_cell BK214.out 0).trans rfl
        have hcz32_1 : wr.cell? ⟨gb214, 1, none⟩ = some (.int .i64 x215001_1) := (blk_cell BK214.out 1).trans rfl
        have hcz32_2 : wr.cell? ⟨gb214, 2, none⟩ = some (.int .i64 x215002_1) := (blk_cell BK214.out 2).trans rfl
        have hcz32_3 : wr.cell? ⟨gb214, 3, none⟩ = some (.int .i64 x215003_1) := (blk_cell BK214.out 3).trans rfl
        have hfz32_0 := blk_frozen BK214.out 0
        have hfz32_1 := blk_frozen BK214.out 1
        have hfz32_2 := blk_frozen BK214.out 2
        have hfz32_3 := blk_frozen BK214.out 3
        go_wp2_with (first | ((with_reducible refine gate_callee (f := 23) rfl ?_); refine goesL_ (some 19) rfl rfl Try.func23 (by kernel_rfl) rfl #[.agg #[.int .i64 x215000_1, .int .i64 x215001_1, .int .i64 x215002_1, .int .i64 x215003_1]] rfl (by (try simp only [List.map_toArray, List.map_cons, List.map_nil]); first | done | rfl | (simp only [List.length_drop, List.length_take]; rfl)) ?_; (with_reducible refine (corollaryref02_Back.calls k1 x215000_1 x215001_1 x215002_1 x215003_1 t215 t216 t217 _ A29.out).mono ?_); rintro e w33 ⟨rfl, hb⟩; refine ⟨_, rfl, ?_⟩; have n0_ := Aside0.mk (blk_below (g := gb208) (o := .cells #[.int .i64 a0_0, .int .u64 a0_1] 26 (0, 0)) (by (with_reducible repeat first | apply bN_ | apply bD_ | apply bA_); exact BK208.out) hb); have n1_ := Aside0.mk (blk_below (g := gb209) (o := .cells #[.int .i64 0, .int .u64 0] 26 (0, 0)) (by (with_reducible repeat first | apply bN_ | apply bD_ | apply bA_); exact BK209.out) hb); have n2_ := Aside0.mk (blk_below (g := gb214) (o := .cells #[.int .i64 x215000_1, .int .i64 x215001_1, .int .i64 x215002_1, .int .i64 x215003_1] 46 (0, 0)) (by (with_reducible repeat first | apply bN_ | apply bD_ | apply bA_); exact BK214.out) hb); have n3_ := Aside0.mk (below_step (by repeat (first | (with_reducible first | exact HB.out | apply below_alloc | apply pw_below_drewN | apply below_drew1 | refine below_set ?_ GE208.out | refine below_set ?_ GE209.out | refine below_set ?_ GE214.out) | exact HB.out)) hb); clear BK208; clear BK209; clear BK214; clear HB; have BK208 := n0_; have BK209 := n1_; have BK214 := n2_; have HB := n3_; clear n0_ n1_ n2_ n3_; (try clear hb); (try clear hb2); (try clear hk); (try clear hi); have hnb34 := NB209_208.out; have hnc34 := NB208_209.out; have hcz35_0 : w33.cell? ⟨gb209, 0, none⟩ = some (.int .i64 0) := (blk_cell BK209.out 0).trans rfl; have hcz35_1 : w33.cell? ⟨gb209, 1, none⟩ = some (.int .u64 0) := (blk_cell BK209.out 1).trans rfl; have hfz35_0 := blk_frozen BK209.out 0; have hfz35_1 := blk_frozen BK209.out 1))
        refine bodyPost_ret (results_ct rfl _ _ gb209 26 #[.int .i64 t215, .int .u64 t216] (0, 0) _ rfl (by (with_reducible repeat first | apply bN_ | apply bD_ | apply bA_); refine blk_put (cs := #[.int .i64 t215, .int .u64 0]) ?_ 1 _ rfl; (with_reducible repeat first | apply bN_ | apply bD_ | apply bA_); refine blk_put (cs := #[.int .i64 0, .int .u64 0]) ?_ 0 _ rfl; (with_reducible repeat first | apply bN_ | apply bD_ | apply bA_); exact BK209.out) Try.underlying26 rfl (by kernel_rfl)) rfl ?_
        exact ⟨by first | rfl | (simp [errW_none, errW_some] <;> rfl) | (simp [*, errW_none, errW_some] <;> rfl), by repeat (first | (with_reducible first | exact HB.out | apply below_alloc | apply pw_below_drewN | apply below_drew1 | refine below_set ?_ GE208.out | refine below_set ?_ GE209.out | refine below_set ?_ GE214.out) | exact HB.out)⟩

end Go.Proofs.Ytipcggfabjfobaa.P
