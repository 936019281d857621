-- Written by our own program (wip/xprint) over the seat's translation. Lean checks it.
import Derived.Test.YtipcggfabjfobaaPx0
import Derived.Test.YtipcggfabjfobaaPx9
import Derived.Test.YtipcggfabjfobaaPx10
namespace Go.Proofs.Ytipcggfabjfobaa.P
open Go.RowKit Go.Proofs.YtipcggfabjfobaaW.PrintWords Go.Proofs.YtipcggfabjfobaaW.PrintLast Go.Proofs.YtipcggfabjfobaaW.PrintMore
attribute [local go_sem] max2_int min2_int max_two min_two max_three min_three max_four min_four   -- for this text's walks alone
set_option linter.unusedVariables false
set_option linter.unusedSimpArgs false

/-! ### corollaryref02_Add: function 11 -/
def corollaryref02_Add.l0 : Nat → Int → Int → Int → Int → Int → Int → Int → Int → Int → Option (Int × Int × Bool)
  | 0, _, _, _, _, _, _, _, _, _ => none
  | k + 1, x8, x147000, x147001, x147002, x147003, x148000, x148001, x148002, x148003 => if x8 < 4 then (if x8 = 0 then (corollaryref02_Add.l0 k 1 (wrap64 (x147000 + x148000)) x147001 x147002 x147003 x148000 x148001 x148002 x148003) else (if x8 = 1 then (corollaryref02_Add.l0 k 2 x147000 (wrap64 (x147001 + x148001)) x147002 x147003 x148000 x148001 x148002 x148003) else (if x8 = 2 then (corollaryref02_Add.l0 k 3 x147000 x147001 (wrap64 (x147002 + x148002)) x147003 x148000 x148001 x148002 x148003) else (if x8 = 3 then (corollaryref02_Add.l0 k 4 x147000 x147001 x147002 (wrap64 (x147003 + x148003)) x148000 x148001 x148002 x148003) else (none))))) else ((corollaryref02_Back.f k x147000 x147001 x147002 x147003).bind fun bt148 => (some (bt148.1, bt148.2.1, bt148.2.2)))
def corollaryref02_Add.f (k : Nat) (a0_0 : Int) (a0_1 : Int) (a1_0 : Int) (a1_1 : Int) : Option (Int × Int × Bool) := (corollaryref02_Four.f a0_0 a0_1).bind fun bt138 => ((corollaryref02_Four.f a1_0 a1_1).bind fun bt142 => (corollaryref02_Add.l0 k 0 bt138.1 bt138.2.1 bt138.2.2.1 bt138.2.2.2 bt142.1 bt142.2.1 bt142.2.2.1 bt142.2.2.2))
theorem corollaryref02_Add.mono_l : ∀ k, (∀ y0 y1 y2 y3 y4 y5 y6 y7 y8, LeO (corollaryref02_Add.l0 k y0 y1 y2 y3 y4 y5 y6 y7 y8) (corollaryref02_Add.l0 (k + 1) y0 y1 y2 y3 y4 y5 y6 y7 y8))
  | 0 => fun _ _ _ _ _ _ _ _ _ r h => by simp [corollaryref02_Add.l0] at h
  | k + 1 => by
    have ih0 := corollaryref02_Add.mono_l k
    · intro y0 y1 y2 y3 y4 y5 y6 y7 y8
      unfold corollaryref02_Add.l0
      repeat' first
      | (with_reducible exact ih0 _ _ _ _ _ _ _ _ _)
      | (with_reducible exact corollaryref02_Back.mono _ _ _ _ _)
      | (with_reducible exact LeO.refl _)
      | (with_reducible exact LeO.none _)
      | (with_reducible refine LeO.ite ?_ ?_)
      | (with_reducible refine LeO.bind ?_ (fun _ => ?_))
      | exact ih0 _ _ _ _ _ _ _ _ _
      | exact corollaryref02_Back.mono _ _ _ _ _
      | exact LeO.none _
      | refine LeO.ite ?_ ?_
      | refine LeO.bind ?_ (fun _ => ?_)
theorem corollaryref02_Add.mono : ∀ a0 a1 a2 a3 k, LeO (corollaryref02_Add.f k a0 a1 a2 a3) (corollaryref02_Add.f (k + 1) a0 a1 a2 a3) := by
  intro a0 a1 a2 a3 k
  have ih0 := corollaryref02_Add.mono_l k
  unfold corollaryref02_Add.f
  repeat' first
      | (with_reducible exact ih0 _ _ _ _ _ _ _ _ _)
      | (with_reducible exact corollaryref02_Back.mono _ _ _ _ _)
      | (with_reducible exact LeO.refl _)
      | (with_reducible exact LeO.none _)
      | (with_reducible refine LeO.ite ?_ ?_)
      | (with_reducible refine LeO.bind ?_ (fun _ => ?_))
      | exact ih0 _ _ _ _ _ _ _ _ _
      | exact corollaryref02_Back.mono _ _ _ _ _
      | exact LeO.none _
      | refine LeO.ite ?_ ?_
      | refine LeO.bind ?_ (fun _ => ?_)
def corollaryref02_Add.T1 : Bool × List (List Nat × List Nat) := (true, [([], []), ([0], [0]), ([], []), ([2, 1], [2]), ([], []), ([], []), ([4, 1, 3, 0, 1, 4, 5], [1, 4]), ([5, 3, 6, 0, 1, 2, 3, 4, 5, 6], [3, 5])])
def corollaryref02_Add.B1 : List Nat := [0, 1, 0, 7, 0, 0, 63, 127]
theorem corollaryref02_Add.tab1 : rtab .any (opsOf Try.f11 1) = corollaryref02_Add.T1 := by kernel_rfl
theorem corollaryref02_Add.bits1 : waitsOk corollaryref02_Add.T1.2 corollaryref02_Add.B1 = true := by kernel_rfl
def corollaryref02_Add.T5 : Bool × List (List Nat × List Nat) := (true, [([], []), ([0], [0]), ([1], [1]), ([], []), ([3], [3]), ([4], [4]), ([2, 5], [2, 5]), ([0, 0, 1, 2, 3, 4, 5, 6], [0]), ([7, 6, 0, 1, 2, 3, 4, 5, 6], [6, 7])])
def corollaryref02_Add.B5 : List Nat := [0, 1, 3, 0, 8, 24, 63, 127, 255]
theorem corollaryref02_Add.tab5 : rtab .any (opsOf Try.f11 5) = corollaryref02_Add.T5 := by kernel_rfl
theorem corollaryref02_Add.bits5 : waitsOk corollaryref02_Add.T5.2 corollaryref02_Add.B5 = true := by kernel_rfl
set_option maxHeartbeats 8000000 in
set_option maxRecDepth 100000 in
theorem corollaryref02_Add.calls (k : Nat) (a0_0 : Int) (a0_1 : Int) (a1_0 : Int) (a1_1 : Int) (r1 : Int) (r2 : Int) (r3 : Bool) (w : World) (h : corollaryref02_Add.f k a0_0 a0_1 a1_0 a1_1 = some (r1, r2, r3)) :
    Calls Try.prog 11 #[.agg #[.int .i64 a0_0, .int .u64 a0_1], .agg #[.int .i64 a1_0, .int .u64 a1_1]] w fun e w' => e = .returned (.tuple #[.agg #[.int .i64 r1, .int .u64 r2], .bool r3]) ∧ Below w.heap.size w w' := by
  have hu26 := Try.underlying26
  have hu46 := Try.underlying46
  have HB := Aside0.mk (Below.refl w.heap.size w)
  have H : ((corollaryref02_Four.f a0_0 a0_1).bind fun bt138 => ((corollaryref02_Four.f a1_0 a1_1).bind fun bt142 => (corollaryref02_Add.l0 k 0 bt138.1 bt138.2.1 bt138.2.2.1 bt138.2.2.2 bt142.1 bt142.2.1 bt142.2.2.1 bt142.2.2.2))) = some (r1, r2, r3) := h
  clear h
  replace H := Option.bind_eq_some_iff.mp H
  obtain ⟨⟨t138, t139, t140, t141⟩, A30, H⟩ := H
  replace H : ((corollaryref02_Four.f a1_0 a1_1).bind fun bt142 => (corollaryref02_Add.l0 k 0 t138 t139 t140 t141 bt142.1 bt142.2.1 bt142.2.2.1 bt142.2.2.2)) = some (r1, r2, r3) := H
  have A3 := Aside0.mk A30
  clear A30
  replace H := Option.bind_eq_some_iff.mp H
  obtain ⟨⟨t142, t143, t144, t145⟩, A40, H⟩ := H
  replace H : (corollaryref02_Add.l0 k 0 t138 t139 t140 t141 t142 t143 t144 t145) = some (r1, r2, r3) := H
  have A4 := Aside0.mk A40
  clear A40
  have H' := Aside0.mk H
  clear H
  go_enter Try.func11, Try.ntmps11
  try go_wp2_with (first | ((with_reducible refine gate_dst (N := 2) rfl ?_); refine box_event ?hg (N := 2) ?hd (cs := #[.int .i64 a0_0, .int .u64 a0_1]) (t := 26) ?hr ?_; (case hd => rfl); (case hg => rfl); (case hr => first | (go_simp; done) | (go_simp; rfl)); intro gb135 hg w5 hbox hb; have n0_ := Aside0.mk (below_step (by repeat (first | (with_reducible first | exact HB.out | apply below_alloc | apply pw_below_drewN | apply below_drew1) | exact HB.out)) hb); have n1_ := Aside0.mk (hbox); have n2_ := Aside0.mk ((by rw [hg]; exact (below_size (by repeat (first | (with_reducible first | exact HB.out | apply below_alloc | apply pw_below_drewN | apply below_drew1) | exact HB.out))) : w.heap.size ≤ gb135)); have n3_ := Aside0.mk ((by rw [hg]; exact (below_size (by repeat (first | (with_reducible first | exact HB.out | apply below_alloc | apply pw_below_drewN | apply below_drew1) | exact HB.out))) : w.heap.size ≤ gb135)); clear HB; have HB := n0_; have BK135 := n1_; have GW135 := n2_; have GE135 := n3_; clear n0_ n1_ n2_ n3_; clear hb hbox hg) | ((with_reducible refine gate_dst (N := 3) rfl ?_); refine box_event ?hg (N := 3) ?hd (cs := #[.int .i64 a1_0, .int .u64 a1_1]) (t := 26) ?hr ?_; (case hd => rfl); (case hg => rfl); (case hr => first | (go_simp; done) | (go_simp; rfl)); intro gb136 hg w6 hbox hb; have n0_ := Aside0.mk (blk_below (g := gb135) (o := .cells #[.int .i64 a0_0, .int .u64 a0_1] 26 (0, 0)) (by (with_reducible repeat first | apply bN_ | apply bD_ | apply bA_); exact BK135.out) hb); have n1_ := Aside0.mk (below_step (by repeat (first | (with_reducible first | exact HB.out | apply below_alloc | apply pw_below_drewN | apply below_drew1 | refine below_set ?_ GE135.out) | exact HB.out)) hb); have n2_ := Aside0.mk (hbox); have n3_ := Aside0.mk ((by rw [hg]; exact (below_size (by repeat (first | (with_reducible first | exact HB.out | apply below_alloc | apply pw_below_drewN | apply below_drew1 | refine below_set ?_ GE135.out) | exact HB.out))) : w.heap.size ≤ gb136)); have n4_ := Aside0.mk ((by rw [hg]; exact (below_size (by repeat (first | (with_reducible first | exact HB.out | apply below_alloc | apply pw_below_drewN | apply below_drew1 | refine below_set ?_ GE135.out) | exact HB.out))) : w.heap.size ≤ gb136)); have n5_ := Aside0.mk ((by rw [hg]; exact Nat.ne_of_lt (blk_lt (g := gb135) (o := .cells #[.int .i64 a0_0, .int .u64 a0_1] 26 (0, 0)) (by (with_reducible repeat first | apply bN_ | apply bD_ | apply bA_); exact BK135.out)) : gb135 ≠ gb136)); have n6_ := Aside0.mk ((by rw [hg]; exact Nat.ne_of_gt (blk_lt (g := gb135) (o := .cells #[.int .i64 a0_0, .int .u64 a0_1] 26 (0, 0)) (by (with_reducible repeat first | apply bN_ | apply bD_ | apply bA_); exact BK135.out)) : gb136 ≠ gb135)); clear BK135; clear HB; have BK135 := n0_; have HB := n1_; have BK136 := n2_; have GW136 := n3_; have GE136 := n4_; have NB135_136 := n5_; have NB136_135 := n6_; clear n0_ n1_ n2_ n3_ n4_ n5_ n6_; clear hb hbox hg) | ((with_reducible refine gate_dst (N := 4) rfl ?_); refine box_event ?hg (N := 4) ?hd (cs := #[.int .i64 0, .int .u64 0]) (t := 26) ?hr ?_; (case hd => rfl); (case hg => rfl); (case hr => first | (go_simp; done) | (go_simp; rfl)); intro gb137 hg w7 hbox hb; have n0_ := Aside0.mk (blk_below (g := gb135) (o := .cells #[.int .i64 a0_0, .int .u64 a0_1] 26 (0, 0)) (by (with_reducible repeat first | apply bN_ | apply bD_ | apply bA_); exact BK135.out) hb); have n1_ := Aside0.mk (blk_below (g := gb136) (o := .cells #[.int .i64 a1_0, .int .u64 a1_1] 26 (0, 0)) (by (with_reducible repeat first | apply bN_ | apply bD_ | apply bA_); exact BK136.out) hb); have n2_ := Aside0.mk (below_step (by repeat (first | (with_reducible first | exact HB.out | apply below_alloc | apply pw_below_drewN | apply below_drew1 | refine below_set ?_ GE135.out | refine below_set ?_ GE136.out) | exact HB.out)) hb); have n3_ := Aside0.mk (hbox); have n4_ := Aside0.mk ((by rw [hg]; exact (below_size (by repeat (first | (with_reducible first | exact HB.out | apply below_alloc | apply pw_below_drewN | apply below_drew1 | refine below_set ?_ GE135.out | refine below_set ?_ GE136.out) | exact HB.out))) : w.heap.size ≤ gb137)); have n5_ := Aside0.mk ((by rw [hg]; exact (below_size (by repeat (first | (with_reducible first | exact HB.out | apply below_alloc | apply pw_below_drewN | apply below_drew1 | refine below_set ?_ GE135.out | refine below_set ?_ GE136.out) | exact HB.out))) : w.heap.size ≤ gb137)); have n6_ := Aside0.mk ((by rw [hg]; exact Nat.ne_of_lt (blk_lt (g := gb135) (o := .cells #[.int .i64 a0_0, .int .u64 a0_1] 26 (0, 0)) (by (with_reducible repeat first | apply bN_ | apply bD_ | apply bA_); exact BK135.out)) : gb135 ≠ gb137)); have n7_ := Aside0.mk ((by rw [hg]; exact Nat.ne_of_gt (blk_lt (g := gb135) (o := .cells #[.int .i64 a0_0, .int .u64 a0_1] 26 (0, 0)) (by (with_reducible repeat first | apply bN_ | apply bD_ | apply bA_); exact BK135.out)) : gb137 ≠ gb135)); have n8_ := Aside0.mk ((by rw [hg]; exact Nat.ne_of_lt (blk_lt (g := gb136) (o := .cells #[.int .i64 a1_0, .int .u64 a1_1] 26 (0, 0)) (by (with_reducible repeat first | apply bN_ | apply bD_ | apply bA_); exact BK136.out)) : gb136 ≠ gb137)); have n9_ := Aside0.mk ((by rw [hg]; exact Nat.ne_of_gt (blk_lt (g := gb136) (o := .cells #[.int .i64 a1_0, .int .u64 a1_1] 26 (0, 0)) (by (with_reducible repeat first | apply bN_ | apply bD_ | apply bA_); exact BK136.out)) : gb137 ≠ gb136)); clear BK135; clear BK136; clear HB; have BK135 := n0_; have BK136 := n1_; have HB := n2_; have BK137 := n3_; have GW137 := n4_; have GE137 := n5_; have NB135_137 := n6_; have NB137_135 := n7_; have NB136_137 := n8_; have NB137_136 := n9_; clear n0_ n1_ n2_ n3_ n4_ n5_ n6_ n7_ n8_ n9_; clear hb hbox hg))
  have n0_ := Aside0.mk (blk_drew BK135.out)
  have n1_ := Aside0.mk (blk_drew BK136.out)
  have n2_ := Aside0.mk (blk_drew BK137.out)
  have n3_ := Aside0.mk (below_drew1 HB.out)
  clear BK135
  clear BK136
  clear BK137
  clear HB
  have BK135 := n0_
  have BK136 := n1_
  have BK137 := n2_
  have HB := n3_
  clear n0_ n1_ n2_ n3_
  refine start_ (n := 8) (S := fun w' => w'.cell? ⟨gb135, 0, none⟩ = some (.int .i64 a0_0) ∧ w'.cell? ⟨gb135, 1, none⟩ = some (.int .u64 a0_1) ∧ w'.cell? ⟨gb136, 0, none⟩ = some (.int .i64 a1_0) ∧ w'.cell? ⟨gb136, 1, none⟩ = some (.int .u64 a1_1)) (ds := []) #[false, false, false, false, false, false, false, false] (by kernel_rfl) rfl rfl ⟨(blk_cell BK135.out 0).trans rfl, (blk_cell BK135.out 1).trans rfl, (blk_cell BK136.out 0).trans rfl, (blk_cell BK136.out 1).trans rfl⟩ (fun hHeld => ?_); refine with_tabW corollaryref02_Add.tab1 corollaryref02_Add.bits1 (fun HT_ HW_ => ?_)
  generalize w7.drew = w8 at BK135 BK136 BK137 HB hHeld ⊢
  refine take_ (i := 0) (N := some 9) (v := ?_) (a' := ?_) #[true, false, false, false, false, false, false, false] rfl rfl (take_ofW HT_.out HW_.out (by kernel_rfl)) (fun _ _ _ h => h) (Or.inl ⟨by rfl, ?_⟩) hHeld ?_ ?_
  rotate_left
  · rintro w' ⟨s0, s1, s2, s3⟩
    go_simp
    with_reducible rfl
  rotate_left
  · simp only [Act.put, List.setIfInBounds_toArray, List.set_cons_zero, List.set_cons_succ, i64_w, i32_w]
    rfl
  refine take_ (i := 2) (N := some 11) (v := ?_) (a' := ?_) #[true, false, true, false, false, false, false, false] rfl rfl (take_ofW HT_.out HW_.out (by kernel_rfl)) (fun _ _ _ h => h) (Or.inl ⟨by rfl, ?_⟩) hHeld ?_ ?_
  rotate_left
  · rintro w' ⟨s0, s1, s2, s3⟩
    go_simp
    with_reducible rfl
  rotate_left
  · simp only [Act.put, List.setIfInBounds_toArray, List.set_cons_zero, List.set_cons_succ, i64_w, i32_w]
    rfl
  refine join_ (σ := Nat × Nat) 2 #[true, true, true, true, true, true, false, false] (fun s_ => [(10, .agg #[.int .i64 t138, .int .i64 t139, .int .i64 t140, .int .i64 t141]), (12, .agg #[.int .i64 t142, .int .i64 t143, .int .i64 t144, .int .i64 t145]), (6, .pointer (some ⟨s_.1, 0, none⟩)), (7, .pointer (some ⟨s_.2, 0, none⟩))]) (fun s_ w' => (w'.cell? ⟨gb135, 0, none⟩ = some (.int .i64 a0_0) ∧ w'.cell? ⟨gb135, 1, none⟩ = some (.int .u64 a0_1) ∧ w'.cell? ⟨gb136, 0, none⟩ = some (.int .i64 a1_0) ∧ w'.cell? ⟨gb136, 1, none⟩ = some (.int .u64 a1_1)) ∧ (w'.heap[gb135]? = some (.cells #[.int .i64 a0_0, .int .u64 a0_1] 26 (0, 0))) ∧ (w'.heap[gb136]? = some (.cells #[.int .i64 a1_0, .int .u64 a1_1] 26 (0, 0))) ∧ (w'.heap[gb137]? = some (.cells #[.int .i64 0, .int .u64 0] 26 (0, 0))) ∧ (w'.heap[s_.1]? = some (.cells #[.int .i64 0, .int .i64 0, .int .i64 0, .int .i64 0] 46 (0, 0))) ∧ (w'.heap[s_.2]? = some (.cells #[.int .i64 0, .int .i64 0, .int .i64 0, .int .i64 0] 46 (0, 0))) ∧ (w.heap.size ≤ s_.1) ∧ (w.heap.size ≤ s_.1) ∧ (gb135 ≠ s_.1) ∧ (s_.1 ≠ gb135) ∧ (gb136 ≠ s_.1) ∧ (s_.1 ≠ gb136) ∧ (gb137 ≠ s_.1) ∧ (s_.1 ≠ gb137) ∧ (s_.2 ≠ s_.1) ∧ (s_.1 ≠ s_.2) ∧ (w.heap.size ≤ s_.2) ∧ (w.heap.size ≤ s_.2) ∧ (gb135 ≠ s_.2) ∧ (s_.2 ≠ gb135) ∧ (gb136 ≠ s_.2) ∧ (s_.2 ≠ gb136) ∧ (gb137 ≠ s_.2) ∧ (s_.2 ≠ gb137) ∧ (Below w.heap.size w w')) ?_ ?_
  rotate_left
  · intro hJ1_3_4_5
    refine join_ (σ := Nat) 3 #[true, true, true, true, true, false, false, false] (fun s_ => [(10, .agg #[.int .i64 t138, .int .i64 t139, .int .i64 t140, .int .i64 t141]), (12, .agg #[.int .i64 t142, .int .i64 t143, .int .i64 t144, .int .i64 t145]), (6, .pointer (some ⟨s_, 0, none⟩))]) (fun s_ w' => (w'.cell? ⟨gb135, 0, none⟩ = some (.int .i64 a0_0) ∧ w'.cell? ⟨gb135, 1, none⟩ = some (.int .u64 a0_1) ∧ w'.cell? ⟨gb136, 0, none⟩ = some (.int .i64 a1_0) ∧ w'.cell? ⟨gb136, 1, none⟩ = some (.int .u64 a1_1)) ∧ (w'.heap[gb135]? = some (.cells #[.int .i64 a0_0, .int .u64 a0_1] 26 (0, 0))) ∧ (w'.heap[gb136]? = some (.cells #[.int .i64 a1_0, .int .u64 a1_1] 26 (0, 0))) ∧ (w'.heap[gb137]? = some (.cells #[.int .i64 0, .int .u64 0] 26 (0, 0))) ∧ (w'.heap[s_]? = some (.cells #[.int .i64 0, .int .i64 0, .int .i64 0, .int .i64 0] 46 (0, 0))) ∧ (w.heap.size ≤ s_) ∧ (w.heap.size ≤ s_) ∧ (gb135 ≠ s_) ∧ (s_ ≠ gb135) ∧ (gb136 ≠ s_) ∧ (s_ ≠ gb136) ∧ (gb137 ≠ s_) ∧ (s_ ≠ gb137) ∧ (Below w.heap.size w w')) ?_ ?_
    rotate_left
    · intro hJ1_3_4
      refine join_ (σ := Nat) 3 #[true, true, true, true, false, true, false, false] (fun s_ => [(10, .agg #[.int .i64 t138, .int .i64 t139, .int .i64 t140, .int .i64 t141]), (12, .agg #[.int .i64 t142, .int .i64 t143, .int .i64 t144, .int .i64 t145]), (7, .pointer (some ⟨s_, 0, none⟩))]) (fun s_ w' => (w'.cell? ⟨gb135, 0, none⟩ = some (.int .i64 a0_0) ∧ w'.cell? ⟨gb135, 1, none⟩ = some (.int .u64 a0_1) ∧ w'.cell? ⟨gb136, 0, none⟩ = some (.int .i64 a1_0) ∧ w'.cell? ⟨gb136, 1, none⟩ = some (.int .u64 a1_1)) ∧ (w'.heap[gb135]? = some (.cells #[.int .i64 a0_0, .int .u64 a0_1] 26 (0, 0))) ∧ (w'.heap[gb136]? = some (.cells #[.int .i64 a1_0, .int .u64 a1_1] 26 (0, 0))) ∧ (w'.heap[gb137]? = some (.cells #[.int .i64 0, .int .u64 0] 26 (0, 0))) ∧ (w'.heap[s_]? = some (.cells #[.int .i64 0, .int .i64 0, .int .i64 0, .int .i64 0] 46 (0, 0))) ∧ (w.heap.size ≤ s_) ∧ (w.heap.size ≤ s_) ∧ (gb135 ≠ s_) ∧ (s_ ≠ gb135) ∧ (gb136 ≠ s_) ∧ (s_ ≠ gb136) ∧ (gb137 ≠ s_) ∧ (s_ ≠ gb137) ∧ (Below w.heap.size w w')) ?_ ?_
      rotate_left
      · intro hJ1_3_5
        refine join_ (σ := Nat × Nat) 3 #[true, true, true, false, true, true, false, false] (fun s_ => [(10, .agg #[.int .i64 t138, .int .i64 t139, .int .i64 t140, .int .i64 t141]), (6, .pointer (some ⟨s_.1, 0, none⟩)), (7, .pointer (some ⟨s_.2, 0, none⟩))]) (fun s_ w' => (w'.cell? ⟨gb135, 0, none⟩ = some (.int .i64 a0_0) ∧ w'.cell? ⟨gb135, 1, none⟩ = some (.int .u64 a0_1) ∧ w'.cell? ⟨gb136, 0, none⟩ = some (.int .i64 a1_0) ∧ w'.cell? ⟨gb136, 1, none⟩ = some (.int .u64 a1_1)) ∧ (w'.heap[gb135]? = some (.cells #[.int .i64 a0_0, .int .u64 a0_1] 26 (0, 0))) ∧ (w'.heap[gb136]? = some (.cells #[.int .i64 a1_0, .int .u64 a1_1] 26 (0, 0))) ∧ (w'.heap[gb137]? = some (.cells #[.int .i64 0, .int .u64 0] 26 (0, 0))) ∧ (w'.heap[s_.1]? = some (.cells #[.int .i64 0, .int .i64 0, .int .i64 0, .int .i64 0] 46 (0, 0))) ∧ (w'.heap[s_.2]? = some (.cells #[.int .i64 0, .int .i64 0, .int .i64 0, .int .i64 0] 46 (0, 0))) ∧ (w.heap.size ≤ s_.1) ∧ (w.heap.size ≤ s_.1) ∧ (gb135 ≠ s_.1) ∧ (s_.1 ≠ gb135) ∧ (gb136 ≠ s_.1) ∧ (s_.1 ≠ gb136) ∧ (gb137 ≠ s_.1) ∧ (s_.1 ≠ gb137) ∧ (s_.2 ≠ s_.1) ∧ (s_.1 ≠ s_.2) ∧ (w.heap.size ≤ s_.2) ∧ (w.heap.size ≤ s_.2) ∧ (gb135 ≠ s_.2) ∧ (s_.2 ≠ gb135) ∧ (gb136 ≠ s_.2) ∧ (s_.2 ≠ gb136) ∧ (gb137 ≠ s_.2) ∧ (s_.2 ≠ gb137) ∧ (Below w.heap.size w w')) ?_ ?_
        rotate_left
        · intro hJ1_4_5
          refine join_ (σ := Unit) 4 #[true, true, true, true, false, false, false, false] (fun s_ => [(10, .agg #[.int .i64 t138, .int .i64 t139, .int .i64 t140, .int .i64 t141]), (12, .agg #[.int .i64 t142, .int .i64 t143, .int .i64 t144, .int .i64 t145])]) (fun s_ w' => (w'.cell? ⟨gb135, 0, none⟩ = some (.int .i64 a0_0) ∧ w'.cell? ⟨gb135, 1, none⟩ = some (.int .u64 a0_1) ∧ w'.cell? ⟨gb136, 0, none⟩ = some (.int .i64 a1_0) ∧ w'.cell? ⟨gb136, 1, none⟩ = some (.int .u64 a1_1)) ∧ (w'.heap[gb135]? = some (.cells #[.int .i64 a0_0, .int .u64 a0_1] 26 (0, 0))) ∧ (w'.heap[gb136]? = some (.cells #[.int .i64 a1_0, .int .u64 a1_1] 26 (0, 0))) ∧ (w'.heap[gb137]? = some (.cells #[.int .i64 0, .int .u64 0] 26 (0, 0))) ∧ (Below w.heap.size w w')) ?_ ?_
          rotate_left
          · intro hJ1_3
            refine join_ (σ := Nat) 4 #[true, true, true, false, true, false, false, false] (fun s_ => [(10, .agg #[.int .i64 t138, .int .i64 t139, .int .i64 t140, .int .i64 t141]), (6, .pointer (some ⟨s_, 0, none⟩))]) (fun s_ w' => (w'.cell? ⟨gb135, 0, none⟩ = some (.int .i64 a0_0) ∧ w'.cell? ⟨gb135, 1, none⟩ = some (.int .u64 a0_1) ∧ w'.cell? ⟨gb136, 0, none⟩ = some (.int .i64 a1_0) ∧ w'.cell? ⟨gb136, 1, none⟩ = some (.int .u64 a1_1)) ∧ (w'.heap[gb135]? = some (.cells #[.int .i64 a0_0, .int .u64 a0_1] 26 (0, 0))) ∧ (w'.heap[gb136]? = some (.cells #[.int .i64 a1_0, .int .u64 a1_1] 26 (0, 0))) ∧ (w'.heap[gb137]? = some (.cells #[.int .i64 0, .int .u64 0] 26 (0, 0))) ∧ (w'.heap[s_]? = some (.cells #[.int .i64 0, .int .i64 0, .int .i64 0, .int .i64 0] 46 (0, 0))) ∧ (w.heap.size ≤ s_) ∧ (w.heap.size ≤ s_) ∧ (gb135 ≠ s_) ∧ (s_ ≠ gb135) ∧ (gb136 ≠ s_) ∧ (s_ ≠ gb136) ∧ (gb137 ≠ s_) ∧ (s_ ≠ gb137) ∧ (Below w.heap.size w w')) ?_ ?_
            rotate_left
            · intro hJ1_4
              refine join_ (σ := Nat) 4 #[true, true, true, false, false, true, false, false] (fun s_ => [(10, .agg #[.int .i64 t138, .int .i64 t139, .int .i64 t140, .int .i64 t141]), (7, .pointer (some ⟨s_, 0, none⟩))]) (fun s_ w' => (w'.cell? ⟨gb135, 0, none⟩ = some (.int .i64 a0_0) ∧ w'.cell? ⟨gb135, 1, none⟩ = some (.int .u64 a0_1) ∧ w'.cell? ⟨gb136, 0, none⟩ = some (.int .i64 a1_0) ∧ w'.cell? ⟨gb136, 1, none⟩ = some (.int .u64 a1_1)) ∧ (w'.heap[gb135]? = some (.cells #[.int .i64 a0_0, .int .u64 a0_1] 26 (0, 0))) ∧ (w'.heap[gb136]? = some (.cells #[.int .i64 a1_0, .int .u64 a1_1] 26 (0, 0))) ∧ (w'.heap[gb137]? = some (.cells #[.int .i64 0, .int .u64 0] 26 (0, 0))) ∧ (w'.heap[s_]? = some (.cells #[.int .i64 0, .int .i64 0, .int .i64 0, .int .i64 0] 46 (0, 0))) ∧ (w.heap.size ≤ s_) ∧ (w.heap.size ≤ s_) ∧ (gb135 ≠ s_) ∧ (s_ ≠ gb135) ∧ (gb136 ≠ s_) ∧ (s_ ≠ gb136) ∧ (gb137 ≠ s_) ∧ (s_ ≠ gb137) ∧ (Below w.heap.size w w')) ?_ ?_
              rotate_left
              · intro hJ1_5
                refine join_ (σ := Nat × Nat) 4 #[true, false, true, false, true, true, false, false] (fun s_ => [(6, .pointer (some ⟨s_.1, 0, none⟩)), (7, .pointer (some ⟨s_.2, 0, none⟩))]) (fun s_ w' => (w'.cell? ⟨gb135, 0, none⟩ = some (.int .i64 a0_0) ∧ w'.cell? ⟨gb135, 1, none⟩ = some (.int .u64 a0_1) ∧ w'.cell? ⟨gb136, 0, none⟩ = some (.int .i64 a1_0) ∧ w'.cell? ⟨gb136, 1, none⟩ = some (.int .u64 a1_1)) ∧ (w'.heap[gb135]? = some (.cells #[.int .i64 a0_0, .int .u64 a0_1] 26 (0, 0))) ∧ (w'.heap[gb136]? = some (.cells #[.int .i64 a1_0, .int .u64 a1_1] 26 (0, 0))) ∧ (w'.heap[gb137]? = some (.cells #[.int .i64 0, .int .u64 0] 26 (0, 0))) ∧ (w'.heap[s_.1]? = some (.cells #[.int .i64 0, .int .i64 0, .int .i64 0, .int .i64 0] 46 (0, 0))) ∧ (w'.heap[s_.2]? = some (.cells #[.int .i64 0, .int .i64 0, .int .i64 0, .int .i64 0] 46 (0, 0))) ∧ (w.heap.size ≤ s_.1) ∧ (w.heap.size ≤ s_.1) ∧ (gb135 ≠ s_.1) ∧ (s_.1 ≠ gb135) ∧ (gb136 ≠ s_.1) ∧ (s_.1 ≠ gb136) ∧ (gb137 ≠ s_.1) ∧ (s_.1 ≠ gb137) ∧ (s_.2 ≠ s_.1) ∧ (s_.1 ≠ s_.2) ∧ (w.heap.size ≤ s_.2) ∧ (w.heap.size ≤ s_.2) ∧ (gb135 ≠ s_.2) ∧ (s_.2 ≠ gb135) ∧ (gb136 ≠ s_.2) ∧ (s_.2 ≠ gb136) ∧ (gb137 ≠ s_.2) ∧ (s_.2 ≠ gb137) ∧ (Below w.heap.size w w')) ?_ ?_
                rotate_left
                · intro hJ4_5
                  refine join_ (σ := Unit) 5 #[true, true, true, false, false, false, false, false] (fun s_ => [(10, .agg #[.int .i64 t138, .int .i64 t139, .int .i64 t140, .int .i64 t141])]) (fun s_ w' => (w'.cell? ⟨gb135, 0, none⟩ = some (.int .i64 a0_0) ∧ w'.cell? ⟨gb135, 1, none⟩ = some (.int .u64 a0_1) ∧ w'.cell? ⟨gb136, 0, none⟩ = some (.int .i64 a1_0) ∧ w'.cell? ⟨gb136, 1, none⟩ = some (.int .u64 a1_1)) ∧ (w'.heap[gb135]? = some (.cells #[.int .i64 a0_0, .int .u64 a0_1] 26 (0, 0))) ∧ (w'.heap[gb136]? = some (.cells #[.int .i64 a1_0, .int .u64 a1_1] 26 (0, 0))) ∧ (w'.heap[gb137]? = some (.cells #[.int .i64 0, .int .u64 0] 26 (0, 0))) ∧ (Below w.heap.size w w')) ?_ ?_
                  rotate_left
                  · intro hJ1
                    refine join_ (σ := Nat) 5 #[true, false, true, false, true, false, false, false] (fun s_ => [(6, .pointer (some ⟨s_, 0, none⟩))]) (fun s_ w' => (w'.cell? ⟨gb135, 0, none⟩ = some (.int .i64 a0_0) ∧ w'.cell? ⟨gb135, 1, none⟩ = some (.int .u64 a0_1) ∧ w'.cell? ⟨gb136, 0, none⟩ = some (.int .i64 a1_0) ∧ w'.cell? ⟨gb136, 1, none⟩ = some (.int .u64 a1_1)) ∧ (w'.heap[gb135]? = some (.cells #[.int .i64 a0_0, .int .u64 a0_1] 26 (0, 0))) ∧ (w'.heap[gb136]? = some (.cells #[.int .i64 a1_0, .int .u64 a1_1] 26 (0, 0))) ∧ (w'.heap[gb137]? = some (.cells #[.int .i64 0, .int .u64 0] 26 (0, 0))) ∧ (w'.heap[s_]? = some (.cells #[.int .i64 0, .int .i64 0, .int .i64 0, .int .i64 0] 46 (0, 0))) ∧ (w.heap.size ≤ s_) ∧ (w.heap.size ≤ s_) ∧ (gb135 ≠ s_) ∧ (s_ ≠ gb135) ∧ (gb136 ≠ s_) ∧ (s_ ≠ gb136) ∧ (gb137 ≠ s_) ∧ (s_ ≠ gb137) ∧ (Below w.heap.size w w')) ?_ ?_
                    rotate_left
                    · intro hJ4
                      refine join_ (σ := Nat) 5 #[true, false, true, false, false, true, false, false] (fun s_ => [(7, .pointer (some ⟨s_, 0, none⟩))]) (fun s_ w' => (w'.cell? ⟨gb135, 0, none⟩ = some (.int .i64 a0_0) ∧ w'.cell? ⟨gb135, 1, none⟩ = some (.int .u64 a0_1) ∧ w'.cell? ⟨gb136, 0, none⟩ = some (.int .i64 a1_0) ∧ w'.cell? ⟨gb136, 1, none⟩ = some (.int .u64 a1_1)) ∧ (w'.heap[gb135]? = some (.cells #[.int .i64 a0_0, .int .u64 a0_1] 26 (0, 0))) ∧ (w'.heap[gb136]? = some (.cells #[.int .i64 a1_0, .int .u64 a1_1] 26 (0, 0))) ∧ (w'.heap[gb137]? = some (.cells #[.int .i64 0, .int .u64 0] 26 (0, 0))) ∧ (w'.heap[s_]? = some (.cells #[.int .i64 0, .int .i64 0, .int .i64 0, .int .i64 0] 46 (0, 0))) ∧ (w.heap.size ≤ s_) ∧ (w.heap.size ≤ s_) ∧ (gb135 ≠ s_) ∧ (s_ ≠ gb135) ∧ (gb136 ≠ s_) ∧ (s_ ≠ gb136) ∧ (gb137 ≠ s_) ∧ (s_ ≠ gb137) ∧ (Below w.heap.size w w')) ?_ ?_
                      rotate_left
                      · intro hJ5
                        refine three_ (i := 1) (j := 4) (k := 5) (Ni := some 10) (Nj := some 6) (Nk := some 7) #[true, true, true, false, false, false, false, false] #[true, false, true, false, true, false, false, false] #[true, false, true, false, false, true, false, false] rfl rfl rfl rfl rfl rfl (three_of HT_.out (by kernel_rfl)) (by decide) (by decide) (by decide) (fun K hK => ?_) (fun K hK => ?_) (fun K hK => ?_)
                        · skip
                          refine goes_ Try.func22 (by kernel_rfl) rfl #[.agg #[.int .i64 a0_0, .int .u64 a0_1]] (by rfl) rfl rfl (by (try simp only [List.map_toArray, List.map_cons, List.map_nil]); first | done | rfl | (simp only [List.length_drop, List.length_take]; rfl)) ?_
                          with_reducible refine (corollaryref02_Four.calls a0_0 a0_1 t138 t139 t140 t141 _ A3.out).mono ?_
                          rintro e w9 ⟨rfl, hb⟩
                          refine ⟨_, rfl, ?_⟩
                          have n0_ := Aside0.mk (blk_below (g := gb135) (o := .cells #[.int .i64 a0_0, .int .u64 a0_1] 26 (0, 0)) (by (with_reducible repeat first | apply bN_ | apply bD_ | apply bA_); exact BK135.out) hb)
                          have n1_ := Aside0.mk (blk_below (g := gb136) (o := .cells #[.int .i64 a1_0, .int .u64 a1_1] 26 (0, 0)) (by (with_reducible repeat first | apply bN_ | apply bD_ | apply bA_); exact BK136.out) hb)
                          have n2_ := Aside0.mk (blk_below (g := gb137) (o := .cells #[.int .i64 0, .int .u64 0] 26 (0, 0)) (by (with_reducible repeat first | apply bN_ | apply bD_ | apply bA_); exact BK137.out) hb)
                          have n3_ := Aside0.mk (below_step (by repeat (first | (with_reducible first | exact HB.out | apply below_alloc | apply pw_below_drewN | apply below_drew1 | refine below_set ?_ GE135.out | refine below_set ?_ GE136.out | refine below_set ?_ GE137.out) | exact HB.out)) hb)
                          clear BK135
                          clear BK136
                          clear BK137
                          clear HB
                          have BK135 := n0_
                          have BK136 := n1_
                          have BK137 := n2_
                          have HB := n3_
                          clear n0_ n1_ n2_ n3_
                          (try clear hb)
                          (try clear hb2)
                          (try clear hk)
                          (try clear hi)
                          refine hK.out _ _ ⟨(blk_cell BK135.out 0).trans rfl, (blk_cell BK135.out 1).trans rfl, (blk_cell BK136.out 0).trans rfl, (blk_cell BK136.out 1).trans rfl⟩ (fun hHeld => ?_)
                          clear hK K
                          refine norm_ (a' := ?_) ?_ ?_
                          rotate_left
                          · show Act.put _ (some 10) _ = _
                            simp only [Act.put, List.setIfInBounds_toArray, List.set_cons_zero, List.set_cons_succ, i64_w, i32_w]
                            rfl
                          exact norm_ (by first | (simp only [putAll, Act.put, List.setIfInBounds_toArray, List.set_cons_zero, List.set_cons_succ]; done) | (simp only [putAll, Act.put, List.setIfInBounds_toArray, List.set_cons_zero, List.set_cons_succ]; rfl)) (hJ1 () _ ⟨hHeld, (by (with_reducible repeat first | apply bN_ | apply bD_ | apply bA_); exact BK135.out), (by (with_reducible repeat first | apply bN_ | apply bD_ | apply bA_); exact BK136.out), (by (with_reducible repeat first | apply bN_ | apply bD_ | apply bA_); exact BK137.out), (by repeat (first | (with_reducible first | exact HB.out | apply below_alloc | apply pw_below_drewN | apply below_drew1 | refine below_set ?_ GE135.out | refine below_set ?_ GE136.out | refine below_set ?_ GE137.out) | exact HB.out))⟩)
                        · skip
                          refine box_step ?hg (N := 6) ?hd (cs := #[.int .i64 0, .int .i64 0, .int .i64 0, .int .i64 0]) (t := 46) ?hr ?_; (case hd => rfl); (case hg => rfl); (case hr => first | (go_simp; done) | (go_simp; rfl))
                          intro gb146 hg w9 hbox hb
                          have n0_ := Aside0.mk (blk_below (g := gb135) (o := .cells #[.int .i64 a0_0, .int .u64 a0_1] 26 (0, 0)) (by (with_reducible repeat first | apply bN_ | apply bD_ | apply bA_); exact BK135.out) hb)
                          have n1_ := Aside0.mk (blk_below (g := gb136) (o := .cells #[.int .i64 a1_0, .int .u64 a1_1] 26 (0, 0)) (by (with_reducible repeat first | apply bN_ | apply bD_ | apply bA_); exact BK136.out) hb)
                          have n2_ := Aside0.mk (blk_below (g := gb137) (o := .cells #[.int .i64 0, .int .u64 0] 26 (0, 0)) (by (with_reducible repeat first | apply bN_ | apply bD_ | apply bA_); exact BK137.out) hb)
                          have n3_ := Aside0.mk (below_step (by repeat (first | (with_reducible first | exact HB.out | apply below_alloc | apply pw_below_drewN | apply below_drew1 | refine below_set ?_ GE135.out | refine below_set ?_ GE136.out | refine below_set ?_ GE137.out) | exact HB.out)) hb)
                          have n4_ := Aside0.mk (hbox)
                          have n5_ := Aside0.mk ((by rw [hg]; exact (below_size (by repeat (first | (with_reducible first | exact HB.out | apply below_alloc | apply pw_below_drewN | apply below_drew1 | refine below_set ?_ GE135.out | refine below_set ?_ GE136.out | refine below_set ?_ GE137.out) | exact HB.out))) : w.heap.size ≤ gb146))
                          have n6_ := Aside0.mk ((by rw [hg]; exact (below_size (by repeat (first | (with_reducible first | exact HB.out | apply below_alloc | apply pw_below_drewN | apply below_drew1 | refine below_set ?_ GE135.out | refine below_set ?_ GE136.out | refine below_set ?_ GE137.out) | exact HB.out))) : w.heap.size ≤ gb146))
                          have n7_ := Aside0.mk ((by rw [hg]; exact Nat.ne_of_lt (blk_lt (g := gb135) (o := .cells #[.int .i64 a0_0, .int .u64 a0_1] 26 (0, 0)) (by (with_reducible repeat first | apply bN_ | apply bD_ | apply bA_); exact BK135.out)) : gb135 ≠ gb146))
                          have n8_ := Aside0.mk ((by rw [hg]; exact Nat.ne_of_gt (blk_lt (g := gb135) (o := .cells #[.int .i64 a0_0, .int .u64 a0_1] 26 (0, 0)) (by (with_reducible repeat first | apply bN_ | apply bD_ | apply bA_); exact BK135.out)) : gb146 ≠ gb135))
                          have n9_ := Aside0.mk ((by rw [hg]; exact Nat.ne_of_lt (blk_lt (g := gb136) (o := .cells #[.int .i64 a1_0, .int .u64 a1_1] 26 (0, 0)) (by (with_reducible repeat first | apply bN_ | apply bD_ | apply bA_); exact BK136.out)) : gb136 ≠ gb146))
                          have n10_ := Aside0.mk ((by rw [hg]; exact Nat.ne_of_gt (blk_lt (g := gb136) (o := .cells #[.int .i64 a1_0, .int .u64 a1_1] 26 (0, 0)) (by (with_reducible repeat first | apply bN_ | apply bD_ | apply bA_); exact BK136.out)) : gb146 ≠ gb136))
                          have n11_ := Aside0.mk ((by rw [hg]; exact Nat.ne_of_lt (blk_lt (g := gb137) (o := .cells #[.int .i64 0, .int .u64 0] 26 (0, 0)) (by (with_reducible repeat first | apply bN_ | apply bD_ | apply bA_); exact BK137.out)) : gb137 ≠ gb146))
                          have n12_ := Aside0.mk ((by rw [hg]; exact Nat.ne_of_gt (blk_lt (g := gb137) (o := .cells #[.int .i64 0, .int .u64 0] 26 (0, 0)) (by (with_reducible repeat first | apply bN_ | apply bD_ | apply bA_); exact BK137.out)) : gb146 ≠ gb137))
                          clear BK135
                          clear BK136
                          clear BK137
                          clear HB
                          have BK135 := n0_
                          have BK136 := n1_
                          have BK137 := n2_
                          have HB := n3_
                          have BK146 := n4_
                          have GW146 := n5_
                          have GE146 := n6_
                          have NB135_146 := n7_
                          have NB146_135 := n8_
                          have NB136_146 := n9_
                          have NB146_136 := n10_
                          have NB137_146 := n11_
                          have NB146_137 := n12_
                          clear n0_ n1_ n2_ n3_ n4_ n5_ n6_ n7_ n8_ n9_ n10_ n11_ n12_
                          clear hb hbox hg
                          refine hK.out _ _ ⟨(blk_cell BK135.out 0).trans rfl, (blk_cell BK135.out 1).trans rfl, (blk_cell BK136.out 0).trans rfl, (blk_cell BK136.out 1).trans rfl⟩ (fun hHeld => ?_)
                          clear hK K
                          refine norm_ (a' := ?_) ?_ ?_
                          rotate_left
                          · show Act.put _ (some 6) _ = _
                            simp only [Act.put, List.setIfInBounds_toArray, List.set_cons_zero, List.set_cons_succ, i64_w, i32_w]
                            rfl
                          exact norm_ (by first | (simp only [putAll, Act.put, List.setIfInBounds_toArray, List.set_cons_zero, List.set_cons_succ]; done) | (simp only [putAll, Act.put, List.setIfInBounds_toArray, List.set_cons_zero, List.set_cons_succ]; rfl)) (hJ4 (gb146) _ ⟨hHeld, (by (with_reducible repeat first | apply bN_ | apply bD_ | apply bA_); exact BK135.out), (by (with_reducible repeat first | apply bN_ | apply bD_ | apply bA_); exact BK136.out), (by (with_reducible repeat first | apply bN_ | apply bD_ | apply bA_); exact BK137.out), (by (with_reducible repeat first | apply bN_ | apply bD_ | apply bA_); exact BK146.out), GW146.out, GE146.out, NB135_146.out, NB146_135.out, NB136_146.out, NB146_136.out, NB137_146.out, NB146_137.out, (by repeat (first | (with_reducible first | exact HB.out | apply below_alloc | apply pw_below_drewN | apply below_drew1 | refine below_set ?_ GE135.out | refine below_set ?_ GE136.out | refine below_set ?_ GE137.out | refine below_set ?_ GE146.out) | exact HB.out))⟩)
                        · skip
                          refine box_step ?hg (N := 7) ?hd (cs := #[.int .i64 0, .int .i64 0, .int .i64 0, .int .i64 0]) (t := 46) ?hr ?_; (case hd => rfl); (case hg => rfl); (case hr => first | (go_simp; done) | (go_simp; rfl))
                          intro gb147 hg w9 hbox hb
                          have n0_ := Aside0.mk (blk_below (g := gb135) (o := .cells #[.int .i64 a0_0, .int .u64 a0_1] 26 (0, 0)) (by (with_reducible repeat first | apply bN_ | apply bD_ | apply bA_); exact BK135.out) hb)
                          have n1_ := Aside0.mk (blk_below (g := gb136) (o := .cells #[.int .i64 a1_0, .int .u64 a1_1] 26 (0, 0)) (by (with_reducible repeat first | apply bN_ | apply bD_ | apply bA_); exact BK136.out) hb)
                          have n2_ := Aside0.mk (blk_below (g := gb137) (o := .cells #[.int .i64 0, .int .u64 0] 26 (0, 0)) (by (with_reducible repeat first | apply bN_ | apply bD_ | apply bA_); exact BK137.out) hb)
                          have n3_ := Aside0.mk (below_step (by repeat (first | (with_reducible first | exact HB.out | apply below_alloc | apply pw_below_drewN | apply below_drew1 | refine below_set ?_ GE135.out | refine below_set ?_ GE136.out | refine below_set ?_ GE137.out) | exact HB.out)) hb)
                          have n4_ := Aside0.mk (hbox)
                          have n5_ := Aside0.mk ((by rw [hg]; exact (below_size (by repeat (first | (with_reducible first | exact HB.out | apply below_alloc | apply pw_below_drewN | apply below_drew1 | refine below_set ?_ GE135.out | refine below_set ?_ GE136.out | refine below_set ?_ GE137.out) | exact HB.out))) : w.heap.size ≤ gb147))
                          have n6_ := Aside0.mk ((by rw [hg]; exact (below_size (by repeat (first | (with_reducible first | exact HB.out | apply below_alloc | apply pw_below_drewN | apply below_drew1 | refine below_set ?_ GE135.out | refine below_set ?_ GE136.out | refine below_set ?_ GE137.out) | exact HB.out))) : w.heap.size ≤ gb147))
                          have n7_ := Aside0.mk ((by rw [hg]; exact Nat.ne_of_lt (blk_lt (g := gb135) (o := .cells #[.int .i64 a0_0, .int .u64 a0_1] 26 (0, 0)) (by (with_reducible repeat first | apply bN_ | apply bD_ | apply bA_); exact BK135.out)) : gb135 ≠ gb147))
                          have n8_ := Aside0.mk ((by rw [hg]; exact Nat.ne_of_gt (blk_lt (g := gb135) (o := .cells #[.int .i64 a0_0, .int .u64 a0_1] 26 (0, 0)) (by (with_reducible repeat first | apply bN_ | apply bD_ | apply bA_); exact BK135.out)) : gb147 ≠ gb135))
                          have n9_ := Aside0.mk ((by rw [hg]; exact Nat.ne_of_lt (blk_lt (g := gb136) (o := .cells #[.int .i64 a1_0, .int .u64 a1_1] 26 (0, 0)) (by (with_reducible repeat first | apply bN_ | apply bD_ | apply bA_); exact BK136.out)) : gb136 ≠ gb147))
                          have n10_ := Aside0.mk ((by rw [hg]; exact Nat.ne_of_gt (blk_lt (g := gb136) (o := .cells #[.int .i64 a1_0, .int .u64 a1_1] 26 (0, 0)) (by (with_reducible repeat first | apply bN_ | apply bD_ | apply bA_); exact BK136.out)) : gb147 ≠ gb136))
                          have n11_ := Aside0.mk ((by rw [hg]; exact Nat.ne_of_lt (blk_lt (g := gb137) (o := .cells #[.int .i64 0, .int .u64 0] 26 (0, 0)) (by (with_reducible repeat first | apply bN_ | apply bD_ | apply bA_); exact BK137.out)) : gb137 ≠ gb147))
                          have n12_ := Aside0.mk ((by rw [hg]; exact Nat.ne_of_gt (blk_lt (g := gb137) (o := .cells #[.int .i64 0, .int .u64 0] 26 (0, 0)) (by (with_reducible repeat first | apply bN_ | apply bD_ | apply bA_); exact BK137.out)) : gb147 ≠ gb137))
                          clear BK135
                          clear BK136
                          clear BK137
                          clear HB
                          have BK135 := n0_
                          have BK136 := n1_
                          have BK137 := n2_
                          have HB := n3_
                          have BK147 := n4_
                          have GW147 := n5_
                          have GE147 := n6_
                          have NB135_147 := n7_
                          have NB147_135 := n8_
                          have NB136_147 := n9_
                          have NB147_136 := n10_
                          have NB137_147 := n11_
                          have NB147_137 := n12_
                          clear n0_ n1_ n2_ n3_ n4_ n5_ n6_ n7_ n8_ n9_ n10_ n11_ n12_
                          clear hb hbox hg
                          refine hK.out _ _ ⟨(blk_cell BK135.out 0).trans rfl, (blk_cell BK135.out 1).trans rfl, (blk_cell BK136.out 0).trans rfl, (blk_cell BK136.out 1).trans rfl⟩ (fun hHeld => ?_)
                          clear hK K
                          refine norm_ (a' := ?_) ?_ ?_
                          rotate_left
                          · show Act.put _ (some 7) _ = _
                            simp only [Act.put, List.setIfInBounds_toArray, List.set_cons_zero, List.set_cons_succ, i64_w, i32_w]
                            rfl
                          exact norm_ (by first | (simp only [putAll, Act.put, List.setIfInBounds_toArray, List.set_cons_zero, List.set_cons_succ]; done) | (simp only [putAll, Act.put, List.setIfInBounds_toArray, List.set_cons_zero, List.set_cons_succ]; rfl)) (hJ5 (gb147) _ ⟨hHeld, (by (with_reducible repeat first | apply bN_ | apply bD_ | apply bA_); exact BK135.out), (by (with_reducible repeat first | apply bN_ | apply bD_ | apply bA_); exact BK136.out), (by (with_reducible repeat first | apply bN_ | apply bD_ | apply bA_); exact BK137.out), (by (with_reducible repeat first | apply bN_ | apply bD_ | apply bA_); exact BK147.out), GW147.out, GE147.out, NB135_147.out, NB147_135.out, NB136_147.out, NB147_136.out, NB137_147.out, NB147_137.out, (by repeat (first | (with_reducible first | exact HB.out | apply below_alloc | apply pw_below_drewN | apply below_drew1 | refine below_set ?_ GE135.out | refine below_set ?_ GE136.out | refine below_set ?_ GE137.out | refine below_set ?_ GE147.out) | exact HB.out))⟩)
                      · skip
                        rintro gb147 w10 ⟨hS_, h0_, h1_, h2_, h3_, h4_, h5_, h6_, h7_, h8_, h9_, h10_, h11_, h12_⟩
                        have n0_ : Aside0 (w10.heap[gb135]? = some (.cells #[.int .i64 a0_0, .int .u64 a0_1] 26 (0, 0))) := ⟨h0_⟩
                        have n1_ : Aside0 (w10.heap[gb136]? = some (.cells #[.int .i64 a1_0, .int .u64 a1_1] 26 (0, 0))) := ⟨h1_⟩
                        have n2_ : Aside0 (w10.heap[gb137]? = some (.cells #[.int .i64 0, .int .u64 0] 26 (0, 0))) := ⟨h2_⟩
                        have n3_ : Aside0 (w10.heap[gb147]? = some (.cells #[.int .i64 0, .int .i64 0, .int .i64 0, .int .i64 0] 46 (0, 0))) := ⟨h3_⟩
                        have n4_ : Aside0 (w.heap.size ≤ gb147) := ⟨h4_⟩
                        have n5_ : Aside0 (w.heap.size ≤ gb147) := ⟨h5_⟩
                        have n6_ : Aside0 (gb135 ≠ gb147) := ⟨h6_⟩
                        have n7_ : Aside0 (gb147 ≠ gb135) := ⟨h7_⟩
                        have n8_ : Aside0 (gb136 ≠ gb147) := ⟨h8_⟩
                        have n9_ : Aside0 (gb147 ≠ gb136) := ⟨h9_⟩
                        have n10_ : Aside0 (gb137 ≠ gb147) := ⟨h10_⟩
                        have n11_ : Aside0 (gb147 ≠ gb137) := ⟨h11_⟩
                        have n12_ : Aside0 (Below w.heap.size w w10) := ⟨h12_⟩
                        clear BK135
                        clear BK136
                        clear BK137
                        clear HB
                        clear h0_ h1_ h2_ h3_ h4_ h5_ h6_ h7_ h8_ h9_ h10_ h11_ h12_
                        have BK135 := n0_
                        have BK136 := n1_
                        have BK137 := n2_
                        have BK147 := n3_
                        have GW147 := n4_
                        have GE147 := n5_
                        have NB135_147 := n6_
                        have NB147_135 := n7_
                        have NB136_147 := n8_
                        have NB147_136 := n9_
                        have NB137_147 := n10_
                        have NB147_137 := n11_
                        have HB := n12_
                        clear n0_ n1_ n2_ n3_ n4_ n5_ n6_ n7_ n8_ n9_ n10_ n11_ n12_
                        have hHeld : w10.cell? ⟨gb135, 0, none⟩ = some (.int .i64 a0_0) ∧ w10.cell? ⟨gb135, 1, none⟩ = some (.int .u64 a0_1) ∧ w10.cell? ⟨gb136, 0, none⟩ = some (.int .i64 a1_0) ∧ w10.cell? ⟨gb136, 1, none⟩ = some (.int .u64 a1_1) := hS_
                        refine norm_ (a' := ?_) ?_ ?_
                        rotate_left
                        · simp only [putAll, Act.put, List.setIfInBounds_toArray, List.set_cons_zero, List.set_cons_succ]
                          rfl
                        refine two_ (i := 1) (j := 4) (Ni := some 10) (Nj := some 6) #[true, true, true, false, false, true, false, false] #[true, false, true, false, true, true, false, false] rfl rfl rfl rfl (two_of HT_.out (by kernel_rfl)) (by decide) (by decide) (fun K hK => ?_) (fun K hK => ?_)
                        · skip
                          refine goes_ Try.func22 (by kernel_rfl) rfl #[.agg #[.int .i64 a0_0, .int .u64 a0_1]] (by rfl) rfl rfl (by (try simp only [List.map_toArray, List.map_cons, List.map_nil]); first | done | rfl | (simp only [List.length_drop, List.length_take]; rfl)) ?_
                          with_reducible refine (corollaryref02_Four.calls a0_0 a0_1 t138 t139 t140 t141 _ A3.out).mono ?_
                          rintro e w11 ⟨rfl, hb⟩
                          refine ⟨_, rfl, ?_⟩
                          have n0_ := Aside0.mk (blk_below (g := gb135) (o := .cells #[.int .i64 a0_0, .int .u64 a0_1] 26 (0, 0)) (by (with_reducible repeat first | apply bN_ | apply bD_ | apply bA_); exact BK135.out) hb)
                          have n1_ := Aside0.mk (blk_below (g := gb136) (o := .cells #[.int .i64 a1_0, .int .u64 a1_1] 26 (0, 0)) (by (with_reducible repeat first | apply bN_ | apply bD_ | apply bA_); exact BK136.out) hb)
                          have n2_ := Aside0.mk (blk_below (g := gb137) (o := .cells #[.int .i64 0, .int .u64 0] 26 (0, 0)) (by (with_reducible repeat first | apply bN_ | apply bD_ | apply bA_); exact BK137.out) hb)
                          have n3_ := Aside0.mk (blk_below (g := gb147) (o := .cells #[.int .i64 0, .int .i64 0, .int .i64 0, .int .i64 0] 46 (0, 0)) (by (with_reducible repeat first | apply bN_ | apply bD_ | apply bA_); exact BK147.out) hb)
                          have n4_ := Aside0.mk (below_step (by repeat (first | (with_reducible first | exact HB.out | apply below_alloc | apply pw_below_drewN | apply below_drew1 | refine below_set ?_ GE135.out | refine below_set ?_ GE136.out | refine below_set ?_ GE137.out | refine below_set ?_ GE147.out) | exact HB.out)) hb)
                          clear BK135
                          clear BK136
                          clear BK137
                          clear BK147
                          clear HB
                          have BK135 := n0_
                          have BK136 := n1_
                          have BK137 := n2_
                          have BK147 := n3_
                          have HB := n4_
                          clear n0_ n1_ n2_ n3_ n4_
                          (try clear hb)
                          (try clear hb2)
                          (try clear hk)
                          (try clear hi)
                          refine hK.out _ _ ⟨(blk_cell BK135.out 0).trans rfl, (blk_cell BK135.out 1).trans rfl, (blk_cell BK136.out 0).trans rfl, (blk_cell BK136.out 1).trans rfl⟩ (fun hHeld => ?_)
                          clear hK K
                          refine norm_ (a' := ?_) ?_ ?_
                          rotate_left
                          · show Act.put _ (some 10) _ = _
                            simp only [Act.put, List.setIfInBounds_toArray, List.set_cons_zero, List.set_cons_succ, i64_w, i32_w]
                            rfl
                          exact norm_ (by first | (simp only [putAll, Act.put, List.setIfInBounds_toArray, List.set_cons_zero, List.set_cons_succ]; done) | (simp only [putAll, Act.put, List.setIfInBounds_toArray, List.set_cons_zero, List.set_cons_succ]; rfl)) (hJ1_5 (gb147) _ ⟨hHeld, (by (with_reducible repeat first | apply bN_ | apply bD_ | apply bA_); exact BK135.out), (by (with_reducible repeat first | apply bN_ | apply bD_ | apply bA_); exact BK136.out), (by (with_reducible repeat first | apply bN_ | apply bD_ | apply bA_); exact BK137.out), (by (with_reducible repeat first | apply bN_ | apply bD_ | apply bA_); exact BK147.out), GW147.out, GE147.out, NB135_147.out, NB147_135.out, NB136_147.out, NB147_136.out, NB137_147.out, NB147_137.out, (by repeat (first | (with_reducible first | exact HB.out | apply below_alloc | apply pw_below_drewN | apply below_drew1 | refine below_set ?_ GE135.out | refine below_set ?_ GE136.out | refine below_set ?_ GE137.out | refine below_set ?_ GE147.out) | exact HB.out))⟩)
                        · skip
                          refine box_step ?hg (N := 6) ?hd (cs := #[.int .i64 0, .int .i64 0, .int .i64 0, .int .i64 0]) (t := 46) ?hr ?_; (case hd => rfl); (case hg => rfl); (case hr => first | (go_simp; done) | (go_simp; rfl))
                          intro gb146 hg w11 hbox hb
                          have n0_ := Aside0.mk (blk_below (g := gb135) (o := .cells #[.int .i64 a0_0, .int .u64 a0_1] 26 (0, 0)) (by (with_reducible repeat first | apply bN_ | apply bD_ | apply bA_); exact BK135.out) hb)
                          have n1_ := Aside0.mk (blk_below (g := gb136) (o := .cells #[.int .i64 a1_0, .int .u64 a1_1] 26 (0, 0)) (by (with_reducible repeat first | apply bN_ | apply bD_ | apply bA_); exact BK136.out) hb)
                          have n2_ := Aside0.mk (blk_below (g := gb137) (o := .cells #[.int .i64 0, .int .u64 0] 26 (0, 0)) (by (with_reducible repeat first | apply bN_ | apply bD_ | apply bA_); exact BK137.out) hb)
                          have n3_ := Aside0.mk (blk_below (g := gb147) (o := .cells #[.int .i64 0, .int .i64 0, .int .i64 0, .int .i64 0] 46 (0, 0)) (by (with_reducible repeat first | apply bN_ | apply bD_ | apply bA_); exact BK147.out) hb)
                          have n4_ := Aside0.mk (below_step (by repeat (first | (with_reducible first | exact HB.out | apply below_alloc | apply pw_below_drewN | apply below_drew1 | refine below_set ?_ GE135.out | refine below_set ?_ GE136.out | refine below_set ?_ GE137.out | refine below_set ?_ GE147.out) | exact HB.out)) hb)
                          have n5_ := Aside0.mk (hbox)
                          have n6_ := Aside0.mk ((by rw [hg]; exact (below_size (by repeat (first | (with_reducible first | exact HB.out | apply below_alloc | apply pw_below_drewN | apply below_drew1 | refine below_set ?_ GE135.out | refine below_set ?_ GE136.out | refine below_set ?_ GE137.out | refine below_set ?_ GE147.out) | exact HB.out))) : w.heap.size ≤ gb146))
                          have n7_ := Aside0.mk ((by rw [hg]; exact (below_size (by repeat (first | (with_reducible first | exact HB.out | apply below_alloc | apply pw_below_drewN | apply below_drew1 | refine below_set ?_ GE135.out | refine below_set ?_ GE136.out | refine below_set ?_ GE137.out | refine below_set ?_ GE147.out) | exact HB.out))) : w.heap.size ≤ gb146))
                          have n8_ := Aside0.mk ((by rw [hg]; exact Nat.ne_of_lt (blk_lt (g := gb135) (o := .cells #[.int .i64 a0_0, .int .u64 a0_1] 26 (0, 0)) (by (with_reducible repeat first | apply bN_ | apply bD_ | apply bA_); exact BK135.out)) : gb135 ≠ gb146))
                          have n9_ := Aside0.mk ((by rw [hg]; exact Nat.ne_of_gt (blk_lt (g := gb135) (o := .cells #[.int .i64 a0_0, .int .u64 a0_1] 26 (0, 0)) (by (with_reducible repeat first | apply bN_ | apply bD_ | apply bA_); exact BK135.out)) : gb146 ≠ gb135))
                          have n10_ := Aside0.mk ((by rw [hg]; exact Nat.ne_of_lt (blk_lt (g := gb136) (o := .cells #[.int .i64 a1_0, .int .u64 a1_1] 26 (0, 0)) (by (with_reducible repeat first | apply bN_ | apply bD_ | apply bA_); exact BK136.out)) : gb136 ≠ gb146))
                          have n11_ := Aside0.mk ((by rw [hg]; exact Nat.ne_of_gt (blk_lt (g := gb136) (o := .cells #[.int .i64 a1_0, .int .u64 a1_1] 26 (0, 0)) (by (with_reducible repeat first | apply bN_ | apply bD_ | apply bA_); exact BK136.out)) : gb146 ≠ gb136))
                          have n12_ := Aside0.mk ((by rw [hg]; exact Nat.ne_of_lt (blk_lt (g := gb137) (o := .cells #[.int .i64 0, .int .u64 0] 26 (0, 0)) (by (with_reducible repeat first | apply bN_ | apply bD_ | apply bA_); exact BK137.out)) : gb137 ≠ gb146))
                          have n13_ := Aside0.mk ((by rw [hg]; exact Nat.ne_of_gt (blk_lt (g := gb137) (o := .cells #[.int .i64 0, .int .u64 0] 26 (0, 0)) (by (with_reducible repeat first | apply bN_ | apply bD_ | apply bA_); exact BK137.out)) : gb146 ≠ gb137))
                          have n14_ := Aside0.mk ((by rw [hg]; exact Nat.ne_of_lt (blk_lt (g := gb147) (o := .cells #[.int .i64 0, .int .i64 0, .int .i64 0, .int .i64 0] 46 (0, 0)) (by (with_reducible repeat first | apply bN_ | apply bD_ | apply bA_); exact BK147.out)) : gb147 ≠ gb146))
                          have n15_ := Aside0.mk ((by rw [hg]; exact Nat.ne_of_gt (blk_lt (g := gb147) (o := .cells #[.int .i64 0, .int .i64 0, .int .i64 0, .int .i64 0] 46 (0, 0)) (by (with_reducible repeat first | apply bN_ | apply bD_ | apply bA_); exact BK147.out)) : gb146 ≠ gb147))
                          clear BK135
                          clear BK136
                          clear BK137
                          clear BK147
                          clear HB
                          have BK135 := n0_
                          have BK136 := n1_
                          have BK137 := n2_
                          have BK147 := n3_
                          have HB := n4_
                          have BK146 := n5_
                          have GW146 := n6_
                          have GE146 := n7_
                          have NB135_146 := n8_
                          have NB146_135 := n9_
                          have NB136_146 := n10_
                          have NB146_136 := n11_
                          have NB137_146 := n12_
                          have NB146_137 := n13_
                          have NB147_146 := n14_
                          have NB146_147 := n15_
                          clear n0_ n1_ n2_ n3_ n4_ n5_ n6_ n7_ n8_ n9_ n10_ n11_ n12_ n13_ n14_ n15_
                          clear hb hbox hg
                          refine hK.out _ _ ⟨(blk_cell BK135.out 0).trans rfl, (blk_cell BK135.out 1).trans rfl, (blk_cell BK136.out 0).trans rfl, (blk_cell BK136.out 1).trans rfl⟩ (fun hHeld => ?_)
                          clear hK K
                          refine norm_ (a' := ?_) ?_ ?_
                          rotate_left
                          · show Act.put _ (some 6) _ = _
                            simp only [Act.put, List.setIfInBounds_toArray, List.set_cons_zero, List.set_cons_succ, i64_w, i32_w]
                            rfl
                          exact norm_ (by first | (simp only [putAll, Act.put, List.setIfInBounds_toArray, List.set_cons_zero, List.set_cons_succ]; done) | (simp only [putAll, Act.put, List.setIfInBounds_toArray, List.set_cons_zero, List.set_cons_succ]; rfl)) (hJ4_5 (gb146, gb147) _ ⟨hHeld, (by (with_reducible repeat first | apply bN_ | apply bD_ | apply bA_); exact BK135.out), (by (with_reducible repeat first | apply bN_ | apply bD_ | apply bA_); exact BK136.out), (by (with_reducible repeat first | apply bN_ | apply bD_ | apply bA_); exact BK137.out), (by (with_reducible repeat first | apply bN_ | apply bD_ | apply bA_); exact BK146.out), (by (with_reducible repeat first | apply bN_ | apply bD_ | apply bA_); exact BK147.out), GW146.out, GE146.out, NB135_146.out, NB146_135.out, NB136_146.out, NB146_136.out, NB137_146.out, NB146_137.out, NB147_146.out, NB146_147.out, GW147.out, GE147.out, NB135_147.out, NB147_135.out, NB136_147.out, NB147_136.out, NB137_147.out, NB147_137.out, (by repeat (first | (with_reducible first | exact HB.out | apply below_alloc | apply pw_below_drewN | apply below_drew1 | refine below_set ?_ GE135.out | refine below_set ?_ GE136.out | refine below_set ?_ GE137.out | refine below_set ?_ GE147.out | refine below_set ?_ GE146.out) | exact HB.out))⟩)
                    · skip
                      rintro gb146 w10 ⟨hS_, h0_, h1_, h2_, h3_, h4_, h5_, h6_, h7_, h8_, h9_, h10_, h11_, h12_⟩
                      have n0_ : Aside0 (w10.heap[gb135]? = some (.cells #[.int .i64 a0_0, .int .u64 a0_1] 26 (0, 0))) := ⟨h0_⟩
                      have n1_ : Aside0 (w10.heap[gb136]? = some (.cells #[.int .i64 a1_0, .int .u64 a1_1] 26 (0, 0))) := ⟨h1_⟩
                      have n2_ : Aside0 (w10.heap[gb137]? = some (.cells #[.int .i64 0, .int .u64 0] 26 (0, 0))) := ⟨h2_⟩
                      have n3_ : Aside0 (w10.heap[gb146]? = some (.cells #[.int .i64 0, .int .i64 0, .int .i64 0, .int .i64 0] 46 (0, 0))) := ⟨h3_⟩
                      have n4_ : Aside0 (w.heap.size ≤ gb146) := ⟨h4_⟩
                      have n5_ : Aside0 (w.heap.size ≤ gb146) := ⟨h5_⟩
                      have n6_ : Aside0 (gb135 ≠ gb146) := ⟨h6_⟩
                      have n7_ : Aside0 (gb146 ≠ gb135) := ⟨h7_⟩
                      have n8_ : Aside0 (gb136 ≠ gb146) := ⟨h8_⟩
                      have n9_ : Aside0 (gb146 ≠ gb136) := ⟨h9_⟩
                      have n10_ : Aside0 (gb137 ≠ gb146) := ⟨h10_⟩
                      have n11_ : Aside0 (gb146 ≠ gb137) := ⟨h11_⟩
                      have n12_ : Aside0 (Below w.heap.size w w10) := ⟨h12_⟩
                      clear BK135
                      clear BK136
                      clear BK137
                      clear HB
                      clear h0_ h1_ h2_ h3_ h4_ h5_ h6_ h7_ h8_ h9_ h10_ h11_ h12_
                      have BK135 := n0_
                      have BK136 := n1_
                      have BK137 := n2_
                      have BK146 := n3_
                      have GW146 := n4_
                      have GE146 := n5_
                      have NB135_146 := n6_
                      have NB146_135 := n7_
                      have NB136_146 := n8_
                      have NB146_136 := n9_
                      have NB137_146 := n10_
                      have NB146_137 := n11_
                      have HB := n12_
                      clear n0_ n1_ n2_ n3_ n4_ n5_ n6_ n7_ n8_ n9_ n10_ n11_ n12_
                      have hHeld : w10.cell? ⟨gb135, 0, none⟩ = some (.int .i64 a0_0) ∧ w10.cell? ⟨gb135, 1, none⟩ = some (.int .u64 a0_1) ∧ w10.cell? ⟨gb136, 0, none⟩ = some (.int .i64 a1_0) ∧ w10.cell? ⟨gb136, 1, none⟩ = some (.int .u64 a1_1) := hS_
                      refine norm_ (a' := ?_) ?_ ?_
                      rotate_left
                      · simp only [putAll, Act.put, List.setIfInBounds_toArray, List.set_cons_zero, List.set_cons_succ]
                        rfl
                      refine two_ (i := 1) (j := 5) (Ni := some 10) (Nj := some 7) #[true, true, true, false, true, false, false, false] #[true, false, true, false, true, true, false, false] rfl rfl rfl rfl (two_of HT_.out (by kernel_rfl)) (by decide) (by decide) (fun K hK => ?_) (fun K hK => ?_)
                      · skip
                        refine goes_ Try.func22 (by kernel_rfl) rfl #[.agg #[.int .i64 a0_0, .int .u64 a0_1]] (by rfl) rfl rfl (by (try simp only [List.map_toArray, List.map_cons, List.map_nil]); first | done | rfl | (simp only [List.length_drop, List.length_take]; rfl)) ?_
                        with_reducible refine (corollaryref02_Four.calls a0_0 a0_1 t138 t139 t140 t141 _ A3.out).mono ?_
                        rintro e w11 ⟨rfl, hb⟩
                        refine ⟨_, rfl, ?_⟩
                        have n0_ := Aside0.mk (blk_below (g := gb135) (o := .cells #[.int .i64 a0_0, .int .u64 a0_1] 26 (0, 0)) (by (with_reducible repeat first | apply bN_ | apply bD_ | apply bA_); exact BK135.out) hb)
                        have n1_ := Aside0.mk (blk_below (g := gb136) (o := .cells #[.int .i64 a1_0, .int .u64 a1_1] 26 (0, 0)) (by (with_reducible repeat first | apply bN_ | apply bD_ | apply bA_); exact BK136.out) hb)
                        have n2_ := Aside0.mk (blk_below (g := gb137) (o := .cells #[.int .i64 0, .int .u64 0] 26 (0, 0)) (by (with_reducible repeat first | apply bN_ | apply bD_ | apply bA_); exact BK137.out) hb)
                        have n3_ := Aside0.mk (blk_below (g := gb146) (o := .cells #[.int .i64 0, .int .i64 0, .int .i64 0, .int .i64 0] 46 (0, 0)) (by (with_reducible repeat first | apply bN_ | apply bD_ | apply bA_); exact BK146.out) hb)
                        have n4_ := Aside0.mk (below_step (by repeat (first | (with_reducible first | exact HB.out | apply below_alloc | apply pw_below_drewN | apply below_drew1 | refine below_set ?_ GE135.out | refine below_set ?_ GE136.out | refine below_set ?_ GE137.out | refine below_set ?_ GE146.out) | exact HB.out)) hb)
                        clear BK135
                        clear BK136
                        clear BK137
                        clear BK146
                        clear HB
                        have BK135 := n0_
                        have BK136 := n1_
                        have BK137 := n2_
                        have BK146 := n3_
                        have HB := n4_
                        clear n0_ n1_ n2_ n3_ n4_
                        (try clear hb)
                        (try clear hb2)
                        (try clear hk)
                        (try clear hi)
                        refine hK.out _ _ ⟨(blk_cell BK135.out 0).trans rfl, (blk_cell BK135.out 1).trans rfl, (blk_cell BK136.out 0).trans rfl, (blk_cell BK136.out 1).trans rfl⟩ (fun hHeld => ?_)
                        clear hK K
                        refine norm_ (a' := ?_) ?_ ?_
                        rotate_left
                        · show Act.put _ (some 10) _ = _
                          simp only [Act.put, List.setIfInBounds_toArray, List.set_cons_zero, List.set_cons_succ, i64_w, i32_w]
                          rfl
                        exact norm_ (by first | (simp only [putAll, Act.put, List.setIfInBounds_toArray, List.set_cons_zero, List.set_cons_succ]; done) | (simp only [putAll, Act.put, List.setIfInBounds_toArray, List.set_cons_zero, List.set_cons_succ]; rfl)) (hJ1_4 (gb146) _ ⟨hHeld, (by (with_reducible repeat first | apply bN_ | apply bD_ | apply bA_); exact BK135.out), (by (with_reducible repeat first | apply bN_ | apply bD_ | apply bA_); exact BK136.out), (by (with_reducible repeat first | apply bN_ | apply bD_ | apply bA_); exact BK137.out), (by (with_reducible repeat first | apply bN_ | apply bD_ | apply bA_); exact BK146.out), GW146.out, GE146.out, NB135_146.out, NB146_135.out, NB136_146.out, NB146_136.out, NB137_146.out, NB146_137.out, (by repeat (first | (with_reducible first | exact HB.out | apply below_alloc | apply pw_below_drewN | apply below_drew1 | refine below_set ?_ GE135.out | refine below_set ?_ GE136.out | refine below_set ?_ GE137.out | refine below_set ?_ GE146.out) | exact HB.out))⟩)
                      · skip
                        refine box_step ?hg (N := 7) ?hd (cs := #[.int .i64 0, .int .i64 0, .int .i64 0, .int .i64 0]) (t := 46) ?hr ?_; (case hd => rfl); (case hg => rfl); (case hr => first | (go_simp; done) | (go_simp; rfl))
                        intro gb147 hg w11 hbox hb
                        have n0_ := Aside0.mk (blk_below (g := gb135) (o := .cells #[.int .i64 a0_0, .int .u64 a0_1] 26 (0, 0)) (by (with_reducible repeat first | apply bN_ | apply bD_ | apply bA_); exact BK135.out) hb)
                        have n1_ := Aside0.mk (blk_below (g := gb136) (o := .cells #[.int .i64 a1_0, .int .u64 a1_1] 26 (0, 0)) (by (with_reducible repeat first | apply bN_ | apply bD_ | apply bA_); exact BK136.out) hb)
                        have n2_ := Aside0.mk (blk_below (g := gb137) (o := .cells #[.int .i64 0, .int .u64 0] 26 (0, 0)) (by (with_reducible repeat first | apply bN_ | apply bD_ | apply bA_); exact BK137.out) hb)
                        have n3_ := Aside0.mk (blk_below (g := gb146) (o := .cells #[.int .i64 0, .int .i64 0, .int .i64 0, .int .i64 0] 46 (0, 0)) (by (with_reducible repeat first | apply bN_ | apply bD_ | apply bA_); exact BK146.out) hb)
                        have n4_ := Aside0.mk (below_step (by repeat (first | (with_reducible first | exact HB.out | apply below_alloc | apply pw_below_drewN | apply below_drew1 | refine below_set ?_ GE135.out | refine below_set ?_ GE136.out | refine below_set ?_ GE137.out | refine below_set ?_ GE146.out) | exact HB.out)) hb)
                        have n5_ := Aside0.mk (hbox)
                        have n6_ := Aside0.mk ((by rw [hg]; exact (below_size (by repeat (first | (with_reducible first | exact HB.out | apply below_alloc | apply pw_below_drewN | apply below_drew1 | refine below_set ?_ GE135.out | refine below_set ?_ GE136.out | refine below_set ?_ GE137.out | refine below_set ?_ GE146.out) | exact HB.out))) : w.heap.size ≤ gb147))
                        have n7_ := Aside0.mk ((by rw [hg]; exact (below_size (by repeat (first | (with_reducible first | exact HB.out | apply below_alloc | apply pw_below_drewN | apply below_drew1 | refine below_set ?_ GE135.out | refine below_set ?_ GE136.out | refine below_set ?_ GE137.out | refine below_set ?_ GE146.out) | exact HB.out))) : w.heap.size ≤ gb147))
                        have n8_ := Aside0.mk ((by rw [hg]; exact Nat.ne_of_lt (blk_lt (g := gb135) (o := .cells #[.int .i64 a0_0, .int .u64 a0_1] 26 (0, 0)) (by (with_reducible repeat first | apply bN_ | apply bD_ | apply bA_); exact BK135.out)) : gb135 ≠ gb147))
                        have n9_ := Aside0.mk ((by rw [hg]; exact Nat.ne_of_gt (blk_lt (g := gb135) (o := .cells #[.int .i64 a0_0, .int .u64 a0_1] 26 (0, 0)) (by (with_reducible repeat first | apply bN_ | apply bD_ | apply bA_); exact BK135.out)) : gb147 ≠ gb135))
                        have n10_ := Aside0.mk ((by rw [hg]; exact Nat.ne_of_lt (blk_lt (g := gb136) (o := .cells #[.int .i64 a1_0, .int .u64 a1_1] 26 (0, 0)) (by (with_reducible repeat first | apply bN_ | apply bD_ | apply bA_); exact BK136.out)) : gb136 ≠ gb147))
                        have n11_ := Aside0.mk ((by rw [hg]; exact Nat.ne_of_gt (blk_lt (g := gb136) (o := .cells #[.int .i64 a1_0, .int .u64 a1_1] 26 (0, 0)) (by (with_reducible repeat first | apply bN_ | apply bD_ | apply bA_); exact BK136.out)) : gb147 ≠ gb136))
                        have n12_ := Aside0.mk ((by rw [hg]; exact Nat.ne_of_lt (blk_lt (g := gb137) (o := .cells #[.int .i64 0, .int .u64 0] 26 (0, 0)) (by (with_reducible repeat first | apply bN_ | apply bD_ | apply bA_); exact BK137.out)) : gb137 ≠ gb147))
                        have n13_ := Aside0.mk ((by rw [hg]; exact Nat.ne_of_gt (blk_lt (g := gb137) (o := .cells #[.int .i64 0, .int .u64 0] 26 (0, 0)) (by (with_reducible repeat first | apply bN_ | apply bD_ | apply bA_); exact BK137.out)) : gb147 ≠ gb137))
                        have n14_ := Aside0.mk ((by rw [hg]; exact Nat.ne_of_lt (blk_lt (g := gb146) (o := .cells #[.int .i64 0, .int .i64 0, .int .i64 0, .int .i64 0] 46 (0, 0)) (by (with_reducible repeat first | apply bN_ | apply bD_ | apply bA_); exact BK146.out)) : gb146 ≠ gb147))
                        have n15_ := Aside0.mk ((by rw [hg]; exact Nat.ne_of_gt (blk_lt (g := gb146) (o := .cells #[.int .i64 0, .int .i64 0, .int .i64 0, .int .i64 0] 46 (0, 0)) (by (with_reducible repeat first | apply bN_ | apply bD_ | apply bA_); exact BK146.out)) : gb147 ≠ gb146))
                        clear BK135
                        clear BK136
                        clear BK137
                        clear BK146
                        clear HB
                        have BK135 := n0_
                        have BK136 := n1_
                        have BK137 := n2_
                        have BK146 := n3_
                        have HB := n4_
                        have BK147 := n5_
                        have GW147 := n6_
                        have GE147 := n7_
                        have NB135_147 := n8_
                        have NB147_135 := n9_
                        have NB136_147 := n10_
                        have NB147_136 := n11_
                        have NB137_147 := n12_
                        have NB147_137 := n13_
                        have NB146_147 := n14_
                        have NB147_146 := n15_
                        clear n0_ n1_ n2_ n3_ n4_ n5_ n6_ n7_ n8_ n9_ n10_ n11_ n12_ n13_ n14_ n15_
                        clear hb hbox hg
                        refine hK.out _ _ ⟨(blk_cell BK135.out 0).trans rfl, (blk_cell BK135.out 1).trans rfl, (blk_cell BK136.out 0).trans rfl, (blk_cell BK136.out 1).trans rfl⟩ (fun hHeld => ?_)
                        clear hK K
                        refine norm_ (a' := ?_) ?_ ?_
                        rotate_left
                        · show Act.put _ (some 7) _ = _
                          simp only [Act.put, List.setIfInBounds_toArray, List.set_cons_zero, List.set_cons_succ, i64_w, i32_w]
                          rfl
                        exact norm_ (by first | (simp only [putAll, Act.put, List.setIfInBounds_toArray, List.set_cons_zero, List.set_cons_succ]; done) | (simp only [putAll, Act.put, List.setIfInBounds_toArray, List.set_cons_zero, List.set_cons_succ]; rfl)) (hJ4_5 (gb146, gb147) _ ⟨hHeld, (by (with_reducible repeat first | apply bN_ | apply bD_ | apply bA_); exact BK135.out), (by (with_reducible repeat first | apply bN_ | apply bD_ | apply bA_); exact BK136.out), (by (with_reducible repeat first | apply bN_ | apply bD_ | apply bA_); exact BK137.out), (by (with_reducible repeat first | apply bN_ | apply bD_ | apply bA_); exact BK146.out), (by (with_reducible repeat first | apply bN_ | apply bD_ | apply bA_); exact BK147.out), GW146.out, GE146.out, NB135_146.out, NB146_135.out, NB136_146.out, NB146_136.out, NB137_146.out, NB146_137.out, NB147_146.out, NB146_147.out, GW147.out, GE147.out, NB135_147.out, NB147_135.out, NB136_147.out, NB147_136.out, NB137_147.out, NB147_137.out, (by repeat (first | (with_reducible first | exact HB.out | apply below_alloc | apply pw_below_drewN | apply below_drew1 | refine below_set ?_ GE135.out | refine below_set ?_ GE136.out | refine below_set ?_ GE137.out | refine below_set ?_ GE146.out | refine below_set ?_ GE147.out) | exact HB.out))⟩)
                  · skip
                    rintro _ w10 ⟨hS_, h0_, h1_, h2_, h3_⟩
                    have n0_ : Aside0 (w10.heap[gb135]? = some (.cells #[.int .i64 a0_0, .int .u64 a0_1] 26 (0, 0))) := ⟨h0_⟩
                    have n1_ : Aside0 (w10.heap[gb136]? = some (.cells #[.int .i64 a1_0, .int .u64 a1_1] 26 (0, 0))) := ⟨h1_⟩
                    have n2_ : Aside0 (w10.heap[gb137]? = some (.cells #[.int .i64 0, .int .u64 0] 26 (0, 0))) := ⟨h2_⟩
                    have n3_ : Aside0 (Below w.heap.size w w10) := ⟨h3_⟩
                    clear BK135
                    clear BK136
                    clear BK137
                    clear HB
                    clear h0_ h1_ h2_ h3_
                    have BK135 := n0_
                    have BK136 := n1_
                    have BK137 := n2_
                    have HB := n3_
                    clear n0_ n1_ n2_ n3_
                    have hHeld : w10.cell? ⟨gb135, 0, none⟩ = some (.int .i64 a0_0) ∧ w10.cell? ⟨gb135, 1, none⟩ = some (.int .u64 a0_1) ∧ w10.cell? ⟨gb136, 0, none⟩ = some (.int .i64 a1_0) ∧ w10.cell? ⟨gb136, 1, none⟩ = some (.int .u64 a1_1) := hS_
                    refine norm_ (a' := ?_) ?_ ?_
                    rotate_left
                    · simp only [putAll, Act.put, List.setIfInBounds_toArray, List.set_cons_zero, List.set_cons_succ]
                      rfl
                    refine three_ (i := 3) (j := 4) (k := 5) (Ni := some 12) (Nj := some 6) (Nk := some 7) #[true, true, true, true, false, false, false, false] #[true, true, true, false, true, false, false, false] #[true, true, true, false, false, true, false, false] rfl rfl rfl rfl rfl rfl (three_of HT_.out (by kernel_rfl)) (by decide) (by decide) (by decide) (fun K hK => ?_) (fun K hK => ?_) (fun K hK => ?_)
                    · skip
                      refine goes_ Try.func22 (by kernel_rfl) rfl #[.agg #[.int .i64 a1_0, .int .u64 a1_1]] (by rfl) rfl rfl (by (try simp only [List.map_toArray, List.map_cons, List.map_nil]); first | done | rfl | (simp only [List.length_drop, List.length_take]; rfl)) ?_
                      with_reducible refine (corollaryref02_Four.calls a1_0 a1_1 t142 t143 t144 t145 _ A4.out).mono ?_
                      rintro e w11 ⟨rfl, hb⟩
                      refine ⟨_, rfl, ?_⟩
                      have n0_ := Aside0.mk (blk_below (g := gb135) (o := .cells #[.int .i64 a0_0, .int .u64 a0_1] 26 (0, 0)) (by (with_reducible repeat first | apply bN_ | apply bD_ | apply bA_); exact BK135.out) hb)
                      have n1_ := Aside0.mk (blk_below (g := gb136) (o := .cells #[.int .i64 a1_0, .int .u64 a1_1] 26 (0, 0)) (by (with_reducible repeat first | apply bN_ | apply bD_ | apply bA_); exact BK136.out) hb)
                      have n2_ := Aside0.mk (blk_below (g := gb137) (o := .cells #[.int .i64 0, .int .u64 0] 26 (0, 0)) (by (with_reducible repeat first | apply bN_ | apply bD_ | apply bA_); exact BK137.out) hb)
                      have n3_ := Aside0.mk (below_step (by repeat (first | (with_reducible first | exact HB.out | apply below_alloc | apply pw_below_drewN | apply below_drew1 | refine below_set ?_ GE135.out | refine below_set ?_ GE136.out | refine below_set ?_ GE137.out) | exact HB.out)) hb)
                      clear BK135
                      clear BK136
                      clear BK137
                      clear HB
                      have BK135 := n0_
                      have BK136 := n1_
                      have BK137 := n2_
                      have HB := n3_
                      clear n0_ n1_ n2_ n3_
                      (try clear hb)
                      (try clear hb2)
                      (try clear hk)
                      (try clear hi)
                      refine hK.out _ _ ⟨(blk_cell BK135.out 0).trans rfl, (blk_cell BK135.out 1).trans rfl, (blk_cell BK136.out 0).trans rfl, (blk_cell BK136.out 1).trans rfl⟩ (fun hHeld => ?_)
                      clear hK K
                      refine norm_ (a' := ?_) ?_ ?_
                      rotate_left
                      · show Act.put _ (some 12) _ = _
                        simp only [Act.put, List.setIfInBounds_toArray, List.set_cons_zero, List.set_cons_succ, i64_w, i32_w]
                        rfl
                      exact norm_ (by first | (simp only [putAll, Act.put, List.setIfInBounds_toArray, List.set_cons_zero, List.set_cons_succ]; done) | (simp only [putAll, Act.put, List.setIfInBounds_toArray, List.set_cons_zero, List.set_cons_succ]; rfl)) (hJ1_3 () _ ⟨hHeld, (by (with_reducible repeat first | apply bN_ | apply bD_ | apply bA_); exact BK135.out), (by (with_reducible repeat first | apply bN_ | apply bD_ | apply bA_); exact BK136.out), (by (with_reducible repeat first | apply bN_ | apply bD_ | apply bA_); exact BK137.out), (by repeat (first | (with_reducible first | exact HB.out | apply below_alloc | apply pw_below_drewN | apply below_drew1 | refine below_set ?_ GE135.out | refine below_set ?_ GE136.out | refine below_set ?_ GE137.out) | exact HB.out))⟩)
                    · skip
                      refine box_step ?hg (N := 6) ?hd (cs := #[.int .i64 0, .int .i64 0, .int .i64 0, .int .i64 0]) (t := 46) ?hr ?_; (case hd => rfl); (case hg => rfl); (case hr => first | (go_simp; done) | (go_simp; rfl))
                      intro gb146 hg w11 hbox hb
                      have n0_ := Aside0.mk (blk_below (g := gb135) (o := .cells #[.int .i64 a0_0, .int .u64 a0_1] 26 (0, 0)) (by (with_reducible repeat first | apply bN_ | apply bD_ | apply bA_); exact BK135.out) hb)
                      have n1_ := Aside0.mk (blk_below (g := gb136) (o := .cells #[.int .i64 a1_0, .int .u64 a1_1] 26 (0, 0)) (by (with_reducible repeat first | apply bN_ | apply bD_ | apply bA_); exact BK136.out) hb)
                      have n2_ := Aside0.mk (blk_below (g := gb137) (o := .cells #[.int .i64 0, .int .u64 0] 26 (0, 0)) (by (with_reducible repeat first | apply bN_ | apply bD_ | apply bA_); exact BK137.out) hb)
                      have n3_ := Aside0.mk (below_step (by repeat (first | (with_reducible first | exact HB.out | apply below_alloc | apply pw_below_drewN | apply below_drew1 | refine below_set ?_ GE135.out | refine below_set ?_ GE136.out | refine below_set ?_ GE137.out) | exact HB.out)) hb)
                      have n4_ := Aside0.mk (hbox)
                      have n5_ := Aside0.mk ((by rw [hg]; exact (below_size (by repeat (first | (with_reducible first | exact HB.out | apply below_alloc | apply pw_below_drewN | apply below_drew1 | refine below_set ?_ GE135.out | refine below_set ?_ GE136.out | refine below_set ?_ GE137.out) | exact HB.out))) : w.heap.size ≤ gb146))
                      have n6_ := Aside0.mk ((by rw [hg]; exact (below_size (by repeat (first | (with_reducible first | exact HB.out | apply below_alloc | apply pw_below_drewN | apply below_drew1 | refine below_set ?_ GE135.out | refine below_set ?_ GE136.out | refine below_set ?_ GE137.out) | exact HB.out))) : w.heap.size ≤ gb146))
                      have n7_ := Aside0.mk ((by rw [hg]; exact Nat.ne_of_lt (blk_lt (g := gb135) (o := .cells #[.int .i64 a0_0, .int .u64 a0_1] 26 (0, 0)) (by (with_reducible repeat first | apply bN_ | apply bD_ | apply bA_); exact BK135.out)) : gb135 ≠ gb146))
                      have n8_ := Aside0.mk ((by rw [hg]; exact Nat.ne_of_gt (blk_lt (g := gb135) (o := .cells #[.int .i64 a0_0, .int .u64 a0_1] 26 (0, 0)) (by (with_reducible repeat first | apply bN_ | apply bD_ | apply bA_); exact BK135.out)) : gb146 ≠ gb135))
                      have n9_ := Aside0.mk ((by rw [hg]; exact Nat.ne_of_lt (blk_lt (g := gb136) (o := .cells #[.int .i64 a1_0, .int .u64 a1_1] 26 (0, 0)) (by (with_reducible repeat first | apply bN_ | apply bD_ | apply bA_); exact BK136.out)) : gb136 ≠ gb146))
                      have n10_ := Aside0.mk ((by rw [hg]; exact Nat.ne_of_gt (blk_lt (g := gb136) (o := .cells #[.int .i64 a1_0, .int .u64 a1_1] 26 (0, 0)) (by (with_reducible repeat first | apply bN_ | apply bD_ | apply bA_); exact BK136.out)) : gb146 ≠ gb136))
                      have n11_ := Aside0.mk ((by rw [hg]; exact Nat.ne_of_lt (blk_lt (g := gb137) (o := .cells #[.int .i64 0, .int .u64 0] 26 (0, 0)) (by (with_reducible repeat first | apply bN_ | apply bD_ | apply bA_); exact BK137.out)) : gb137 ≠ gb146))
                      have n12_ := Aside0.mk ((by rw [hg]; exact Nat.ne_of_gt (blk_lt (g := gb137) (o := .cells #[.int .i64 0, .int .u64 0] 26 (0, 0)) (by (with_reducible repeat first | apply bN_ | apply bD_ | apply bA_); exact BK137.out)) : gb146 ≠ gb137))
                      clear BK135
                      clear BK136
                      clear BK137
                      clear HB
                      have BK135 := n0_
                      have BK136 := n1_
                      have BK137 := n2_
                      have HB := n3_
                      have BK146 := n4_
                      have GW146 := n5_
                      have GE146 := n6_
                      have NB135_146 := n7_
                      have NB146_135 := n8_
                      have NB136_146 := n9_
                      have NB146_136 := n10_
                      have NB137_146 := n11_
                      have NB146_137 := n12_
                      clear n0_ n1_ n2_ n3_ n4_ n5_ n6_ n7_ n8_ n9_ n10_ n11_ n12_
                      clear hb hbox hg
                      refine hK.out _ _ ⟨(blk_cell BK135.out 0).trans rfl, (blk_cell BK135.out 1).trans rfl, (blk_cell BK136.out 0).trans rfl, (blk_cell BK136.out 1).trans rfl⟩ (fun hHeld => ?_)
                      clear hK K
                      refine norm_ (a' := ?_) ?_ ?_
                      rotate_left
                      · show Act.put _ (some 6) _ = _
                        simp only [Act.put, List.setIfInBounds_toArray, List.set_cons_zero, List.set_cons_succ, i64_w, i32_w]
                        rfl
                      exact norm_ (by first | (simp only [putAll, Act.put, List.setIfInBounds_toArray, List.set_cons_zero, List.set_cons_succ]; done) | (simp only [putAll, Act.put, List.setIfInBounds_toArray, List.set_cons_zero, List.set_cons_succ]; rfl)) (hJ1_4 (gb146) _ ⟨hHeld, (by (with_reducible repeat first | apply bN_ | apply bD_ | apply bA_); exact BK135.out), (by (with_reducible repeat first | apply bN_ | apply bD_ | apply bA_); exact BK136.out), (by (with_reducible repeat first | apply bN_ | apply bD_ | apply bA_); exact BK137.out), (by (with_reducible repeat first | apply bN_ | apply bD_ | apply bA_); exact BK146.out), GW146.out, GE146.out, NB135_146.out, NB146_135.out, NB136_146.out, NB146_136.out, NB137_146.out, NB146_137.out, (by repeat (first | (with_reducible first | exact HB.out | apply below_alloc | apply pw_below_drewN | apply below_drew1 | refine below_set ?_ GE135.out | refine below_set ?_ GE136.out | refine below_set ?_ GE137.out | refine below_set ?_ GE146.out) | exact HB.out))⟩)
                    · skip
                      refine box_step ?hg (N := 7) ?hd (cs := #[.int .i64 0, .int .i64 0, .int .i64 0, .int .i64 0]) (t := 46) ?hr ?_; (case hd => rfl); (case hg => rfl); (case hr => first | (go_simp; done) | (go_simp; rfl))
                      intro gb147 hg w11 hbox hb
                      have n0_ := Aside0.mk (blk_below (g := gb135) (o := .cells #[.int .i64 a0_0, .int .u64 a0_1] 26 (0, 0)) (by (with_reducible repeat first | apply bN_ | apply bD_ | apply bA_); exact BK135.out) hb)
                      have n1_ := Aside0.mk (blk_below (g := gb136) (o := .cells #[.int .i64 a1_0, .int .u64 a1_1] 26 (0, 0)) (by (with_reducible repeat first | apply bN_ | apply bD_ | apply bA_); exact BK136.out) hb)
                      have n2_ := Aside0.mk (blk_below (g := gb137) (o := .cells #[.int .i64 0, .int .u64 0] 26 (0, 0)) (by (with_reducible repeat first | apply bN_ | apply bD_ | apply bA_); exact BK137.out) hb)
                      have n3_ := Aside0.mk (below_step (by repeat (first | (with_reducible first | exact HB.out | apply below_alloc | apply pw_below_drewN | apply below_drew1 | refine below_set ?_ GE135.out | refine below_set ?_ GE136.out | refine below_set ?_ GE137.out) | exact HB.out)) hb)
                      have n4_ := Aside0.mk (hbox)
                      have n5_ := Aside0.mk ((by rw [hg]; exact (below_size (by repeat (first | (with_reducible first | exact HB.out | apply below_alloc | apply pw_below_drewN | apply below_drew1 | refine below_set ?_ GE135.out | refine below_set ?_ GE136.out | refine below_set ?_ GE137.out) | exact HB.out))) : w.heap.size ≤ gb147))
                      have n6_ := Aside0.mk ((by rw [hg]; exact (below_size (by repeat (first | (with_reducible first | exact HB.out | apply below_alloc | apply pw_below_drewN | apply below_drew1 | refine below_set ?_ GE135.out | refine below_set ?_ GE136.out | refine below_set ?_ GE137.out) | exact HB.out))) : w.heap.size ≤ gb147))
                      have n7_ := Aside0.mk ((by rw [hg]; exact Nat.ne_of_lt (blk_lt (g := gb135) (o := .cells #[.int .i64 a0_0, .int .u64 a0_1] 26 (0, 0)) (by (with_reducible repeat first | apply bN_ | apply bD_ | apply bA_); exact BK135.out)) : gb135 ≠ gb147))
                      have n8_ := Aside0.mk ((by rw [hg]; exact Nat.ne_of_gt (blk_lt (g := gb135) (o := .cells #[.int .i64 a0_0, .int .u64 a0_1] 26 (0, 0)) (by (with_reducible repeat first | apply bN_ | apply bD_ | apply bA_); exact BK135.out)) : gb147 ≠ gb135))
                      have n9_ := Aside0.mk ((by rw [hg]; exact Nat.ne_of_lt (blk_lt (g := gb136) (o := .cells #[.int .i64 a1_0, .int .u64 a1_1] 26 (0, 0)) (by (with_reducible repeat first | apply bN_ | apply bD_ | apply bA_); exact BK136.out)) : gb136 ≠ gb147))
                      have n10_ := Aside0.mk ((by rw [hg]; exact Nat.ne_of_gt (blk_lt (g := gb136) (o := .cells #[.int .i64 a1_0, .int .u64 a1_1] 26 (0, 0)) (by (with_reducible repeat first | apply bN_ | apply bD_ | apply bA_); exact BK136.out)) : gb147 ≠ gb136))
                      have n11_ := Aside0.mk ((by rw [hg]; exact Nat.ne_of_lt (blk_lt (g := gb137) (o := .cells #[.int .i64 0, .int .u64 0] 26 (0, 0)) (by (with_reducible repeat first | apply bN_ | apply bD_ | apply bA_); exact BK137.out)) : gb137 ≠ gb147))
                      have n12_ := Aside0.mk ((by rw [hg]; exact Nat.ne_of_gt (blk_lt (g := gb137) (o := .cells #[.int .i64 0, .int .u64 0] 26 (0, 0)) (by (with_reducible repeat first | apply bN_ | apply bD_ | apply bA_); exact BK137.out)) : gb147 ≠ gb137))
                      clear BK135
                      clear BK136
                      clear BK137
                      clear HB
                      have BK135 := n0_
                      have BK136 := n1_
                      have BK137 := n2_
                      have HB := n3_
                      have BK147 := n4_
                      have GW147 := n5_
                      have GE147 := n6_
                      have NB135_147 := n7_
                      have NB147_135 := n8_
                      have NB136_147 := n9_
                      have NB147_136 := n10_
                      have NB137_147 := n11_
                      have NB147_137 := n12_
                      clear n0_ n1_ n2_ n3_ n4_ n5_ n6_ n7_ n8_ n9_ n10_ n11_ n12_
                      clear hb hbox hg
                      refine hK.out _ _ ⟨(blk_cell BK135.out 0).trans rfl, (blk_cell BK135.out 1).trans rfl, (blk_cell BK136.out 0).trans rfl, (blk_cell BK136.out 1).trans rfl⟩ (fun hHeld => ?_)
                      clear hK K
                      refine norm_ (a' := ?_) ?_ ?_
                      rotate_left
                      · show Act.put _ (some 7) _ = _
                        simp only [Act.put, List.setIfInBounds_toArray, List.set_cons_zero, List.set_cons_succ, i64_w, i32_w]
                        rfl
                      exact norm_ (by first | (simp only [putAll, Act.put, List.setIfInBounds_toArray, List.set_cons_zero, List.set_cons_succ]; done) | (simp only [putAll, Act.put, List.setIfInBounds_toArray, List.set_cons_zero, List.set_cons_succ]; rfl)) (hJ1_5 (gb147) _ ⟨hHeld, (by (with_reducible repeat first | apply bN_ | apply bD_ | apply bA_); exact BK135.out), (by (with_reducible repeat first | apply bN_ | apply bD_ | apply bA_); exact BK136.out), (by (with_reducible repeat first | apply bN_ | apply bD_ | apply bA_); exact BK137.out), (by (with_reducible repeat first | apply bN_ | apply bD_ | apply bA_); exact BK147.out), GW147.out, GE147.out, NB135_147.out, NB147_135.out, NB136_147.out, NB147_136.out, NB137_147.out, NB147_137.out, (by repeat (first | (with_reducible first | exact HB.out | apply below_alloc | apply pw_below_drewN | apply below_drew1 | refine below_set ?_ GE135.out | refine below_set ?_ GE136.out | refine below_set ?_ GE137.out | refine below_set ?_ GE147.out) | exact HB.out))⟩)
                · skip
                  rintro ⟨gb146, gb147⟩ w11 ⟨hS_, h0_, h1_, h2_, h3_, h4_, h5_, h6_, h7_, h8_, h9_, h10_, h11_, h12_, h13_, h14_, h15_, h16_, h17_, h18_, h19_, h20_, h21_, h22_, h23_⟩
                  have n0_ : Aside0 (w11.heap[gb135]? = some (.cells #[.int .i64 a0_0, .int .u64 a0_1] 26 (0, 0))) := ⟨h0_⟩
                  have n1_ : Aside0 (w11.heap[gb136]? = some (.cells #[.int .i64 a1_0, .int .u64 a1_1] 26 (0, 0))) := ⟨h1_⟩
                  have n2_ : Aside0 (w11.heap[gb137]? = some (.cells #[.int .i64 0, .int .u64 0] 26 (0, 0))) := ⟨h2_⟩
                  have n3_ : Aside0 (w11.heap[gb146]? = some (.cells #[.int .i64 0, .int .i64 0, .int .i64 0, .int .i64 0] 46 (0, 0))) := ⟨h3_⟩
                  have n4_ : Aside0 (w11.heap[gb147]? = some (.cells #[.int .i64 0, .int .i64 0, .int .i64 0, .int .i64 0] 46 (0, 0))) := ⟨h4_⟩
                  have n5_ : Aside0 (w.heap.size ≤ gb146) := ⟨h5_⟩
                  have n6_ : Aside0 (w.heap.size ≤ gb146) := ⟨h6_⟩
                  have n7_ : Aside0 (gb135 ≠ gb146) := ⟨h7_⟩
                  have n8_ : Aside0 (gb146 ≠ gb135) := ⟨h8_⟩
                  have n9_ : Aside0 (gb136 ≠ gb146) := ⟨h9_⟩
                  have n10_ : Aside0 (gb146 ≠ gb136) := ⟨h10_⟩
                  have n11_ : Aside0 (gb137 ≠ gb146) := ⟨h11_⟩
                  have n12_ : Aside0 (gb146 ≠ gb137) := ⟨h12_⟩
                  have n13_ : Aside0 (gb147 ≠ gb146) := ⟨h13_⟩
                  have n14_ : Aside0 (gb146 ≠ gb147) := ⟨h14_⟩
                  have n15_ : Aside0 (w.heap.size ≤ gb147) := ⟨h15_⟩
                  have n16_ : Aside0 (w.heap.size ≤ gb147) := ⟨h16_⟩
                  have n17_ : Aside0 (gb135 ≠ gb147) := ⟨h17_⟩
                  have n18_ : Aside0 (gb147 ≠ gb135) := ⟨h18_⟩
                  have n19_ : Aside0 (gb136 ≠ gb147) := ⟨h19_⟩
                  have n20_ : Aside0 (gb147 ≠ gb136) := ⟨h20_⟩
                  have n21_ : Aside0 (gb137 ≠ gb147) := ⟨h21_⟩
                  have n22_ : Aside0 (gb147 ≠ gb137) := ⟨h22_⟩
                  have n23_ : Aside0 (Below w.heap.size w w11) := ⟨h23_⟩
                  clear BK135
                  clear BK136
                  clear BK137
                  clear HB
                  clear h0_ h1_ h2_ h3_ h4_ h5_ h6_ h7_ h8_ h9_ h10_ h11_ h12_ h13_ h14_ h15_ h16_ h17_ h18_ h19_ h20_ h21_ h22_ h23_
                  have BK135 := n0_
                  have BK136 := n1_
                  have BK137 := n2_
                  have BK146 := n3_
                  have BK147 := n4_
                  have GW146 := n5_
                  have GE146 := n6_
                  have NB135_146 := n7_
                  have NB146_135 := n8_
                  have NB136_146 := n9_
                  have NB146_136 := n10_
                  have NB137_146 := n11_
                  have NB146_137 := n12_
                  have NB147_146 := n13_
                  have NB146_147 := n14_
                  have GW147 := n15_
                  have GE147 := n16_
                  have NB135_147 := n17_
                  have NB147_135 := n18_
                  have NB136_147 := n19_
                  have NB147_136 := n20_
                  have NB137_147 := n21_
                  have NB147_137 := n22_
                  have HB := n23_
                  clear n0_ n1_ n2_ n3_ n4_ n5_ n6_ n7_ n8_ n9_ n10_ n11_ n12_ n13_ n14_ n15_ n16_ n17_ n18_ n19_ n20_ n21_ n22_ n23_
                  have hHeld : w11.cell? ⟨gb135, 0, none⟩ = some (.int .i64 a0_0) ∧ w11.cell? ⟨gb135, 1, none⟩ = some (.int .u64 a0_1) ∧ w11.cell? ⟨gb136, 0, none⟩ = some (.int .i64 a1_0) ∧ w11.cell? ⟨gb136, 1, none⟩ = some (.int .u64 a1_1) := hS_
                  refine norm_ (a' := ?_) ?_ ?_
                  rotate_left
                  · simp only [putAll, Act.put, List.setIfInBounds_toArray, List.set_cons_zero, List.set_cons_succ]
                    rfl
                  refine one_ (i := 1) (N := some 10) #[true, true, true, false, true, true, false, false] rfl rfl (one_of HT_.out (by kernel_rfl)) (by decide) (fun K hK => ?_)
                  refine goes_ Try.func22 (by kernel_rfl) rfl #[.agg #[.int .i64 a0_0, .int .u64 a0_1]] (by rfl) rfl rfl (by (try simp only [List.map_toArray, List.map_cons, List.map_nil]); first | done | rfl | (simp only [List.length_drop, List.length_take]; rfl)) ?_
                  with_reducible refine (corollaryref02_Four.calls a0_0 a0_1 t138 t139 t140 t141 _ A3.out).mono ?_
                  rintro e w12 ⟨rfl, hb⟩
                  refine ⟨_, rfl, ?_⟩
                  have n0_ := Aside0.mk (blk_below (g := gb135) (o := .cells #[.int .i64 a0_0, .int .u64 a0_1] 26 (0, 0)) (by (with_reducible repeat first | apply bN_ | apply bD_ | apply bA_); exact BK135.out) hb)
                  have n1_ := Aside0.mk (blk_below (g := gb136) (o := .cells #[.int .i64 a1_0, .int .u64 a1_1] 26 (0, 0)) (by (with_reducible repeat first | apply bN_ | apply bD_ | apply bA_); exact BK136.out) hb)
                  have n2_ := Aside0.mk (blk_below (g := gb137) (o := .cells #[.int .i64 0, .int .u64 0] 26 (0, 0)) (by (with_reducible repeat first | apply bN_ | apply bD_ | apply bA_); exact BK137.out) hb)
                  have n3_ := Aside0.mk (blk_below (g := gb146) (o := .cells #[.int .i64 0, .int .i64 0, .int .i64 0, .int .i64 0] 46 (0, 0)) (by (with_reducible repeat first | apply bN_ | apply bD_ | apply bA_); exact BK146.out) hb)
                  have n4_ := Aside0.mk (blk_below (g := gb147) (o := .cells #[.int .i64 0, .int .i64 0, .int .i64 0, .int .i64 0] 46 (0, 0)) (by (with_reducible repeat first | apply bN_ | apply bD_ | apply bA_); exact BK147.out) hb)
                  have n5_ := Aside0.mk (below_step (by repeat (first | (with_reducible first | exact HB.out | apply below_alloc | apply pw_below_drewN | apply below_drew1 | refine below_set ?_ GE135.out | refine below_set ?_ GE136.out | refine below_set ?_ GE137.out | refine below_set ?_ GE146.out | refine below_set ?_ GE147.out) | exact HB.out)) hb)
                  clear BK135
                  clear BK136
                  clear BK137
                  clear BK146
                  clear BK147
                  clear HB
                  have BK135 := n0_
                  have BK136 := n1_
                  have BK137 := n2_
                  have BK146 := n3_
                  have BK147 := n4_
                  have HB := n5_
                  clear n0_ n1_ n2_ n3_ n4_ n5_
                  (try clear hb)
                  (try clear hb2)
                  (try clear hk)
                  (try clear hi)
                  refine hK.out _ _ ⟨(blk_cell BK135.out 0).trans rfl, (blk_cell BK135.out 1).trans rfl, (blk_cell BK136.out 0).trans rfl, (blk_cell BK136.out 1).trans rfl⟩ (fun hHeld => ?_)
                  clear hK K
                  refine norm_ (a' := ?_) ?_ ?_
                  rotate_left
                  · show Act.put _ (some 10) _ = _
                    simp only [Act.put, List.setIfInBounds_toArray, List.set_cons_zero, List.set_cons_succ, i64_w, i32_w]
                    rfl
                  exact norm_ (by first | (simp only [putAll, Act.put, List.setIfInBounds_toArray, List.set_cons_zero, List.set_cons_succ]; done) | (simp only [putAll, Act.put, List.setIfInBounds_toArray, List.set_cons_zero, List.set_cons_succ]; rfl)) (hJ1_4_5 (gb146, gb147) _ ⟨hHeld, (by (with_reducible repeat first | apply bN_ | apply bD_ | apply bA_); exact BK135.out), (by (with_reducible repeat first | apply bN_ | apply bD_ | apply bA_); exact BK136.out), (by (with_reducible repeat first | apply bN_ | apply bD_ | apply bA_); exact BK137.out), (by (with_reducible repeat first | apply bN_ | apply bD_ | apply bA_); exact BK146.out), (by (with_reducible repeat first | apply bN_ | apply bD_ | apply bA_); exact BK147.out), GW146.out, GE146.out, NB135_146.out, NB146_135.out, NB136_146.out, NB146_136.out, NB137_146.out, NB146_137.out, NB147_146.out, NB146_147.out, GW147.out, GE147.out, NB135_147.out, NB147_135.out, NB136_147.out, NB147_136.out, NB137_147.out, NB147_137.out, (by repeat (first | (with_reducible first | exact HB.out | apply below_alloc | apply pw_below_drewN | apply below_drew1 | refine below_set ?_ GE135.out | refine below_set ?_ GE136.out | refine below_set ?_ GE137.out | refine below_set ?_ GE146.out | refine below_set ?_ GE147.out) | exact HB.out))⟩)
              · skip
                rintro gb147 w11 ⟨hS_, h0_, h1_, h2_, h3_, h4_, h5_, h6_, h7_, h8_, h9_, h10_, h11_, h12_⟩
                have n0_ : Aside0 (w11.heap[gb135]? = some (.cells #[.int .i64 a0_0, .int .u64 a0_1] 26 (0, 0))) := ⟨h0_⟩
                have n1_ : Aside0 (w11.heap[gb136]? = some (.cells #[.int .i64 a1_0, .int .u64 a1_1] 26 (0, 0))) := ⟨h1_⟩
                have n2_ : Aside0 (w11.heap[gb137]? = some (.cells #[.int .i64 0, .int .u64 0] 26 (0, 0))) := ⟨h2_⟩
                have n3_ : Aside0 (w11.heap[gb147]? = some (.cells #[.int .i64 0, .int .i64 0, .int .i64 0, .int .i64 0] 46 (0, 0))) := ⟨h3_⟩
                have n4_ : Aside0 (w.heap.size ≤ gb147) := ⟨h4_⟩
                have n5_ : Aside0 (w.heap.size ≤ gb147) := ⟨h5_⟩
                have n6_ : Aside0 (gb135 ≠ gb147) := ⟨h6_⟩
                have n7_ : Aside0 (gb147 ≠ gb135) := ⟨h7_⟩
                have n8_ : Aside0 (gb136 ≠ gb147) := ⟨h8_⟩
                have n9_ : Aside0 (gb147 ≠ gb136) := ⟨h9_⟩
                have n10_ : Aside0 (gb137 ≠ gb147) := ⟨h10_⟩
                have n11_ : Aside0 (gb147 ≠ gb137) := ⟨h11_⟩
                have n12_ : Aside0 (Below w.heap.size w w11) := ⟨h12_⟩
                clear BK135
                clear BK136
                clear BK137
                clear HB
                clear h0_ h1_ h2_ h3_ h4_ h5_ h6_ h7_ h8_ h9_ h10_ h11_ h12_
                have BK135 := n0_
                have BK136 := n1_
                have BK137 := n2_
                have BK147 := n3_
                have GW147 := n4_
                have GE147 := n5_
                have NB135_147 := n6_
                have NB147_135 := n7_
                have NB136_147 := n8_
                have NB147_136 := n9_
                have NB137_147 := n10_
                have NB147_137 := n11_
                have HB := n12_
                clear n0_ n1_ n2_ n3_ n4_ n5_ n6_ n7_ n8_ n9_ n10_ n11_ n12_
                have hHeld : w11.cell? ⟨gb135, 0, none⟩ = some (.int .i64 a0_0) ∧ w11.cell? ⟨gb135, 1, none⟩ = some (.int .u64 a0_1) ∧ w11.cell? ⟨gb136, 0, none⟩ = some (.int .i64 a1_0) ∧ w11.cell? ⟨gb136, 1, none⟩ = some (.int .u64 a1_1) := hS_
                refine norm_ (a' := ?_) ?_ ?_
                rotate_left
                · simp only [putAll, Act.put, List.setIfInBounds_toArray, List.set_cons_zero, List.set_cons_succ]
                  rfl
                refine two_ (i := 3) (j := 4) (Ni := some 12) (Nj := some 6) #[true, true, true, true, false, true, false, false] #[true, true, true, false, true, true, false, false] rfl rfl rfl rfl (two_of HT_.out (by kernel_rfl)) (by decide) (by decide) (fun K hK => ?_) (fun K hK => ?_)
                · skip
                  refine goes_ Try.func22 (by kernel_rfl) rfl #[.agg #[.int .i64 a1_0, .int .u64 a1_1]] (by rfl) rfl rfl (by (try simp only [List.map_toArray, List.map_cons, List.map_nil]); first | done | rfl | (simp only [List.length_drop, List.length_take]; rfl)) ?_
                  with_reducible refine (corollaryref02_Four.calls a1_0 a1_1 t142 t143 t144 t145 _ A4.out).mono ?_
                  rintro e w12 ⟨rfl, hb⟩
                  refine ⟨_, rfl, ?_⟩
                  have n0_ := Aside0.mk (blk_below (g := gb135) (o := .cells #[.int .i64 a0_0, .int .u64 a0_1] 26 (0, 0)) (by (with_reducible repeat first | apply bN_ | apply bD_ | apply bA_); exact BK135.out) hb)
                  have n1_ := Aside0.mk (blk_below (g := gb136) (o := .cells #[.int .i64 a1_0, .int .u64 a1_1] 26 (0, 0)) (by (with_reducible repeat first | apply bN_ | apply bD_ | apply bA_); exact BK136.out) hb)
                  have n2_ := Aside0.mk (blk_below (g := gb137) (o := .cells #[.int .i64 0, .int .u64 0] 26 (0, 0)) (by (with_reducible repeat first | apply bN_ | apply bD_ | apply bA_); exact BK137.out) hb)
                  have n3_ := Aside0.mk (blk_below (g := gb147) (o := .cells #[.int .i64 0, .int .i64 0, .int .i64 0, .int .i64 0] 46 (0, 0)) (by (with_reducible repeat first | apply bN_ | apply bD_ | apply bA_); exact BK147.out) hb)
                  have n4_ := Aside0.mk (below_step (by repeat (first | (with_reducible first | exact HB.out | apply below_alloc | apply pw_below_drewN | apply below_drew1 | refine below_set ?_ GE135.out | refine below_set ?_ GE136.out | refine below_set ?_ GE137.out | refine below_set ?_ GE147.out) | exact HB.out)) hb)
                  clear BK135
                  clear BK136
                  clear BK137
                  clear BK147
                  clear HB
                  have BK135 := n0_
                  have BK136 := n1_
                  have BK137 := n2_
                  have BK147 := n3_
                  have HB := n4_
                  clear n0_ n1_ n2_ n3_ n4_
                  (try clear hb)
                  (try clear hb2)
                  (try clear hk)
                  (try clear hi)
                  refine hK.out _ _ ⟨(blk_cell BK135.out 0).trans rfl, (blk_cell BK135.out 1).trans rfl, (blk_cell BK136.out 0).trans rfl, (blk_cell BK136.out 1).trans rfl⟩ (fun hHeld => ?_)
                  clear hK K
                  refine norm_ (a' := ?_) ?_ ?_
                  rotate_left
                  · show Act.put _ (some 12) _ = _
                    simp only [Act.put, List.setIfInBounds_toArray, List.set_cons_zero, List.set_cons_succ, i64_w, i32_w]
                    rfl
                  exact norm_ (by first | (simp only [putAll, Act.put, List.setIfInBounds_toArray, List.set_cons_zero, List.set_cons_succ]; done) | (simp only [putAll, Act.put, List.setIfInBounds_toArray, List.set_cons_zero, List.set_cons_succ]; rfl)) (hJ1_3_5 (gb147) _ ⟨hHeld, (by (with_reducible repeat first | apply bN_ | apply bD_ | apply bA_); exact BK135.out), (by (with_reducible repeat first | apply bN_ | apply bD_ | apply bA_); exact BK136.out), (by (with_reducible repeat first | apply bN_ | apply bD_ | apply bA_); exact BK137.out), (by (with_reducible repeat first | apply bN_ | apply bD_ | apply bA_); exact BK147.out), GW147.out, GE147.out, NB135_147.out, NB147_135.out, NB136_147.out, NB147_136.out, NB137_147.out, NB147_137.out, (by repeat (first | (with_reducible first | exact HB.out | apply below_alloc | apply pw_below_drewN | apply below_drew1 | refine below_set ?_ GE135.out | refine below_set ?_ GE136.out | refine below_set ?_ GE137.out | refine below_set ?_ GE147.out) | exact HB.out))⟩)
                · skip
                  refine box_step ?hg (N := 6) ?hd (cs := #[.int .i64 0, .int .i64 0, .int .i64 0, .int .i64 0]) (t := 46) ?hr ?_; (case hd => rfl); (case hg => rfl); (case hr => first | (go_simp; done) | (go_simp; rfl))
                  intro gb146 hg w12 hbox hb
                  have n0_ := Aside0.mk (blk_below (g := gb135) (o := .cells #[.int .i64 a0_0, .int .u64 a0_1] 26 (0, 0)) (by (with_reducible repeat first | apply bN_ | apply bD_ | apply bA_); exact BK135.out) hb)
                  have n1_ := Aside0.mk (blk_below (g := gb136) (o := .cells #[.int .i64 a1_0, .int .u64 a1_1] 26 (0, 0)) (by (with_reducible repeat first | apply bN_ | apply bD_ | apply bA_); exact BK136.out) hb)
                  have n2_ := Aside0.mk (blk_below (g := gb137) (o := .cells #[.int .i64 0, .int .u64 0] 26 (0, 0)) (by (with_reducible repeat first | apply bN_ | apply bD_ | apply bA_); exact BK137.out) hb)
                  have n3_ := Aside0.mk (blk_below (g := gb147) (o := .cells #[.int .i64 0, .int .i64 0, .int .i64 0, .int .i64 0] 46 (0, 0)) (by (with_reducible repeat first | apply bN_ | apply bD_ | apply bA_); exact BK147.out) hb)
                  have n4_ := Aside0.mk (below_step (by repeat (first | (with_reducible first | exact HB.out | apply below_alloc | apply pw_below_drewN | apply below_drew1 | refine below_set ?_ GE135.out | refine below_set ?_ GE136.out | refine below_set ?_ GE137.out | refine below_set ?_ GE147.out) | exact HB.out)) hb)
                  have n5_ := Aside0.mk (hbox)
                  have n6_ := Aside0.mk ((by rw [hg]; exact (below_size (by repeat (first | (with_reducible first | exact HB.out | apply below_alloc | apply pw_below_drewN | apply below_drew1 | refine below_set ?_ GE135.out | refine below_set ?_ GE136.out | refine below_set ?_ GE137.out | refine below_set ?_ GE147.out) | exact HB.out))) : w.heap.size ≤ gb146))
                  have n7_ := Aside0.mk ((by rw [hg]; exact (below_size (by repeat (first | (with_reducible first | exact HB.out | apply below_alloc | apply pw_below_drewN | apply below_drew1 | refine below_set ?_ GE135.out | refine below_set ?_ GE136.out | refine below_set ?_ GE137.out | refine below_set ?_ GE147.out) | exact HB.out))) : w.heap.size ≤ gb146))
                  have n8_ := Aside0.mk ((by rw [hg]; exact Nat.ne_of_lt (blk_lt (g := gb135) (o := .cells #[.int .i64 a0_0, .int .u64 a0_1] 26 (0, 0)) (by (with_reducible repeat first | apply bN_ | apply bD_ | apply bA_); exact BK135.out)) : gb135 ≠ gb146))
                  have n9_ := Aside0.mk ((by rw [hg]; exact Nat.ne_of_gt (blk_lt (g := gb135) (o := .cells #[.int .i64 a0_0, .int .u64 a0_1] 26 (0, 0)) (by (with_reducible repeat first | apply bN_ | apply bD_ | apply bA_); exact BK135.out)) : gb146 ≠ gb135))
                  have n10_ := Aside0.mk ((by rw [hg]; exact Nat.ne_of_lt (blk_lt (g := gb136) (o := .cells #[.int .i64 a1_0, .int .u64 a1_1] 26 (0, 0)) (by (with_reducible repeat first | apply bN_ | apply bD_ | apply bA_); exact BK136.out)) : gb136 ≠ gb146))
                  have n11_ := Aside0.mk ((by rw [hg]; exact Nat.ne_of_gt (blk_lt (g := gb136) (o := .cells #[.int .i64 a1_0, .int .u64 a1_1] 26 (0, 0)) (by (with_reducible repeat first | apply bN_ | apply bD_ | apply bA_); exact BK136.out)) : gb146 ≠ gb136))
                  have n12_ := Aside0.mk ((by rw [hg]; exact Nat.ne_of_lt (blk_lt (g := gb137) (o := .cells #[.int .i64 0, .int .u64 0] 26 (0, 0)) (by (with_reducible repeat first | apply bN_ | apply bD_ | apply bA_); exact BK137.out)) : gb137 ≠ gb146))
                  have n13_ := Aside0.mk ((by rw [hg]; exact Nat.ne_of_gt (blk_lt (g := gb137) (o := .cells #[.int .i64 0, .int .u64 0] 26 (0, 0)) (by (with_reducible repeat first | apply bN_ | apply bD_ | apply bA_); exact BK137.out)) : gb146 ≠ gb137))
                  have n14_ := Aside0.mk ((by rw [hg]; exact Nat.ne_of_lt (blk_lt (g := gb147) (o := .cells #[.int .i64 0, .int .i64 0, .int .i64 0, .int .i64 0] 46 (0, 0)) (by (with_reducible repeat first | apply bN_ | apply bD_ | apply bA_); exact BK147.out)) : gb147 ≠ gb146))
                  have n15_ := Aside0.mk ((by rw [hg]; exact Nat.ne_of_gt (blk_lt (g := gb147) (o := .cells #[.int .i64 0, .int .i64 0, .int .i64 0, .int .i64 0] 46 (0, 0)) (by (with_reducible repeat first | apply bN_ | apply bD_ | apply bA_); exact BK147.out)) : gb146 ≠ gb147))
                  clear BK135
                  clear BK136
                  clear BK137
                  clear BK147
                  clear HB
                  have BK135 := n0_
                  have BK136 := n1_
                  have BK137 := n2_
                  have BK147 := n3_
                  have HB := n4_
                  have BK146 := n5_
                  have GW146 := n6_
                  have GE146 := n7_
                  have NB135_146 := n8_
                  have NB146_135 := n9_
                  have NB136_146 := n10_
                  have NB146_136 := n11_
                  have NB137_146 := n12_
                  have NB146_137 := n13_
                  have NB147_146 := n14_
                  have NB146_147 := n15_
                  clear n0_ n1_ n2_ n3_ n4_ n5_ n6_ n7_ n8_ n9_ n10_ n11_ n12_ n13_ n14_ n15_
                  clear hb hbox hg
                  refine hK.out _ _ ⟨(blk_cell BK135.out 0).trans rfl, (blk_cell BK135.out 1).trans rfl, (blk_cell BK136.out 0).trans rfl, (blk_cell BK136.out 1).trans rfl⟩ (fun hHeld => ?_)
                  clear hK K
                  refine norm_ (a' := ?_) ?_ ?_
                  rotate_left
                  · show Act.put _ (some 6) _ = _
                    simp only [Act.put, List.setIfInBounds_toArray, List.set_cons_zero, List.set_cons_succ, i64_w, i32_w]
                    rfl
                  exact norm_ (by first | (simp only [putAll, Act.put, List.setIfInBounds_toArray, List.set_cons_zero, List.set_cons_succ]; done) | (simp only [putAll, Act.put, List.setIfInBounds_toArray, List.set_cons_zero, List.set_cons_succ]; rfl)) (hJ1_4_5 (gb146, gb147) _ ⟨hHeld, (by (with_reducible repeat first | apply bN_ | apply bD_ | apply bA_); exact BK135.out), (by (with_reducible repeat first | apply bN_ | apply bD_ | apply bA_); exact BK136.out), (by (with_reducible repeat first | apply bN_ | apply bD_ | apply bA_); exact BK137.out), (by (with_reducible repeat first | apply bN_ | apply bD_ | apply bA_); exact BK146.out), (by (with_reducible repeat first | apply bN_ | apply bD_ | apply bA_); exact BK147.out), GW146.out, GE146.out, NB135_146.out, NB146_135.out, NB136_146.out, NB146_136.out, NB137_146.out, NB146_137.out, NB147_146.out, NB146_147.out, GW147.out, GE147.out, NB135_147.out, NB147_135.out, NB136_147.out, NB147_136.out, NB137_147.out, NB147_137.out, (by repeat (first | (with_reducible first | exact HB.out | apply below_alloc | apply pw_below_drewN | apply below_drew1 | refine below_set ?_ GE135.out | refine below_set ?_ GE136.out | refine below_set ?_ GE137.out | refine below_set ?_ GE147.out | refine below_set ?_ GE146.out) | exact HB.out))⟩)
            · skip
              rintro gb146 w11 ⟨hS_, h0_, h1_, h2_, h3_, h4_, h5_, h6_, h7_, h8_, h9_, h10_, h11_, h12_⟩
              have n0_ : Aside0 (w11.heap[gb135]? = some (.cells #[.int .i64 a0_0, .int .u64 a0_1] 26 (0, 0))) := ⟨h0_⟩
              have n1_ : Aside0 (w11.heap[gb136]? = some (.cells #[.int .i64 a1_0, .int .u64 a1_1] 26 (0, 0))) := ⟨h1_⟩
              have n2_ : Aside0 (w11.heap[gb137]? = some (.cells #[.int .i64 0, .int .u64 0] 26 (0, 0))) := ⟨h2_⟩
              have n3_ : Aside0 (w11.heap[gb146]? = some (.cells #[.int .i64 0, .int .i64 0, .int .i64 0, .int .i64 0] 46 (0, 0))) := ⟨h3_⟩
              have n4_ : Aside0 (w.heap.size ≤ gb146) := ⟨h4_⟩
              have n5_ : Aside0 (w.heap.size ≤ gb146) := ⟨h5_⟩
              have n6_ : Aside0 (gb135 ≠ gb146) := ⟨h6_⟩
              have n7_ : Aside0 (gb146 ≠ gb135) := ⟨h7_⟩
              have n8_ : Aside0 (gb136 ≠ gb146) := ⟨h8_⟩
              have n9_ : Aside0 (gb146 ≠ gb136) := ⟨h9_⟩
              have n10_ : Aside0 (gb137 ≠ gb146) := ⟨h10_⟩
              have n11_ : Aside0 (gb146 ≠ gb137) := ⟨h11_⟩
              have n12_ : Aside0 (Below w.heap.size w w11) := ⟨h12_⟩
              clear BK135
              clear BK136
              clear BK137
              clear HB
              clear h0_ h1_ h2_ h3_ h4_ h5_ h6_ h7_ h8_ h9_ h10_ h11_ h12_
              have BK135 := n0_
              have BK136 := n1_
              have BK137 := n2_
              have BK146 := n3_
              have GW146 := n4_
              have GE146 := n5_
              have NB135_146 := n6_
              have NB146_135 := n7_
              have NB136_146 := n8_
              have NB146_136 := n9_
              have NB137_146 := n10_
              have NB146_137 := n11_
              have HB := n12_
              clear n0_ n1_ n2_ n3_ n4_ n5_ n6_ n7_ n8_ n9_ n10_ n11_ n12_
              have hHeld : w11.cell? ⟨gb135, 0, none⟩ = some (.int .i64 a0_0) ∧ w11.cell? ⟨gb135, 1, none⟩ = some (.int .u64 a0_1) ∧ w11.cell? ⟨gb136, 0, none⟩ = some (.int .i64 a1_0) ∧ w11.cell? ⟨gb136, 1, none⟩ = some (.int .u64 a1_1) := hS_
              refine norm_ (a' := ?_) ?_ ?_
              rotate_left
              · simp only [putAll, Act.put, List.setIfInBounds_toArray, List.set_cons_zero, List.set_cons_succ]
                rfl
              refine two_ (i := 3) (j := 5) (Ni := some 12) (Nj := some 7) #[true, true, true, true, true, false, false, false] #[true, true, true, false, true, true, false, false] rfl rfl rfl rfl (two_of HT_.out (by kernel_rfl)) (by decide) (by decide) (fun K hK => ?_) (fun K hK => ?_)
              · skip
                refine goes_ Try.func22 (by kernel_rfl) rfl #[.agg #[.int .i64 a1_0, .int .u64 a1_1]] (by rfl) rfl rfl (by (try simp only [List.map_toArray, List.map_cons, List.map_nil]); first | done | rfl | (simp only [List.length_drop, List.length_take]; rfl)) ?_
                with_reducible refine (corollaryref02_Four.calls a1_0 a1_1 t142 t143 t144 t145 _ A4.out).mono ?_
                rintro e w12 ⟨rfl, hb⟩
                refine ⟨_, rfl, ?_⟩
                have n0_ := Aside0.mk (blk_below (g := gb135) (o := .cells #[.int .i64 a0_0, .int .u64 a0_1] 26 (0, 0)) (by (with_reducible repeat first | apply bN_ | apply bD_ | apply bA_); exact BK135.out) hb)
                have n1_ := Aside0.mk (blk_below (g := gb136) (o := .cells #[.int .i64 a1_0, .int .u64 a1_1] 26 (0, 0)) (by (with_reducible repeat first | apply bN_ | apply bD_ | apply bA_); exact BK136.out) hb)
                have n2_ := Aside0.mk (blk_below (g := gb137) (o := .cells #[.int .i64 0, .int .u64 0] 26 (0, 0)) (by (with_reducible repeat first | apply bN_ | apply bD_ | apply bA_); exact BK137.out) hb)
                have n3_ := Aside0.mk (blk_below (g := gb146) (o := .cells #[.int .i64 0, .int .i64 0, .int .i64 0, .int .i64 0] 46 (0, 0)) (by (with_reducible repeat first | apply bN_ | apply bD_ | apply bA_); exact BK146.out) hb)
                have n4_ := Aside0.mk (below_step (by repeat (first | (with_reducible first | exact HB.out | apply below_alloc | apply pw_below_drewN | apply below_drew1 | refine below_set ?_ GE135.out | refine below_set ?_ GE136.out | refine below_set ?_ GE137.out | refine below_set ?_ GE146.out) | exact HB.out)) hb)
                clear BK135
                clear BK136
                clear BK137
                clear BK146
                clear HB
                have BK135 := n0_
                have BK136 := n1_
                have BK137 := n2_
                have BK146 := n3_
                have HB := n4_
                clear n0_ n1_ n2_ n3_ n4_
                (try clear hb)
                (try clear hb2)
                (try clear hk)
                (try clear hi)
                refine hK.out _ _ ⟨(blk_cell BK135.out 0).trans rfl, (blk_cell BK135.out 1).trans rfl, (blk_cell BK136.out 0).trans rfl, (blk_cell BK136.out 1).trans rfl⟩ (fun hHeld => ?_)
                clear hK K
                refine norm_ (a' := ?_) ?_ ?_
                rotate_left
                · show Act.put _ (some 12) _ = _
                  simp only [Act.put, List.setIfInBounds_toArray, List.set_cons_zero, List.set_cons_succ, i64_w, i32_w]
                  rfl
                exact norm_ (by first | (simp only [putAll, Act.put, List.setIfInBounds_toArray, List.set_cons_zero, List.set_cons_succ]; done) | (simp only [putAll, Act.put, List.setIfInBounds_toArray, List.set_cons_zero, List.set_cons_succ]; rfl)) (hJ1_3_4 (gb146) _ ⟨hHeld, (by (with_reducible repeat first | apply bN_ | apply bD_ | apply bA_); exact BK135.out), (by (with_reducible repeat first | apply bN_ | apply bD_ | apply bA_); exact BK136.out), (by (with_reducible repeat first | apply bN_ | apply bD_ | apply bA_); exact BK137.out), (by (with_reducible repeat first | apply bN_ | apply bD_ | apply bA_); exact BK146.out), GW146.out, GE146.out, NB135_146.out, NB146_135.out, NB136_146.out, NB146_136.out, NB137_146.out, NB146_137.out, (by repeat (first | (with_reducible first | exact HB.out | apply below_alloc | apply pw_below_drewN | apply below_drew1 | refine below_set ?_ GE135.out | refine below_set ?_ GE136.out | refine below_set ?_ GE137.out | refine below_set ?_ GE146.out) | exact HB.out))⟩)
              · skip
                refine box_step ?hg (N := 7) ?hd (cs := #[.int .i64 0, .int .i64 0, .int .i64 0, .int .i64 0]) (t := 46) ?hr ?_; (case hd => rfl); (case hg => rfl); (case hr => first | (go_simp; done) | (go_simp; rfl))
                intro gb147 hg w12 hbox hb
                have n0_ := Aside0.mk (blk_below (g := gb135) (o := .cells #[.int .i64 a0_0, .int .u64 a0_1] 26 (0, 0)) (by (with_reducible repeat first | apply bN_ | apply bD_ | apply bA_); exact BK135.out) hb)
                have n1_ := Aside0.mk (blk_below (g := gb136) (o := .cells #[.int .i64 a1_0, .int .u64 a1_1] 26 (0, 0)) (by (with_reducible repeat first | apply bN_ | apply bD_ | apply bA_); exact BK136.out) hb)
                have n2_ := Aside0.mk (blk_below (g := gb137) (o := .cells #[.int .i64 0, .int .u64 0] 26 (0, 0)) (by (with_reducible repeat first | apply bN_ | apply bD_ | apply bA_); exact BK137.out) hb)
                have n3_ := Aside0.mk (blk_below (g := gb146) (o := .cells #[.int .i64 0, .int .i64 0, .int .i64 0, .int .i64 0] 46 (0, 0)) (by (with_reducible repeat first | apply bN_ | apply bD_ | apply bA_); exact BK146.out) hb)
                have n4_ := Aside0.mk (below_step (by repeat (first | (with_reducible first | exact HB.out | apply below_alloc | apply pw_below_drewN | apply below_drew1 | refine below_set ?_ GE135.out | refine below_set ?_ GE136.out | refine below_set ?_ GE137.out | refine below_set ?_ GE146.out) | exact HB.out)) hb)
                have n5_ := Aside0.mk (hbox)
                have n6_ := Aside0.mk ((by rw [hg]; exact (below_size (by repeat (first | (with_reducible first | exact HB.out | apply below_alloc | apply pw_below_drewN | apply below_drew1 | refine below_set ?_ GE135.out | refine below_set ?_ GE136.out | refine below_set ?_ GE137.out | refine below_set ?_ GE146.out) | exact HB.out))) : w.heap.size ≤ gb147))
                have n7_ := Aside0.mk ((by rw [hg]; exact (below_size (by repeat (first | (with_reducible first | exact HB.out | apply below_alloc | apply pw_below_drewN | apply below_drew1 | refine below_set ?_ GE135.out | refine below_set ?_ GE136.out | refine below_set ?_ GE137.out | refine below_set ?_ GE146.out) | exact HB.out))) : w.heap.size ≤ gb147))
                have n8_ := Aside0.mk ((by rw [hg]; exact Nat.ne_of_lt (blk_lt (g := gb135) (o := .cells #[.int .i64 a0_0, .int .u64 a0_1] 26 (0, 0)) (by (with_reducible repeat first | apply bN_ | apply bD_ | apply bA_); exact BK135.out)) : gb135 ≠ gb147))
                have n9_ := Aside0.mk ((by rw [hg]; exact Nat.ne_of_gt (blk_lt (g := gb135) (o := .cells #[.int .i64 a0_0, .int .u64 a0_1] 26 (0, 0)) (by (with_reducible repeat first | apply bN_ | apply bD_ | apply bA_); exact BK135.out)) : gb147 ≠ gb135))
                have n10_ := Aside0.mk ((by rw [hg]; exact Nat.ne_of_lt (blk_lt (g := gb136) (o := .cells #[.int .i64 a1_0, .int .u64 a1_1] 26 (0, 0)) (by (with_reducible repeat first | apply bN_ | apply bD_ | apply bA_); exact BK136.out)) : gb136 ≠ gb147))
                have n11_ := Aside0.mk ((by rw [hg]; exact Nat.ne_of_gt (blk_lt (g := gb136) (o := .cells #[.int .i64 a1_0, .int .u64 a1_1] 26 (0, 0)) (by (with_reducible repeat first | apply bN_ | apply bD_ | apply bA_); exact BK136.out)) : gb147 ≠ gb136))
                have n12_ := Aside0.mk ((by rw [hg]; exact Nat.ne_of_lt (blk_lt (g := gb137) (o := .cells #[.int .i64 0, .int .u64 0] 26 (0, 0)) (by (with_reducible repeat first | apply bN_ | apply bD_ | apply bA_); exact BK137.out)) : gb137 ≠ gb147))
                have n13_ := Aside0.mk ((by rw [hg]; exact Nat.ne_of_gt (blk_lt (g := gb137) (o := .cells #[.int .i64 0, .int .u64 0] 26 (0, 0)) (by (with_reducible repeat first | apply bN_ | apply bD_ | apply bA_); exact BK137.out)) : gb147 ≠ gb137))
                have n14_ := Aside0.mk ((by rw [hg]; exact Nat.ne_of_lt (blk_lt (g := gb146) (o := .cells #[.int .i64 0, .int .i64 0, .int .i64 0, .int .i64 0] 46 (0, 0)) (by (with_reducible repeat first | apply bN_ | apply bD_ | apply bA_); exact BK146.out)) : gb146 ≠ gb147))
                have n15_ := Aside0.mk ((by rw [hg]; exact Nat.ne_of_gt (blk_lt (g := gb146) (o := .cells #[.int .i64 0, .int .i64 0, .int .i64 0, .int .i64 0] 46 (0, 0)) (by (with_reducible repeat first | apply bN_ | apply bD_ | apply bA_); exact BK146.out)) : gb147 ≠ gb146))
                clear BK135
                clear BK136
                clear BK137
                clear BK146
                clear HB
                have BK135 := n0_
                have BK136 := n1_
                have BK137 := n2_
                have BK146 := n3_
                have HB := n4_
                have BK147 := n5_
                have GW147 := n6_
                have GE147 := n7_
                have NB135_147 := n8_
                have NB147_135 := n9_
                have NB136_147 := n10_
                have NB147_136 := n11_
                have NB137_147 := n12_
                have NB147_137 := n13_
                have NB146_147 := n14_
                have NB147_146 := n15_
                clear n0_ n1_ n2_ n3_ n4_ n5_ n6_ n7_ n8_ n9_ n10_ n11_ n12_ n13_ n14_ n15_
                clear hb hbox hg
                refine hK.out _ _ ⟨(blk_cell BK135.out 0).trans rfl, (blk_cell BK135.out 1).trans rfl, (blk_cell BK136.out 0).trans rfl, (blk_cell BK136.out 1).trans rfl⟩ (fun hHeld => ?_)
                clear hK K
                refine norm_ (a' := ?_) ?_ ?_
                rotate_left
                · show Act.put _ (some 7) _ = _
                  simp only [Act.put, List.setIfInBounds_toArray, List.set_cons_zero, List.set_cons_succ, i64_w, i32_w]
                  rfl
                exact norm_ (by first | (simp only [putAll, Act.put, List.setIfInBounds_toArray, List.set_cons_zero, List.set_cons_succ]; done) | (simp only [putAll, Act.put, List.setIfInBounds_toArray, List.set_cons_zero, List.set_cons_succ]; rfl)) (hJ1_4_5 (gb146, gb147) _ ⟨hHeld, (by (with_reducible repeat first | apply bN_ | apply bD_ | apply bA_); exact BK135.out), (by (with_reducible repeat first | apply bN_ | apply bD_ | apply bA_); exact BK136.out), (by (with_reducible repeat first | apply bN_ | apply bD_ | apply bA_); exact BK137.out), (by (with_reducible repeat first | apply bN_ | apply bD_ | apply bA_); exact BK146.out), (by (with_reducible repeat first | apply bN_ | apply bD_ | apply bA_); exact BK147.out), GW146.out, GE146.out, NB135_146.out, NB146_135.out, NB136_146.out, NB146_136.out, NB137_146.out, NB146_137.out, NB147_146.out, NB146_147.out, GW147.out, GE147.out, NB135_147.out, NB147_135.out, NB136_147.out, NB147_136.out, NB137_147.out, NB147_137.out, (by repeat (first | (with_reducible first | exact HB.out | apply below_alloc | apply pw_below_drewN | apply below_drew1 | refine below_set ?_ GE135.out | refine below_set ?_ GE136.out | refine below_set ?_ GE137.out | refine below_set ?_ GE146.out | refine below_set ?_ GE147.out) | exact HB.out))⟩)
          · skip
            rintro _ w11 ⟨hS_, h0_, h1_, h2_, h3_⟩
            have n0_ : Aside0 (w11.heap[gb135]? = some (.cells #[.int .i64 a0_0, .int .u64 a0_1] 26 (0, 0))) := ⟨h0_⟩
            have n1_ : Aside0 (w11.heap[gb136]? = some (.cells #[.int .i64 a1_0, .int .u64 a1_1] 26 (0, 0))) := ⟨h1_⟩
            have n2_ : Aside0 (w11.heap[gb137]? = some (.cells #[.int .i64 0, .int .u64 0] 26 (0, 0))) := ⟨h2_⟩
            have n3_ : Aside0 (Below w.heap.size w w11) := ⟨h3_⟩
            clear BK135
            clear BK136
            clear BK137
            clear HB
            clear h0_ h1_ h2_ h3_
            have BK135 := n0_
            have BK136 := n1_
            have BK137 := n2_
            have HB := n3_
            clear n0_ n1_ n2_ n3_
            have hHeld : w11.cell? ⟨gb135, 0, none⟩ = some (.int .i64 a0_0) ∧ w11.cell? ⟨gb135, 1, none⟩ = some (.int .u64 a0_1) ∧ w11.cell? ⟨gb136, 0, none⟩ = some (.int .i64 a1_0) ∧ w11.cell? ⟨gb136, 1, none⟩ = some (.int .u64 a1_1) := hS_
            refine norm_ (a' := ?_) ?_ ?_
            rotate_left
            · simp only [putAll, Act.put, List.setIfInBounds_toArray, List.set_cons_zero, List.set_cons_succ]
              rfl
            refine two_ (i := 4) (j := 5) (Ni := some 6) (Nj := some 7) #[true, true, true, true, true, false, false, false] #[true, true, true, true, false, true, false, false] rfl rfl rfl rfl (two_of HT_.out (by kernel_rfl)) (by decide) (by decide) (fun K hK => ?_) (fun K hK => ?_)
            · skip
              refine box_step ?hg (N := 6) ?hd (cs := #[.int .i64 0, .int .i64 0, .int .i64 0, .int .i64 0]) (t := 46) ?hr ?_; (case hd => rfl); (case hg => rfl); (case hr => first | (go_simp; done) | (go_simp; rfl))
              intro gb146 hg w12 hbox hb
              have n0_ := Aside0.mk (blk_below (g := gb135) (o := .cells #[.int .i64 a0_0, .int .u64 a0_1] 26 (0, 0)) (by (with_reducible repeat first | apply bN_ | apply bD_ | apply bA_); exact BK135.out) hb)
              have n1_ := Aside0.mk (blk_below (g := gb136) (o := .cells #[.int .i64 a1_0, .int .u64 a1_1] 26 (0, 0)) (by (with_reducible repeat first | apply bN_ | apply bD_ | apply bA_); exact BK136.out) hb)
              have n2_ := Aside0.mk (blk_below (g := gb137) (o := .cells #[.int .i64 0, .int .u64 0] 26 (0, 0)) (by (with_reducible repeat first | apply bN_ | apply bD_ | apply bA_); exact BK137.out) hb)
              have n3_ := Aside0.mk (below_step (by repeat (first | (with_reducible first | exact HB.out | apply below_alloc | apply pw_below_drewN | apply below_drew1 | refine below_set ?_ GE135.out | refine below_set ?_ GE136.out | refine below_set ?_ GE137.out) | exact HB.out)) hb)
              have n4_ := Aside0.mk (hbox)
              have n5_ := Aside0.mk ((by rw [hg]; exact (below_size (by repeat (first | (with_reducible first | exact HB.out | apply below_alloc | apply pw_below_drewN | apply below_drew1 | refine below_set ?_ GE135.out | refine below_set ?_ GE136.out | refine below_set ?_ GE137.out) | exact HB.out))) : w.heap.size ≤ gb146))
              have n6_ := Aside0.mk ((by rw [hg]; exact (below_size (by repeat (first | (with_reducible first | exact HB.out | apply below_alloc | apply pw_below_drewN | apply below_drew1 | refine below_set ?_ GE135.out | refine below_set ?_ GE136.out | refine below_set ?_ GE137.out) | exact HB.out))) : w.heap.size ≤ gb146))
              have n7_ := Aside0.mk ((by rw [hg]; exact Nat.ne_of_lt (blk_lt (g := gb135) (o := .cells #[.int .i64 a0_0, .int .u64 a0_1] 26 (0, 0)) (by (with_reducible repeat first | apply bN_ | apply bD_ | apply bA_); exact BK135.out)) : gb135 ≠ gb146))
              have n8_ := Aside0.mk ((by rw [hg]; exact Nat.ne_of_gt (blk_lt (g := gb135) (o := .cells #[.int .i64 a0_0, .int .u64 a0_1] 26 (0, 0)) (by (with_reducible repeat first | apply bN_ | apply bD_ | apply bA_); exact BK135.out)) : gb146 ≠ gb135))
              have n9_ := Aside0.mk ((by rw [hg]; exact Nat.ne_of_lt (blk_lt (g := gb136) (o := .cells #[.int .i64 a1_0, .int .u64 a1_1] 26 (0, 0)) (by (with_reducible repeat first | apply bN_ | apply bD_ | apply bA_); exact BK136.out)) : gb136 ≠ gb146))
              have n10_ := Aside0.mk ((by rw [hg]; exact Nat.ne_of_gt (blk_lt (g := gb136) (o := .cells #[.int .i64 a1_0, .int .u64 a1_1] 26 (0, 0)) (by (with_reducible repeat first | apply bN_ | apply bD_ | apply bA_); exact BK136.out)) : gb146 ≠ gb136))
              have n11_ := Aside0.mk ((by rw [hg]; exact Nat.ne_of_lt (blk_lt (g := gb137) (o := .cells #[.int .i64 0, .int .u64 0] 26 (0, 0)) (by (with_reducible repeat first | apply bN_ | apply bD_ | apply bA_); exact BK137.out)) : gb137 ≠ gb146))
              have n12_ := Aside0.mk ((by rw [hg]; exact Nat.ne_of_gt (blk_lt (g := gb137) (o := .cells #[.int .i64 0, .int .u64 0] 26 (0, 0)) (by (with_reducible repeat first | apply bN_ | apply bD_ | apply bA_); exact BK137.out)) : gb146 ≠ gb137))
              clear BK135
              clear BK136
              clear BK137
              clear HB
              have BK135 := n0_
              have BK136 := n1_
              have BK137 := n2_
              have HB := n3_
              have BK146 := n4_
              have GW146 := n5_
              have GE146 := n6_
              have NB135_146 := n7_
              have NB146_135 := n8_
              have NB136_146 := n9_
              have NB146_136 := n10_
              have NB137_146 := n11_
              have NB146_137 := n12_
              clear n0_ n1_ n2_ n3_ n4_ n5_ n6_ n7_ n8_ n9_ n10_ n11_ n12_
              clear hb hbox hg
              refine hK.out _ _ ⟨(blk_cell BK135.out 0).trans rfl, (blk_cell BK135.out 1).trans rfl, (blk_cell BK136.out 0).trans rfl, (blk_cell BK136.out 1).trans rfl⟩ (fun hHeld => ?_)
              clear hK K
              refine norm_ (a' := ?_) ?_ ?_
              rotate_left
              · show Act.put _ (some 6) _ = _
                simp only [Act.put, List.setIfInBounds_toArray, List.set_cons_zero, List.set_cons_succ, i64_w, i32_w]
                rfl
              exact norm_ (by first | (simp only [putAll, Act.put, List.setIfInBounds_toArray, List.set_cons_zero, List.set_cons_succ]; done) | (simp only [putAll, Act.put, List.setIfInBounds_toArray, List.set_cons_zero, List.set_cons_succ]; rfl)) (hJ1_3_4 (gb146) _ ⟨hHeld, (by (with_reducible repeat first | apply bN_ | apply bD_ | apply bA_); exact BK135.out), (by (with_reducible repeat first | apply bN_ | apply bD_ | apply bA_); exact BK136.out), (by (with_reducible repeat first | apply bN_ | apply bD_ | apply bA_); exact BK137.out), (by (with_reducible repeat first | apply bN_ | apply bD_ | apply bA_); exact BK146.out), GW146.out, GE146.out, NB135_146.out, NB146_135.out, NB136_146.out, NB146_136.out, NB137_146.out, NB146_137.out, (by repeat (first | (with_reducible first | exact HB.out | apply below_alloc | apply pw_below_drewN | apply below_drew1 | refine below_set ?_ GE135.out | refine below_set ?_ GE136.out | refine below_set ?_ GE137.out | refine below_set ?_ GE146.out) | exact HB.out))⟩)
            · skip
              refine box_step ?hg (N := 7) ?hd (cs := #[.int .i64 0, .int .i64 0, .int .i64 0, .int .i64 0]) (t := 46) ?hr ?_; (case hd => rfl); (case hg => rfl); (case hr => first | (go_simp; done) | (go_simp; rfl))
              intro gb147 hg w12 hbox hb
              have n0_ := Aside0.mk (blk_below (g := gb135) (o := .cells #[.int .i64 a0_0, .int .u64 a0_1] 26 (0, 0)) (by (with_reducible repeat first | apply bN_ | apply bD_ | apply bA_); exact BK135.out) hb)
              have n1_ := Aside0.mk (blk_below (g := gb136) (o := .cells #[.int .i64 a1_0, .int .u64 a1_1] 26 (0, 0)) (by (with_reducible repeat first | apply bN_ | apply bD_ | apply bA_); exact BK136.out) hb)
              have n2_ := Aside0.mk (blk_below (g := gb137) (o := .cells #[.int .i64 0, .int .u64 0] 26 (0, 0)) (by (with_reducible repeat first | apply bN_ | apply bD_ | apply bA_); exact BK137.out) hb)
              have n3_ := Aside0.mk (below_step (by repeat (first | (with_reducible first | exact HB.out | apply below_alloc | apply pw_below_drewN | apply below_drew1 | refine below_set ?_ GE135.out | refine below_set ?_ GE136.out | refine below_set ?_ GE137.out) | exact HB.out)) hb)
              have n4_ := Aside0.mk (hbox)
              have n5_ := Aside0.mk ((by rw [hg]; exact (below_size (by repeat (first | (with_reducible first | exact HB.out | apply below_alloc | apply pw_below_drewN | apply below_drew1 | refine below_set ?_ GE135.out | refine below_set ?_ GE136.out | refine below_set ?_ GE137.out) | exact HB.out))) : w.heap.size ≤ gb147))
              have n6_ := Aside0.mk ((by rw [hg]; exact (below_size (by repeat (first | (with_reducible first | exact HB.out | apply below_alloc | apply pw_below_drewN | apply below_drew1 | refine below_set ?_ GE135.out | refine below_set ?_ GE136.out | refine below_set ?_ GE137.out) | exact HB.out))) : w.heap.size ≤ gb147))
              have n7_ := Aside0.mk ((by rw [hg]; exact Nat.ne_of_lt (blk_lt (g := gb135) (o := .cells #[.int .i64 a0_0, .int .u64 a0_1] 26 (0, 0)) (by (with_reducible repeat first | apply bN_ | apply bD_ | apply bA_); exact BK135.out)) : gb135 ≠ gb147))
              have n8_ := Aside0.mk ((by rw [hg]; exact Nat.ne_of_gt (blk_lt (g := gb135) (o := .cells #[.int .i64 a0_0, .int .u64 a0_1] 26 (0, 0)) (by (with_reducible repeat first | apply bN_ | apply bD_ | apply bA_); exact BK135.out)) : gb147 ≠ gb135))
              have n9_ := Aside0.mk ((by rw [hg]; exact Nat.ne_of_lt (blk_lt (g := gb136) (o := .cells #[.int .i64 a1_0, .int .u64 a1_1] 26 (0, 0)) (by (with_reducible repeat first | apply bN_ | apply bD_ | apply bA_); exact BK136.out)) : gb136 ≠ gb147))
              have n10_ := Aside0.mk ((by rw [hg]; exact Nat.ne_of_gt (blk_lt (g := gb136) (o := .cells #[.int .i64 a1_0, .int .u64 a1_1] 26 (0, 0)) (by (with_reducible repeat first | apply bN_ | apply bD_ | apply bA_); exact BK136.out)) : gb147 ≠ gb136))
              have n11_ := Aside0.mk ((by rw [hg]; exact Nat.ne_of_lt (blk_lt (g := gb137) (o := .cells #[.int .i64 0, .int .u64 0] 26 (0, 0)) (by (with_reducible repeat first | apply bN_ | apply bD_ | apply bA_); exact BK137.out)) : gb137 ≠ gb147))
              have n12_ := Aside0.mk ((by rw [hg]; exact Nat.ne_of_gt (blk_lt (g := gb137) (o := .cells #[.int .i64 0, .int .u64 0] 26 (0, 0)) (by (with_reducible repeat first | apply bN_ | apply bD_ | apply bA_); exact BK137.out)) : gb147 ≠ gb137))
              clear BK135
              clear BK136
              clear BK137
              clear HB
              have BK135 := n0_
              have BK136 := n1_
              have BK137 := n2_
              have HB := n3_
              have BK147 := n4_
              have GW147 := n5_
              have GE147 := n6_
              have NB135_147 := n7_
              have NB147_135 := n8_
              have NB136_147 := n9_
              have NB147_136 := n10_
              have NB137_147 := n11_
              have NB147_137 := n12_
              clear n0_ n1_ n2_ n3_ n4_ n5_ n6_ n7_ n8_ n9_ n10_ n11_ n12_
              clear hb hbox hg
              refine hK.out _ _ ⟨(blk_cell BK135.out 0).trans rfl, (blk_cell BK135.out 1).trans rfl, (blk_cell BK136.out 0).trans rfl, (blk_cell BK136.out 1).trans rfl⟩ (fun hHeld => ?_)
              clear hK K
              refine norm_ (a' := ?_) ?_ ?_
              rotate_left
              · show Act.put _ (some 7) _ = _
                simp only [Act.put, List.setIfInBounds_toArray, List.set_cons_zero, List.set_cons_succ, i64_w, i32_w]
                rfl
              exact norm_ (by first | (simp only [putAll, Act.put, List.setIfInBounds_toArray, List.set_cons_zero, List.set_cons_succ]; done) | (simp only [putAll, Act.put, List.setIfInBounds_toArray, List.set_cons_zero, List.set_cons_succ]; rfl)) (hJ1_3_5 (gb147) _ ⟨hHeld, (by (with_reducible repeat first | apply bN_ | apply bD_ | apply bA_); exact BK135.out), (by (with_reducible repeat first | apply bN_ | apply bD_ | apply bA_); exact BK136.out), (by (with_reducible repeat first | apply bN_ | apply bD_ | apply bA_); exact BK137.out), (by (with_reducible repeat first | apply bN_ | apply bD_ | apply bA_); exact BK147.out), GW147.out, GE147.out, NB135_147.out, NB147_135.out, NB136_147.out, NB147_136.out, NB137_147.out, NB147_137.out, (by repeat (first | (with_reducible first | exact HB.out | apply below_alloc | apply pw_below_drewN | apply below_drew1 | refine below_set ?_ GE135.out | refine below_set ?_ GE136.out | refine below_set ?_ GE137.out | refine below_set ?_ GE147.out) | exact HB.out))⟩)
        · skip
          rintro ⟨gb146, gb147⟩ w12 ⟨hS_, h0_, h1_, h2_, h3_, h4_, h5_, h6_, h7_, h8_, h9_, h10_, h11_, h12_, h13_, h14_, h15_, h16_, h17_, h18_, h19_, h20_, h21_, h22_, h23_⟩
          have n0_ : Aside0 (w12.heap[gb135]? = some (.cells #[.int .i64 a0_0, .int .u64 a0_1] 26 (0, 0))) := ⟨h0_⟩
          have n1_ : Aside0 (w12.heap[gb136]? = some (.cells #[.int .i64 a1_0, .int .u64 a1_1] 26 (0, 0))) := ⟨h1_⟩
          have n2_ : Aside0 (w12.heap[gb137]? = some (.cells #[.int .i64 0, .int .u64 0] 26 (0, 0))) := ⟨h2_⟩
          have n3_ : Aside0 (w12.heap[gb146]? = some (.cells #[.int .i64 0, .int .i64 0, .int .i64 0, .int .i64 0] 46 (0, 0))) := ⟨h3_⟩
          have n4_ : Aside0 (w12.heap[gb147]? = some (.cells #[.int .i64 0, .int .i64 0, .int .i64 0, .int .i64 0] 46 (0, 0))) := ⟨h4_⟩
          have n5_ : Aside0 (w.heap.size ≤ gb146) := ⟨h5_⟩
          have n6_ : Aside0 (w.heap.size ≤ gb146) := ⟨h6_⟩
          have n7_ : Aside0 (gb135 ≠ gb146) := ⟨h7_⟩
          have n8_ : Aside0 (gb146 ≠ gb135) := ⟨h8_⟩
          have n9_ : Aside0 (gb136 ≠ gb146) := ⟨h9_⟩
          have n10_ : Aside0 (gb146 ≠ gb136) := ⟨h10_⟩
          have n11_ : Aside0 (gb137 ≠ gb146) := ⟨h11_⟩
          have n12_ : Aside0 (gb146 ≠ gb137) := ⟨h12_⟩
          have n13_ : Aside0 (gb147 ≠ gb146) := ⟨h13_⟩
          have n14_ : Aside0 (gb146 ≠ gb147) := ⟨h14_⟩
          have n15_ : Aside0 (w.heap.size ≤ gb147) := ⟨h15_⟩
          have n16_ : Aside0 (w.heap.size ≤ gb147) := ⟨h16_⟩
          have n17_ : Aside0 (gb135 ≠ gb147) := ⟨h17_⟩
          have n18_ : Aside0 (gb147 ≠ gb135) := ⟨h18_⟩
          have n19_ : Aside0 (gb136 ≠ gb147) := ⟨h19_⟩
          have n20_ : Aside0 (gb147 ≠ gb136) := ⟨h20_⟩
          have n21_ : Aside0 (gb137 ≠ gb147) := ⟨h21_⟩
          have n22_ : Aside0 (gb147 ≠ gb137) := ⟨h22_⟩
          have n23_ : Aside0 (Below w.heap.size w w12) := ⟨h23_⟩
          clear BK135
          clear BK136
          clear BK137
          clear HB
          clear h0_ h1_ h2_ h3_ h4_ h5_ h6_ h7_ h8_ h9_ h10_ h11_ h12_ h13_ h14_ h15_ h16_ h17_ h18_ h19_ h20_ h21_ h22_ h23_
          have BK135 := n0_
          have BK136 := n1_
          have BK137 := n2_
          have BK146 := n3_
          have BK147 := n4_
          have GW146 := n5_
          have GE146 := n6_
          have NB135_146 := n7_
          have NB146_135 := n8_
          have NB136_146 := n9_
          have NB146_136 := n10_
          have NB137_146 := n11_
          have NB146_137 := n12_
          have NB147_146 := n13_
          have NB146_147 := n14_
          have GW147 := n15_
          have GE147 := n16_
          have NB135_147 := n17_
          have NB147_135 := n18_
          have NB136_147 := n19_
          have NB147_136 := n20_
          have NB137_147 := n21_
          have NB147_137 := n22_
          have HB := n23_
          clear n0_ n1_ n2_ n3_ n4_ n5_ n6_ n7_ n8_ n9_ n10_ n11_ n12_ n13_ n14_ n15_ n16_ n17_ n18_ n19_ n20_ n21_ n22_ n23_
          have hHeld : w12.cell? ⟨gb135, 0, none⟩ = some (.int .i64 a0_0) ∧ w12.cell? ⟨gb135, 1, none⟩ = some (.int .u64 a0_1) ∧ w12.cell? ⟨gb136, 0, none⟩ = some (.int .i64 a1_0) ∧ w12.cell? ⟨gb136, 1, none⟩ = some (.int .u64 a1_1) := hS_
          refine norm_ (a' := ?_) ?_ ?_
          rotate_left
          · simp only [putAll, Act.put, List.setIfInBounds_toArray, List.set_cons_zero, List.set_cons_succ]
            rfl
          refine one_ (i := 3) (N := some 12) #[true, true, true, true, true, true, false, false] rfl rfl (one_of HT_.out (by kernel_rfl)) (by decide) (fun K hK => ?_)
          refine goes_ Try.func22 (by kernel_rfl) rfl #[.agg #[.int .i64 a1_0, .int .u64 a1_1]] (by rfl) rfl rfl (by (try simp only [List.map_toArray, List.map_cons, List.map_nil]); first | done | rfl | (simp only [List.length_drop, List.length_take]; rfl)) ?_
          with_reducible refine (corollaryref02_Four.calls a1_0 a1_1 t142 t143 t144 t145 _ A4.out).mono ?_
          rintro e w13 ⟨rfl, hb⟩
          refine ⟨_, rfl, ?_⟩
          have n0_ := Aside0.mk (blk_below (g := gb135) (o := .cells #[.int .i64 a0_0, .int .u64 a0_1] 26 (0, 0)) (by (with_reducible repeat first | apply bN_ | apply bD_ | apply bA_); exact BK135.out) hb)
          have n1_ := Aside0.mk (blk_below (g := gb136) (o := .cells #[.int .i64 a1_0, .int .u64 a1_1] 26 (0, 0)) (by (with_reducible repeat first | apply bN_ | apply bD_ | apply bA_); exact BK136.out) hb)
          have n2_ := Aside0.mk (blk_below (g := gb137) (o := .cells #[.int .i64 0, .int .u64 0] 26 (0, 0)) (by (with_reducible repeat first | apply bN_ | apply bD_ | apply bA_); exact BK137.out) hb)
          have n3_ := Aside0.mk (blk_below (g := gb146) (o := .cells #[.int .i64 0, .int .i64 0, .int .i64 0, .int .i64 0] 46 (0, 0)) (by (with_reducible repeat first | apply bN_ | apply bD_ | apply bA_); exact BK146.out) hb)
          have n4_ := Aside0.mk (blk_below (g := gb147) (o := .cells #[.int .i64 0, .int .i64 0, .int .i64 0, .int .i64 0] 46 (0, 0)) (by (with_reducible repeat first | apply bN_ | apply bD_ | apply bA_); exact BK147.out) hb)
          have n5_ := Aside0.mk (below_step (by repeat (first | (with_reducible first | exact HB.out | apply below_alloc | apply pw_below_drewN | apply below_drew1 | refine below_set ?_ GE135.out | refine below_set ?_ GE136.out | refine below_set ?_ GE137.out | refine below_set ?_ GE146.out | refine below_set ?_ GE147.out) | exact HB.out)) hb)
          clear BK135
          clear BK136
          clear BK137
          clear BK146
          clear BK147
          clear HB
          have BK135 := n0_
          have BK136 := n1_
          have BK137 := n2_
          have BK146 := n3_
          have BK147 := n4_
          have HB := n5_
          clear n0_ n1_ n2_ n3_ n4_ n5_
          (try clear hb)
          (try clear hb2)
          (try clear hk)
          (try clear hi)
          refine hK.out _ _ ⟨(blk_cell BK135.out 0).trans rfl, (blk_cell BK135.out 1).trans rfl, (blk_cell BK136.out 0).trans rfl, (blk_cell BK136.out 1).trans rfl⟩ (fun hHeld => ?_)
          clear hK K
          refine norm_ (a' := ?_) ?_ ?_
          rotate_left
          · show Act.put _ (some 12) _ = _
            simp only [Act.put, List.setIfInBounds_toArray, List.set_cons_zero, List.set_cons_succ, i64_w, i32_w]
            rfl
          exact norm_ (by first | (simp only [putAll, Act.put, List.setIfInBounds_toArray, List.set_cons_zero, List.set_cons_succ]; done) | (simp only [putAll, Act.put, List.setIfInBounds_toArray, List.set_cons_zero, List.set_cons_succ]; rfl)) (hJ1_3_4_5 (gb146, gb147) _ ⟨hHeld, (by (with_reducible repeat first | apply bN_ | apply bD_ | apply bA_); exact BK135.out), (by (with_reducible repeat first | apply bN_ | apply bD_ | apply bA_); exact BK136.out), (by (with_reducible repeat first | apply bN_ | apply bD_ | apply bA_); exact BK137.out), (by (with_reducible repeat first | apply bN_ | apply bD_ | apply bA_); exact BK146.out), (by (with_reducible repeat first | apply bN_ | apply bD_ | apply bA_); exact BK147.out), GW146.out, GE146.out, NB135_146.out, NB146_135.out, NB136_146.out, NB146_136.out, NB137_146.out, NB146_137.out, NB147_146.out, NB146_147.out, GW147.out, GE147.out, NB135_147.out, NB147_135.out, NB136_147.out, NB147_136.out, NB137_147.out, NB147_137.out, (by repeat (first | (with_reducible first | exact HB.out | apply below_alloc | apply pw_below_drewN | apply below_drew1 | refine below_set ?_ GE135.out | refine below_set ?_ GE136.out | refine below_set ?_ GE137.out | refine below_set ?_ GE146.out | refine below_set ?_ GE147.out) | exact HB.out))⟩)
      · skip
        rintro gb147 w12 ⟨hS_, h0_, h1_, h2_, h3_, h4_, h5_, h6_, h7_, h8_, h9_, h10_, h11_, h12_⟩
        have n0_ : Aside0 (w12.heap[gb135]? = some (.cells #[.int .i64 a0_0, .int .u64 a0_1] 26 (0, 0))) := ⟨h0_⟩
        have n1_ : Aside0 (w12.heap[gb136]? = some (.cells #[.int .i64 a1_0, .int .u64 a1_1] 26 (0, 0))) := ⟨h1_⟩
        have n2_ : Aside0 (w12.heap[gb137]? = some (.cells #[.int .i64 0, .int .u64 0] 26 (0, 0))) := ⟨h2_⟩
        have n3_ : Aside0 (w12.heap[gb147]? = some (.cells #[.int .i64 0, .int .i64 0, .int .i64 0, .int .i64 0] 46 (0, 0))) := ⟨h3_⟩
        have n4_ : Aside0 (w.heap.size ≤ gb147) := ⟨h4_⟩
        have n5_ : Aside0 (w.heap.size ≤ gb147) := ⟨h5_⟩
        have n6_ : Aside0 (gb135 ≠ gb147) := ⟨h6_⟩
        have n7_ : Aside0 (gb147 ≠ gb135) := ⟨h7_⟩
        have n8_ : Aside0 (gb136 ≠ gb147) := ⟨h8_⟩
        have n9_ : Aside0 (gb147 ≠ gb136) := ⟨h9_⟩
        have n10_ : Aside0 (gb137 ≠ gb147) := ⟨h10_⟩
        have n11_ : Aside0 (gb147 ≠ gb137) := ⟨h11_⟩
        have n12_ : Aside0 (Below w.heap.size w w12) := ⟨h12_⟩
        clear BK135
        clear BK136
        clear BK137
        clear HB
        clear h0_ h1_ h2_ h3_ h4_ h5_ h6_ h7_ h8_ h9_ h10_ h11_ h12_
        have BK135 := n0_
        have BK136 := n1_
        have BK137 := n2_
        have BK147 := n3_
        have GW147 := n4_
        have GE147 := n5_
        have NB135_147 := n6_
        have NB147_135 := n7_
        have NB136_147 := n8_
        have NB147_136 := n9_
        have NB137_147 := n10_
        have NB147_137 := n11_
        have HB := n12_
        clear n0_ n1_ n2_ n3_ n4_ n5_ n6_ n7_ n8_ n9_ n10_ n11_ n12_
        have hHeld : w12.cell? ⟨gb135, 0, none⟩ = some (.int .i64 a0_0) ∧ w12.cell? ⟨gb135, 1, none⟩ = some (.int .u64 a0_1) ∧ w12.cell? ⟨gb136, 0, none⟩ = some (.int .i64 a1_0) ∧ w12.cell? ⟨gb136, 1, none⟩ = some (.int .u64 a1_1) := hS_
        refine norm_ (a' := ?_) ?_ ?_
        rotate_left
        · simp only [putAll, Act.put, List.setIfInBounds_toArray, List.set_cons_zero, List.set_cons_succ]
          rfl
        refine one_ (i := 4) (N := some 6) #[true, true, true, true, true, true, false, false] rfl rfl (one_of HT_.out (by kernel_rfl)) (by decide) (fun K hK => ?_)
        refine box_step ?hg (N := 6) ?hd (cs := #[.int .i64 0, .int .i64 0, .int .i64 0, .int .i64 0]) (t := 46) ?hr ?_; (case hd => rfl); (case hg => rfl); (case hr => first | (go_simp; done) | (go_simp; rfl))
        intro gb146 hg w13 hbox hb
        have n0_ := Aside0.mk (blk_below (g := gb135) (o := .cells #[.int .i64 a0_0, .int .u64 a0_1] 26 (0, 0)) (by (with_reducible repeat first | apply bN_ | apply bD_ | apply bA_); exact BK135.out) hb)
        have n1_ := Aside0.mk (blk_below (g := gb136) (o := .cells #[.int .i64 a1_0, .int .u64 a1_1] 26 (0, 0)) (by (with_reducible repeat first | apply bN_ | apply bD_ | apply bA_); exact BK136.out) hb)
        have n2_ := Aside0.mk (blk_below (g := gb137) (o := .cells #[.int .i64 0, .int .u64 0] 26 (0, 0)) (by (with_reducible repeat first | apply bN_ | apply bD_ | apply bA_); exact BK137.out) hb)
        have n3_ := Aside0.mk (blk_below (g := gb147) (o := .cells #[.int .i64 0, .int .i64 0, .int .i64 0, .int .i64 0] 46 (0, 0)) (by (with_reducible repeat first | apply bN_ | apply bD_ | apply bA_); exact BK147.out) hb)
        have n4_ := Aside0.mk (below_step (by repeat (first | (with_reducible first | exact HB.out | apply below_alloc | apply pw_below_drewN | apply below_drew1 | refine below_set ?_ GE135.out | refine below_set ?_ GE136.out | refine below_set ?_ GE137.out | refine below_set ?_ GE147.out) | exact HB.out)) hb)
        have n5_ := Aside0.mk (hbox)
        have n6_ := Aside0.mk ((by rw [hg]; exact (below_size (by repeat (first | (with_reducible first | exact HB.out | apply below_alloc | apply pw_below_drewN | apply below_drew1 | refine below_set ?_ GE135.out | refine below_set ?_ GE136.out | refine below_set ?_ GE137.out | refine below_set ?_ GE147.out) | exact HB.out))) : w.heap.size ≤ gb146))
        have n7_ := Aside0.mk ((by rw [hg]; exact (below_size (by repeat (first | (with_reducible first | exact HB.out | apply below_alloc | apply pw_below_drewN | apply below_drew1 | refine below_set ?_ GE135.out | refine below_set ?_ GE136.out | refine below_set ?_ GE137.out | refine below_set ?_ GE147.out) | exact HB.out))) : w.heap.size ≤ gb146))
        have n8_ := Aside0.mk ((by rw [hg]; exact Nat.ne_of_lt (blk_lt (g := gb135) (o := .cells #[.int .i64 a0_0, .int .u64 a0_1] 26 (0, 0)) (by (with_reducible repeat first | apply bN_ | apply bD_ | apply bA_); exact BK135.out)) : gb135 ≠ gb146))
        have n9_ := Aside0.mk ((by rw [hg]; exact Nat.ne_of_gt (blk_lt (g := gb135) (o := .cells #[.int .i64 a0_0, .int .u64 a0_1] 26 (0, 0)) (by (with_reducible repeat first | apply bN_ | apply bD_ | apply bA_); exact BK135.out)) : gb146 ≠ gb135))
        have n10_ := Aside0.mk ((by rw [hg]; exact Nat.ne_of_lt (blk_lt (g := gb136) (o := .cells #[.int .i64 a1_0, .int .u64 a1_1] 26 (0, 0)) (by (with_reducible repeat first | apply bN_ | apply bD_ | apply bA_); exact BK136.out)) : gb136 ≠ gb146))
        have n11_ := Aside0.mk ((by rw [hg]; exact Nat.ne_of_gt (blk_lt (g := gb136) (o := .cells #[.int .i64 a1_0, .int .u64 a1_1] 26 (0, 0)) (by (with_reducible repeat first | apply bN_ | apply bD_ | apply bA_); exact BK136.out)) : gb146 ≠ gb136))
        have n12_ := Aside0.mk ((by rw [hg]; exact Nat.ne_of_lt (blk_lt (g := gb137) (o := .cells #[.int .i64 0, .int .u64 0] 26 (0, 0)) (by (with_reducible repeat first | apply bN_ | apply bD_ | apply bA_); exact BK137.out)) : gb137 ≠ gb146))
        have n13_ := Aside0.mk ((by rw [hg]; exact Nat.ne_of_gt (blk_lt (g := gb137) (o := .cells #[.int .i64 0, .int .u64 0] 26 (0, 0)) (by (with_reducible repeat first | apply bN_ | apply bD_ | apply bA_); exact BK137.out)) : gb146 ≠ gb137))
        have n14_ := Aside0.mk ((by rw [hg]; exact Nat.ne_of_lt (blk_lt (g := gb147) (o := .cells #[.int .i64 0, .int .i64 0, .int .i64 0, .int .i64 0] 46 (0, 0)) (by (with_reducible repeat first | apply bN_ | apply bD_ | apply bA_); exact BK147.out)) : gb147 ≠ gb146))
        have n15_ := Aside0.mk ((by rw [hg]; exact Nat.ne_of_gt (blk_lt (g := gb147) (o := .cells #[.int .i64 0, .int .i64 0, .int .i64 0, .int .i64 0] 46 (0, 0)) (by (with_reducible repeat first | apply bN_ | apply bD_ | apply bA_); exact BK147.out)) : gb146 ≠ gb147))
        clear BK135
        clear BK136
        clear BK137
        clear BK147
        clear HB
        have BK135 := n0_
        have BK136 := n1_
        have BK137 := n2_
        have BK147 := n3_
        have HB := n4_
        have BK146 := n5_
        have GW146 := n6_
        have GE146 := n7_
        have NB135_146 := n8_
        have NB146_135 := n9_
        have NB136_146 := n10_
        have NB146_136 := n11_
        have NB137_146 := n12_
        have NB146_137 := n13_
        have NB147_146 := n14_
        have NB146_147 := n15_
        clear n0_ n1_ n2_ n3_ n4_ n5_ n6_ n7_ n8_ n9_ n10_ n11_ n12_ n13_ n14_ n15_
        clear hb hbox hg
        refine hK.out _ _ ⟨(blk_cell BK135.out 0).trans rfl, (blk_cell BK135.out 1).trans rfl, (blk_cell BK136.out 0).trans rfl, (blk_cell BK136.out 1).trans rfl⟩ (fun hHeld => ?_)
        clear hK K
        refine norm_ (a' := ?_) ?_ ?_
        rotate_left
        · show Act.put _ (some 6) _ = _
          simp only [Act.put, List.setIfInBounds_toArray, List.set_cons_zero, List.set_cons_succ, i64_w, i32_w]
          rfl
        exact norm_ (by first | (simp only [putAll, Act.put, List.setIfInBounds_toArray, List.set_cons_zero, List.set_cons_succ]; done) | (simp only [putAll, Act.put, List.setIfInBounds_toArray, List.set_cons_zero, List.set_cons_succ]; rfl)) (hJ1_3_4_5 (gb146, gb147) _ ⟨hHeld, (by (with_reducible repeat first | apply bN_ | apply bD_ | apply bA_); exact BK135.out), (by (with_reducible repeat first | apply bN_ | apply bD_ | apply bA_); exact BK136.out), (by (with_reducible repeat first | apply bN_ | apply bD_ | apply bA_); exact BK137.out), (by (with_reducible repeat first | apply bN_ | apply bD_ | apply bA_); exact BK146.out), (by (with_reducible repeat first | apply bN_ | apply bD_ | apply bA_); exact BK147.out), GW146.out, GE146.out, NB135_146.out, NB146_135.out, NB136_146.out, NB146_136.out, NB137_146.out, NB146_137.out, NB147_146.out, NB146_147.out, GW147.out, GE147.out, NB135_147.out, NB147_135.out, NB136_147.out, NB147_136.out, NB137_147.out, NB147_137.out, (by repeat (first | (with_reducible first | exact HB.out | apply below_alloc | apply pw_below_drewN | apply below_drew1 | refine below_set ?_ GE135.out | refine below_set ?_ GE136.out | refine below_set ?_ GE137.out | refine below_set ?_ GE147.out | refine below_set ?_ GE146.out) | exact HB.out))⟩)
    · skip
      rintro gb146 w12 ⟨hS_, h0_, h1_, h2_, h3_, h4_, h5_, h6_, h7_, h8_, h9_, h10_, h11_, h12_⟩
      have n0_ : Aside0 (w12.heap[gb135]? = some (.cells #[.int .i64 a0_0, .int .u64 a0_1] 26 (0, 0))) := ⟨h0_⟩
      have n1_ : Aside0 (w12.heap[gb136]? = some (.cells #[.int .i64 a1_0, .int .u64 a1_1] 26 (0, 0))) := ⟨h1_⟩
      have n2_ : Aside0 (w12.heap[gb137]? = some (.cells #[.int .i64 0, .int .u64 0] 26 (0, 0))) := ⟨h2_⟩
      have n3_ : Aside0 (w12.heap[gb146]? = some (.cells #[.int .i64 0, .int .i64 0, .int .i64 0, .int .i64 0] 46 (0, 0))) := ⟨h3_⟩
      have n4_ : Aside0 (w.heap.size ≤ gb146) := ⟨h4_⟩
      have n5_ : Aside0 (w.heap.size ≤ gb146) := ⟨h5_⟩
      have n6_ : Aside0 (gb135 ≠ gb146) := ⟨h6_⟩
      have n7_ : Aside0 (gb146 ≠ gb135) := ⟨h7_⟩
      have n8_ : Aside0 (gb136 ≠ gb146) := ⟨h8_⟩
      have n9_ : Aside0 (gb146 ≠ gb136) := ⟨h9_⟩
      have n10_ : Aside0 (gb137 ≠ gb146) := ⟨h10_⟩
      have n11_ : Aside0 (gb146 ≠ gb137) := ⟨h11_⟩
      have n12_ : Aside0 (Below w.heap.size w w12) := ⟨h12_⟩
      clear BK135
      clear BK136
      clear BK137
      clear HB
      clear h0_ h1_ h2_ h3_ h4_ h5_ h6_ h7_ h8_ h9_ h10_ h11_ h12_
      have BK135 := n0_
      have BK136 := n1_
      have BK137 := n2_
      have BK146 := n3_
      have GW146 := n4_
      have GE146 := n5_
      have NB135_146 := n6_
      have NB146_135 := n7_
      have NB136_146 := n8_
      have NB146_136 := n9_
      have NB137_146 := n10_
      have NB146_137 := n11_
      have HB := n12_
      clear n0_ n1_ n2_ n3_ n4_ n5_ n6_ n7_ n8_ n9_ n10_ n11_ n12_
      have hHeld : w12.cell? ⟨gb135, 0, none⟩ = some (.int .i64 a0_0) ∧ w12.cell? ⟨gb135, 1, none⟩ = some (.int .u64 a0_1) ∧ w12.cell? ⟨gb136, 0, none⟩ = some (.int .i64 a1_0) ∧ w12.cell? ⟨gb136, 1, none⟩ = some (.int .u64 a1_1) := hS_
      refine norm_ (a' := ?_) ?_ ?_
      rotate_left
      · simp only [putAll, Act.put, List.setIfInBounds_toArray, List.set_cons_zero, List.set_cons_succ]
        rfl
      refine one_ (i := 5) (N := some 7) #[true, true, true, true, true, true, false, false] rfl rfl (one_of HT_.out (by kernel_rfl)) (by decide) (fun K hK => ?_)
      refine box_step ?hg (N := 7) ?hd (cs := #[.int .i64 0, .int .i64 0, .int .i64 0, .int .i64 0]) (t := 46) ?hr ?_; (case hd => rfl); (case hg => rfl); (case hr => first | (go_simp; done) | (go_simp; rfl))
      intro gb147 hg w13 hbox hb
      have n0_ := Aside0.mk (blk_below (g := gb135) (o := .cells #[.int .i64 a0_0, .int .u64 a0_1] 26 (0, 0)) (by (with_reducible repeat first | apply bN_ | apply bD_ | apply bA_); exact BK135.out) hb)
      have n1_ := Aside0.mk (blk_below (g := gb136) (o := .cells #[.int .i64 a1_0, .int .u64 a1_1] 26 (0, 0)) (by (with_reducible repeat first | apply bN_ | apply bD_ | apply bA_); exact BK136.out) hb)
      have n2_ := Aside0.mk (blk_below (g := gb137) (o := .cells #[.int .i64 0, .int .u64 0] 26 (0, 0)) (by (with_reducible repeat first | apply bN_ | apply bD_ | apply bA_); exact BK137.out) hb)
      have n3_ := Aside0.mk (blk_below (g := gb146) (o := .cells #[.int .i64 0, .int .i64 0, .int .i64 0, .int .i64 0] 46 (0, 0)) (by (with_reducible repeat first | apply bN_ | apply bD_ | apply bA_); exact BK146.out) hb)
      have n4_ := Aside0.mk (below_step (by repeat (first | (with_reducible first | exact HB.out | apply below_alloc | apply pw_below_drewN | apply below_drew1 | refine below_set ?_ GE135.out | refine below_set ?_ GE136.out | refine below_set ?_ GE137.out | refine below_set ?_ GE146.out) | exact HB.out)) hb)
      have n5_ := Aside0.mk (hbox)
      have n6_ := Aside0.mk ((by rw [hg]; exact (below_size (by repeat (first | (with_reducible first | exact HB.out | apply below_alloc | apply pw_below_drewN | apply below_drew1 | refine below_set ?_ GE135.out | refine below_set ?_ GE136.out | refine below_set ?_ GE137.out | refine below_set ?_ GE146.out) | exact HB.out))) : w.heap.size ≤ gb147))
      have n7_ := Aside0.mk ((by rw [hg]; exact (below_size (by repeat (first | (with_reducible first | exact HB.out | apply below_alloc | apply pw_below_drewN | apply below_drew1 | refine below_set ?_ GE135.out | refine below_set ?_ GE136.out | refine below_set ?_ GE137.out | refine below_set ?_ GE146.out) | exact HB.out))) : w.heap.size ≤ gb147))
      have n8_ := Aside0.mk ((by rw [hg]; exact Nat.ne_of_lt (blk_lt (g := gb135) (o := .cells #[.int .i64 a0_0, .int .u64 a0_1] 26 (0, 0)) (by (with_reducible repeat first | apply bN_ | apply bD_ | apply bA_); exact BK135.out)) : gb135 ≠ gb147))
      have n9_ := Aside0.mk ((by rw [hg]; exact Nat.ne_of_gt (blk_lt (g := gb135) (o := .cells #[.int .i64 a0_0, .int .u64 a0_1] 26 (0, 0)) (by (with_reducible repeat first | apply bN_ | apply bD_ | apply bA_); exact BK135.out)) : gb147 ≠ gb135))
      have n10_ := Aside0.mk ((by rw [hg]; exact Nat.ne_of_lt (blk_lt (g := gb136) (o := .cells #[.int .i64 a1_0, .int .u64 a1_1] 26 (0, 0)) (by (with_reducible repeat first | apply bN_ | apply bD_ | apply bA_); exact BK136.out)) : gb136 ≠ gb147))
      have n11_ := Aside0.mk ((by rw [hg]; exact Nat.ne_of_gt (blk_lt (g := gb136) (o := .cells #[.int .i64 a1_0, .int .u64 a1_1] 26 (0, 0)) (by (with_reducible repeat first | apply bN_ | apply bD_ | apply bA_); exact BK136.out)) : gb147 ≠ gb136))
      have n12_ := Aside0.mk ((by rw [hg]; exact Nat.ne_of_lt (blk_lt (g := gb137) (o := .cells #[.int .i64 0, .int .u64 0] 26 (0, 0)) (by (with_reducible repeat first | apply bN_ | apply bD_ | apply bA_); exact BK137.out)) : gb137 ≠ gb147))
      have n13_ := Aside0.mk ((by rw [hg]; exact Nat.ne_of_gt (blk_lt (g := gb137) (o := .cells #[.int .i64 0, .int .u64 0] 26 (0, 0)) (by (with_reducible repeat first | apply bN_ | apply bD_ | apply bA_); exact BK137.out)) : gb147 ≠ gb137))
      have n14_ := Aside0.mk ((by rw [hg]; exact Nat.ne_of_lt (blk_lt (g := gb146) (o := .cells #[.int .i64 0, .int .i64 0, .int .i64 0, .int .i64 0] 46 (0, 0)) (by (with_reducible repeat first | apply bN_ | apply bD_ | apply bA_); exact BK146.out)) : gb146 ≠ gb147))
      have n15_ := Aside0.mk ((by rw [hg]; exact Nat.ne_of_gt (blk_lt (g := gb146) (o := .cells #[.int .i64 0, .int .i64 0, .int .i64 0, .int .i64 0] 46 (0, 0)) (by (with_reducible repeat first | apply bN_ | apply bD_ | apply bA_); exact BK146.out)) : gb147 ≠ gb146))
      clear BK135
      clear BK136
      clear BK137
      clear BK146
      clear HB
      have BK135 := n0_
      have BK136 := n1_
      have BK137 := n2_
      have BK146 := n3_
      have HB := n4_
      have BK147 := n5_
      have GW147 := n6_
      have GE147 := n7_
      have NB135_147 := n8_
      have NB147_135 := n9_
      have NB136_147 := n10_
      have NB147_136 := n11_
      have NB137_147 := n12_
      have NB147_137 := n13_
      have NB146_147 := n14_
      have NB147_146 := n15_
      clear n0_ n1_ n2_ n3_ n4_ n5_ n6_ n7_ n8_ n9_ n10_ n11_ n12_ n13_ n14_ n15_
      clear hb hbox hg
      refine hK.out _ _ ⟨(blk_cell BK135.out 0).trans rfl, (blk_cell BK135.out 1).trans rfl, (blk_cell BK136.out 0).trans rfl, (blk_cell BK136.out 1).trans rfl⟩ (fun hHeld => ?_)
      clear hK K
      refine norm_ (a' := ?_) ?_ ?_
      rotate_left
      · show Act.put _ (some 7) _ = _
        simp only [Act.put, List.setIfInBounds_toArray, List.set_cons_zero, List.set_cons_succ, i64_w, i32_w]
        rfl
      exact norm_ (by first | (simp only [putAll, Act.put, List.setIfInBounds_toArray, List.set_cons_zero, List.set_cons_succ]; done) | (simp only [putAll, Act.put, List.setIfInBounds_toArray, List.set_cons_zero, List.set_cons_succ]; rfl)) (hJ1_3_4_5 (gb146, gb147) _ ⟨hHeld, (by (with_reducible repeat first | apply bN_ | apply bD_ | apply bA_); exact BK135.out), (by (with_reducible repeat first | apply bN_ | apply bD_ | apply bA_); exact BK136.out), (by (with_reducible repeat first | apply bN_ | apply bD_ | apply bA_); exact BK137.out), (by (with_reducible repeat first | apply bN_ | apply bD_ | apply bA_); exact BK146.out), (by (with_reducible repeat first | apply bN_ | apply bD_ | apply bA_); exact BK147.out), GW146.out, GE146.out, NB135_146.out, NB146_135.out, NB136_146.out, NB146_136.out, NB137_146.out, NB146_137.out, NB147_146.out, NB146_147.out, GW147.out, GE147.out, NB135_147.out, NB147_135.out, NB136_147.out, NB147_136.out, NB137_147.out, NB147_137.out, (by repeat (first | (with_reducible first | exact HB.out | apply below_alloc | apply pw_below_drewN | apply below_drew1 | refine below_set ?_ GE135.out | refine below_set ?_ GE136.out | refine below_set ?_ GE137.out | refine below_set ?_ GE146.out | refine below_set ?_ GE147.out) | exact HB.out))⟩)
  rintro ⟨gb146, gb147⟩ w13 ⟨hS_, h0_, h1_, h2_, h3_, h4_, h5_, h6_, h7_, h8_, h9_, h10_, h11_, h12_, h13_, h14_, h15_, h16_, h17_, h18_, h19_, h20_, h21_, h22_, h23_⟩
  have n0_ : Aside0 (w13.heap[gb135]? = some (.cells #[.int .i64 a0_0, .int .u64 a0_1] 26 (0, 0))) := ⟨h0_⟩
  have n1_ : Aside0 (w13.heap[gb136]? = some (.cells #[.int .i64 a1_0, .int .u64 a1_1] 26 (0, 0))) := ⟨h1_⟩
  have n2_ : Aside0 (w13.heap[gb137]? = some (.cells #[.int .i64 0, .int .u64 0] 26 (0, 0))) := ⟨h2_⟩
  have n3_ : Aside0 (w13.heap[gb146]? = some (.cells #[.int .i64 0, .int .i64 0, .int .i64 0, .int .i64 0] 46 (0, 0))) := ⟨h3_⟩
  have n4_ : Aside0 (w13.heap[gb147]? = some (.cells #[.int .i64 0, .int .i64 0, .int .i64 0, .int .i64 0] 46 (0, 0))) := ⟨h4_⟩
  have n5_ : Aside0 (w.heap.size ≤ gb146) := ⟨h5_⟩
  have n6_ : Aside0 (w.heap.size ≤ gb146) := ⟨h6_⟩
  have n7_ : Aside0 (gb135 ≠ gb146) := ⟨h7_⟩
  have n8_ : Aside0 (gb146 ≠ gb135) := ⟨h8_⟩
  have n9_ : Aside0 (gb136 ≠ gb146) := ⟨h9_⟩
  have n10_ : Aside0 (gb146 ≠ gb136) := ⟨h10_⟩
  have n11_ : Aside0 (gb137 ≠ gb146) := ⟨h11_⟩
  have n12_ : Aside0 (gb146 ≠ gb137) := ⟨h12_⟩
  have n13_ : Aside0 (gb147 ≠ gb146) := ⟨h13_⟩
  have n14_ : Aside0 (gb146 ≠ gb147) := ⟨h14_⟩
  have n15_ : Aside0 (w.heap.size ≤ gb147) := ⟨h15_⟩
  have n16_ : Aside0 (w.heap.size ≤ gb147) := ⟨h16_⟩
  have n17_ : Aside0 (gb135 ≠ gb147) := ⟨h17_⟩
  have n18_ : Aside0 (gb147 ≠ gb135) := ⟨h18_⟩
  have n19_ : Aside0 (gb136 ≠ gb147) := ⟨h19_⟩
  have n20_ : Aside0 (gb147 ≠ gb136) := ⟨h20_⟩
  have n21_ : Aside0 (gb137 ≠ gb147) := ⟨h21_⟩
  have n22_ : Aside0 (gb147 ≠ gb137) := ⟨h22_⟩
  have n23_ : Aside0 (Below w.heap.size w w13) := ⟨h23_⟩
  clear BK135
  clear BK136
  clear BK137
  clear HB
  clear h0_ h1_ h2_ h3_ h4_ h5_ h6_ h7_ h8_ h9_ h10_ h11_ h12_ h13_ h14_ h15_ h16_ h17_ h18_ h19_ h20_ h21_ h22_ h23_
  have BK135 := n0_
  have BK136 := n1_
  have BK137 := n2_
  have BK146 := n3_
  have BK147 := n4_
  have GW146 := n5_
  have GE146 := n6_
  have NB135_146 := n7_
  have NB146_135 := n8_
  have NB136_146 := n9_
  have NB146_136 := n10_
  have NB137_146 := n11_
  have NB146_137 := n12_
  have NB147_146 := n13_
  have NB146_147 := n14_
  have GW147 := n15_
  have GE147 := n16_
  have NB135_147 := n17_
  have NB147_135 := n18_
  have NB136_147 := n19_
  have NB147_136 := n20_
  have NB137_147 := n21_
  have NB147_137 := n22_
  have HB := n23_
  clear n0_ n1_ n2_ n3_ n4_ n5_ n6_ n7_ n8_ n9_ n10_ n11_ n12_ n13_ n14_ n15_ n16_ n17_ n18_ n19_ n20_ n21_ n22_ n23_
  have hHeld : w13.cell? ⟨gb135, 0, none⟩ = some (.int .i64 a0_0) ∧ w13.cell? ⟨gb135, 1, none⟩ = some (.int .u64 a0_1) ∧ w13.cell? ⟨gb136, 0, none⟩ = some (.int .i64 a1_0) ∧ w13.cell? ⟨gb136, 1, none⟩ = some (.int .u64 a1_1) := hS_
  refine norm_ (a' := ?_) ?_ ?_
  rotate_left
  · simp only [putAll, Act.put, List.setIfInBounds_toArray, List.set_cons_zero, List.set_cons_succ]
    rfl
  refine one_ (i := 6) (N := none) #[true, true, true, true, true, true, true, false] rfl rfl (one_of HT_.out (by kernel_rfl)) (by decide) (fun K hK => ?_)
  have hs14 : w13.cell? ⟨gb146, 0, none⟩ = some (.int .i64 0) := (blk_cell BK146.out 0).trans rfl
  have hfs14 := blk_frozen BK146.out 0
  have hns14_0 := NB135_146.out
  have hns14_1 := NB136_146.out
  have hns14_2 := NB137_146.out
  have hns14_4 := NB147_146.out
  have hms14_0 := NB146_135.out
  have hms14_1 := NB146_136.out
  have hms14_2 := NB146_137.out
  have hms14_4 := NB146_147.out
  have hs15 : w13.cell? ⟨gb146, 1, none⟩ = some (.int .i64 0) := (blk_cell BK146.out 1).trans rfl
  have hfs15 := blk_frozen BK146.out 1
  have hns15_0 := NB135_146.out
  have hns15_1 := NB136_146.out
  have hns15_2 := NB137_146.out
  have hns15_4 := NB147_146.out
  have hms15_0 := NB146_135.out
  have hms15_1 := NB146_136.out
  have hms15_2 := NB146_137.out
  have hms15_4 := NB146_147.out
  have hs16 : w13.cell? ⟨gb146, 2, none⟩ = some (.int .i64 0) := (blk_cell BK146.out 2).trans rfl
  have hfs16 := blk_frozen BK146.out 2
  have hns16_0 := NB135_146.out
  have hns16_1 := NB136_146.out
  have hns16_2 := NB137_146.out
  have hns16_4 := NB147_146.out
  have hms16_0 := NB146_135.out
  have hms16_1 := NB146_136.out
  have hms16_2 := NB146_137.out
  have hms16_4 := NB146_147.out
  have hs17 : w13.cell? ⟨gb146, 3, none⟩ = some (.int .i64 0) := (blk_cell BK146.out 3).trans rfl
  have hfs17 := blk_frozen BK146.out 3
  have hns17_0 := NB135_146.out
  have hns17_1 := NB136_146.out
  have hns17_2 := NB137_146.out
  have hns17_4 := NB147_146.out
  have hms17_0 := NB146_135.out
  have hms17_1 := NB146_136.out
  have hms17_2 := NB146_137.out
  have hms17_4 := NB146_147.out
  refine skip_ (w1 := ?_) (by rfl) rfl ?_ ?_
  rotate_left
  · go_simp
    rfl
  refine hK.out _ _ ⟨((cell_far (p := ⟨gb146, _, none⟩) NB135_146.out _).trans (((cell_far (p := ⟨gb146, _, none⟩) NB135_146.out _).trans (((cell_far (p := ⟨gb146, _, none⟩) NB135_146.out _).trans (((cell_far (p := ⟨gb146, _, none⟩) NB135_146.out _).trans (hHeld.1)))))))), ((cell_far (p := ⟨gb146, _, none⟩) NB135_146.out _).trans (((cell_far (p := ⟨gb146, _, none⟩) NB135_146.out _).trans (((cell_far (p := ⟨gb146, _, none⟩) NB135_146.out _).trans (((cell_far (p := ⟨gb146, _, none⟩) NB135_146.out _).trans (hHeld.2.1)))))))), ((cell_far (p := ⟨gb146, _, none⟩) NB136_146.out _).trans (((cell_far (p := ⟨gb146, _, none⟩) NB136_146.out _).trans (((cell_far (p := ⟨gb146, _, none⟩) NB136_146.out _).trans (((cell_far (p := ⟨gb146, _, none⟩) NB136_146.out _).trans (hHeld.2.2.1)))))))), ((cell_far (p := ⟨gb146, _, none⟩) NB136_146.out _).trans (((cell_far (p := ⟨gb146, _, none⟩) NB136_146.out _).trans (((cell_far (p := ⟨gb146, _, none⟩) NB136_146.out _).trans (((cell_far (p := ⟨gb146, _, none⟩) NB136_146.out _).trans (hHeld.2.2.2))))))))⟩ (fun hHeld => ?_)
  clear hK K
  refine one_ (i := 7) (N := none) #[true, true, true, true, true, true, true, true] rfl rfl (one_of HT_.out (by kernel_rfl)) (by decide) (fun K hK => ?_)
  have hs18 : w13.cell? ⟨gb147, 0, none⟩ = some (.int .i64 0) := (blk_cell BK147.out 0).trans rfl
  have hfs18 := blk_frozen BK147.out 0
  have hns18_0 := NB135_147.out
  have hns18_1 := NB136_147.out
  have hns18_2 := NB137_147.out
  have hns18_3 := NB146_147.out
  have hms18_0 := NB147_135.out
  have hms18_1 := NB147_136.out
  have hms18_2 := NB147_137.out
  have hms18_3 := NB147_146.out
  have hs19 : w13.cell? ⟨gb147, 1, none⟩ = some (.int .i64 0) := (blk_cell BK147.out 1).trans rfl
  have hfs19 := blk_frozen BK147.out 1
  have hns19_0 := NB135_147.out
  have hns19_1 := NB136_147.out
  have hns19_2 := NB137_147.out
  have hns19_3 := NB146_147.out
  have hms19_0 := NB147_135.out
  have hms19_1 := NB147_136.out
  have hms19_2 := NB147_137.out
  have hms19_3 := NB147_146.out
  have hs20 : w13.cell? ⟨gb147, 2, none⟩ = some (.int .i64 0) := (blk_cell BK147.out 2).trans rfl
  have hfs20 := blk_frozen BK147.out 2
  have hns20_0 := NB135_147.out
  have hns20_1 := NB136_147.out
  have hns20_2 := NB137_147.out
  have hns20_3 := NB146_147.out
  have hms20_0 := NB147_135.out
  have hms20_1 := NB147_136.out
  have hms20_2 := NB147_137.out
  have hms20_3 := NB147_146.out
  have hs21 : w13.cell? ⟨gb147, 3, none⟩ = some (.int .i64 0) := (blk_cell BK147.out 3).trans rfl
  have hfs21 := blk_frozen BK147.out 3
  have hns21_0 := NB135_147.out
  have hns21_1 := NB136_147.out
  have hns21_2 := NB137_147.out
  have hns21_3 := NB146_147.out
  have hms21_0 := NB147_135.out
  have hms21_1 := NB147_136.out
  have hms21_2 := NB147_137.out
  have hms21_3 := NB147_146.out
  refine skip_ (w1 := ?_) (by rfl) rfl ?_ ?_
  rotate_left
  · go_simp
    rfl
  refine hK.out _ _ ⟨((cell_far (p := ⟨gb147, _, none⟩) NB135_147.out _).trans (((cell_far (p := ⟨gb147, _, none⟩) NB135_147.out _).trans (((cell_far (p := ⟨gb147, _, none⟩) NB135_147.out _).trans (((cell_far (p := ⟨gb147, _, none⟩) NB135_147.out _).trans (hHeld.1)))))))), ((cell_far (p := ⟨gb147, _, none⟩) NB135_147.out _).trans (((cell_far (p := ⟨gb147, _, none⟩) NB135_147.out _).trans (((cell_far (p := ⟨gb147, _, none⟩) NB135_147.out _).trans (((cell_far (p := ⟨gb147, _, none⟩) NB135_147.out _).trans (hHeld.2.1)))))))), ((cell_far (p := ⟨gb147, _, none⟩) NB136_147.out _).trans (((cell_far (p := ⟨gb147, _, none⟩) NB136_147.out _).trans (((cell_far (p := ⟨gb147, _, none⟩) NB136_147.out _).trans (((cell_far (p := ⟨gb147, _, none⟩) NB136_147.out _).trans (hHeld.2.2.1)))))))), ((cell_far (p := ⟨gb147, _, none⟩) NB136_147.out _).trans (((cell_far (p := ⟨gb147, _, none⟩) NB136_147.out _).trans (((cell_far (p := ⟨gb147, _, none⟩) NB136_147.out _).trans (((cell_far (p := ⟨gb147, _, none⟩) NB136_147.out _).trans (hHeld.2.2.2))))))))⟩ (fun hHeld => ?_)
  clear hK K
  refine done_ (done_of HT_.out (by kernel_rfl)) ?_
  try go_wp2
  go_loopg [8] k (fun kq v8 w' => ∃ (x8_1 : Int) (x147000_1 : Int) (x147001_1 : Int) (x147002_1 : Int) (x147003_1 : Int), v8 = .int .i64 x8_1 ∧ Aside0 (corollaryref02_Add.l0 kq x8_1 x147000_1 x147001_1 x147002_1 x147003_1 t142 t143 t144 t145 = some (r1, r2, r3)) ∧ Aside0 (kq ≤ k) ∧ Aside0 (w'.heap[gb135]? = some (.cells #[.int .i64 a0_0, .int .u64 a0_1] 26 (0, 0))) ∧ Aside0 (w'.heap[gb136]? = some (.cells #[.int .i64 a1_0, .int .u64 a1_1] 26 (0, 0))) ∧ Aside0 (w'.heap[gb137]? = some (.cells #[.int .i64 0, .int .u64 0] 26 (0, 0))) ∧ Aside0 (w'.heap[gb146]? = some (.cells #[.int .i64 x147000_1, .int .i64 x147001_1, .int .i64 x147002_1, .int .i64 x147003_1] 46 (0, 0))) ∧ Aside0 (w'.heap[gb147]? = some (.cells #[.int .i64 t142, .int .i64 t143, .int .i64 t144, .int .i64 t145] 46 (0, 0))) ∧ Aside0 (Below w.heap.size w w'))
  case atStart => exact ⟨(0), (t138), (t139), (t140), (t141), (by first | rfl | (simp; done) | (simp [*]; done)), H', ⟨Nat.le_refl _⟩, ⟨by (with_reducible repeat first | apply bN_ | apply bD_ | apply bA_); refine blk_far ?_ NB135_147.out _; (with_reducible repeat first | apply bN_ | apply bD_ | apply bA_); refine blk_far ?_ NB135_147.out _; (with_reducible repeat first | apply bN_ | apply bD_ | apply bA_); refine blk_far ?_ NB135_147.out _; (with_reducible repeat first | apply bN_ | apply bD_ | apply bA_); refine blk_far ?_ NB135_147.out _; (with_reducible repeat first | apply bN_ | apply bD_ | apply bA_); refine blk_far ?_ NB135_146.out _; (with_reducible repeat first | apply bN_ | apply bD_ | apply bA_); refine blk_far ?_ NB135_146.out _; (with_reducible repeat first | apply bN_ | apply bD_ | apply bA_); refine blk_far ?_ NB135_146.out _; (with_reducible repeat first | apply bN_ | apply bD_ | apply bA_); refine blk_far ?_ NB135_146.out _; (with_reducible repeat first | apply bN_ | apply bD_ | apply bA_); exact BK135.out⟩, ⟨by (with_reducible repeat first | apply bN_ | apply bD_ | apply bA_); refine blk_far ?_ NB136_147.out _; (with_reducible repeat first | apply bN_ | apply bD_ | apply bA_); refine blk_far ?_ NB136_147.out _; (with_reducible repeat first | apply bN_ | apply bD_ | apply bA_); refine blk_far ?_ NB136_147.out _; (with_reducible repeat first | apply bN_ | apply bD_ | apply bA_); refine blk_far ?_ NB136_147.out _; (with_reducible repeat first | apply bN_ | apply bD_ | apply bA_); refine blk_far ?_ NB136_146.out _; (with_reducible repeat first | apply bN_ | apply bD_ | apply bA_); refine blk_far ?_ NB136_146.out _; (with_reducible repeat first | apply bN_ | apply bD_ | apply bA_); refine blk_far ?_ NB136_146.out _; (with_reducible repeat first | apply bN_ | apply bD_ | apply bA_); refine blk_far ?_ NB136_146.out _; (with_reducible repeat first | apply bN_ | apply bD_ | apply bA_); exact BK136.out⟩, ⟨by (with_reducible repeat first | apply bN_ | apply bD_ | apply bA_); refine blk_far ?_ NB137_147.out _; (with_reducible repeat first | apply bN_ | apply bD_ | apply bA_); refine blk_far ?_ NB137_147.out _; (with_reducible repeat first | apply bN_ | apply bD_ | apply bA_); refine blk_far ?_ NB137_147.out _; (with_reducible repeat first | apply bN_ | apply bD_ | apply bA_); refine blk_far ?_ NB137_147.out _; (with_reducible repeat first | apply bN_ | apply bD_ | apply bA_); refine blk_far ?_ NB137_146.out _; (with_reducible repeat first | apply bN_ | apply bD_ | apply bA_); refine blk_far ?_ NB137_146.out _; (with_reducible repeat first | apply bN_ | apply bD_ | apply bA_); refine blk_far ?_ NB137_146.out _; (with_reducible repeat first | apply bN_ | apply bD_ | apply bA_); refine blk_far ?_ NB137_146.out _; (with_reducible repeat first | apply bN_ | apply bD_ | apply bA_); exact BK137.out⟩, ⟨by (with_reducible repeat first | apply bN_ | apply bD_ | apply bA_); refine blk_far ?_ NB146_147.out _; (with_reducible repeat first | apply bN_ | apply bD_ | apply bA_); refine blk_far ?_ NB146_147.out _; (with_reducible repeat first | apply bN_ | apply bD_ | apply bA_); refine blk_far ?_ NB146_147.out _; (with_reducible repeat first | apply bN_ | apply bD_ | apply bA_); refine blk_far ?_ NB146_147.out _; (with_reducible repeat first | apply bN_ | apply bD_ | apply bA_); refine blk_put (cs := #[.int .i64 t138, .int .i64 t139, .int .i64 t140, .int .i64 0]) ?_ 3 _ rfl; (with_reducible repeat first | apply bN_ | apply bD_ | apply bA_); refine blk_put (cs := #[.int .i64 t138, .int .i64 t139, .int .i64 0, .int .i64 0]) ?_ 2 _ rfl; (with_reducible repeat first | apply bN_ | apply bD_ | apply bA_); refine blk_put (cs := #[.int .i64 t138, .int .i64 0, .int .i64 0, .int .i64 0]) ?_ 1 _ rfl; (with_reducible repeat first | apply bN_ | apply bD_ | apply bA_); refine blk_put (cs := #[.int .i64 0, .int .i64 0, .int .i64 0, .int .i64 0]) ?_ 0 _ rfl; (with_reducible repeat first | apply bN_ | apply bD_ | apply bA_); exact BK146.out⟩, ⟨by (with_reducible repeat first | apply bN_ | apply bD_ | apply bA_); refine blk_put (cs := #[.int .i64 t142, .int .i64 t143, .int .i64 t144, .int .i64 0]) ?_ 3 _ rfl; (with_reducible repeat first | apply bN_ | apply bD_ | apply bA_); refine blk_put (cs := #[.int .i64 t142, .int .i64 t143, .int .i64 0, .int .i64 0]) ?_ 2 _ rfl; (with_reducible repeat first | apply bN_ | apply bD_ | apply bA_); refine blk_put (cs := #[.int .i64 t142, .int .i64 0, .int .i64 0, .int .i64 0]) ?_ 1 _ rfl; (with_reducible repeat first | apply bN_ | apply bD_ | apply bA_); refine blk_put (cs := #[.int .i64 0, .int .i64 0, .int .i64 0, .int .i64 0]) ?_ 0 _ rfl; (with_reducible repeat first | apply bN_ | apply bD_ | apply bA_); refine blk_far ?_ NB147_146.out _; (with_reducible repeat first | apply bN_ | apply bD_ | apply bA_); refine blk_far ?_ NB147_146.out _; (with_reducible repeat first | apply bN_ | apply bD_ | apply bA_); refine blk_far ?_ NB147_146.out _; (with_reducible repeat first | apply bN_ | apply bD_ | apply bA_); refine blk_far ?_ NB147_146.out _; (with_reducible repeat first | apply bN_ | apply bD_ | apply bA_); exact BK147.out⟩, ⟨by repeat (first | (with_reducible first | exact HB.out | apply below_alloc | apply pw_below_drewN | apply below_drew1 | refine below_set ?_ GE135.out | refine below_set ?_ GE136.out | refine below_set ?_ GE137.out | refine below_set ?_ GE146.out | refine below_set ?_ GE147.out) | exact HB.out)⟩⟩
  case round =>
    clear H'
    try clear c2
    try clear p2
    obtain ⟨x8_1, x147000_1, x147001_1, x147002_1, x147003_1, rfl, HA, HK1, BK135, BK136, BK137, BK146, BK147, HB⟩ := hrel
    cases gk with
    | zero => exact absurd HA.out (by simp [corollaryref02_Add.l0])
    | succ k1 =>
      have H := HA.out
      clear HA
      simp only [corollaryref02_Add.l0] at H
      by_cases c22 : x8_1 < 4
      · rw [if_pos c22] at H
        have c22b0 : decide (x8_1 < 4) = true := decide_eq_true c22
        clear c22
        by_cases c23 : x8_1 = 0
        · rw [if_pos c23] at H
          subst c23
          have wlc23_0 : wrap64 (-1) = (-1) := by (unfold wrap64; omega)
          have wlc23_1 : wrap64 0 = 0 := by (unfold wrap64; omega)
          have wlc23_2 : wrap64 1 = 1 := by (unfold wrap64; omega)
          have wlc23_3 : wrap64 2 = 2 := by (unfold wrap64; omega)
          have H' := Aside0.mk H
          clear H
          try go_wp2
          have n0_ := Aside0.mk (blk_drew BK135.out)
          have n1_ := Aside0.mk (blk_drew BK136.out)
          have n2_ := Aside0.mk (blk_drew BK137.out)
          have n3_ := Aside0.mk (blk_drew BK146.out)
          have n4_ := Aside0.mk (blk_drew BK147.out)
          have n5_ := Aside0.mk (below_drew1 HB.out)
          clear BK135
          clear BK136
          clear BK137
          clear BK146
          clear BK147
          clear HB
          have BK135 := n0_
          have BK136 := n1_
          have BK137 := n2_
          have BK146 := n3_
          have BK147 := n4_
          have HB := n5_
          clear n0_ n1_ n2_ n3_ n4_ n5_
          refine start_ (n := 9) (S := fun w' => w'.cell? ⟨gb146, 0, none⟩ = some (.int .i64 x147000_1) ∧ w'.cell? ⟨gb146, 1, none⟩ = some (.int .i64 x147001_1) ∧ w'.cell? ⟨gb146, 2, none⟩ = some (.int .i64 x147002_1) ∧ w'.cell? ⟨gb146, 3, none⟩ = some (.int .i64 x147003_1) ∧ w'.cell? ⟨gb147, 0, none⟩ = some (.int .i64 t142) ∧ w'.cell? ⟨gb147, 1, none⟩ = some (.int .i64 t143) ∧ w'.cell? ⟨gb147, 2, none⟩ = some (.int .i64 t144) ∧ w'.cell? ⟨gb147, 3, none⟩ = some (.int .i64 t145)) (ds := [8]) #[false, false, false, false, false, false, false, false, false] (by kernel_rfl) rfl rfl ⟨(blk_cell BK146.out 0).trans rfl, (blk_cell BK146.out 1).trans rfl, (blk_cell BK146.out 2).trans rfl, (blk_cell BK146.out 3).trans rfl, (blk_cell BK147.out 0).trans rfl, (blk_cell BK147.out 1).trans rfl, (blk_cell BK147.out 2).trans rfl, (blk_cell BK147.out 3).trans rfl⟩ (fun hHeld => ?_); refine with_tabW corollaryref02_Add.tab5 corollaryref02_Add.bits5 (fun HT_ HW_ => ?_)
          generalize wr.drew = w24 at BK135 BK136 BK137 BK146 BK147 HB hHeld ⊢
          refine pure_ (i := 0) (N := some 17) (v := ?_) (a' := ?_) #[true, false, false, false, false, false, false, false, false] rfl rfl (any_of HT_.out (by kernel_rfl)) (fun _ _ _ h => h) (Or.inl ⟨by rfl, ?_⟩) ?_ ?_
          rotate_left
          · intro w'
            go_simp
            with_reducible rfl
          rotate_left
          · simp only [Act.put, List.setIfInBounds_toArray, List.set_cons_zero, List.set_cons_succ, i64_w, i32_w]
            rfl
          refine pure_ (i := 1) (N := some 18) (v := ?_) (a' := ?_) #[true, true, false, false, false, false, false, false, false] rfl rfl (any_of HT_.out (by kernel_rfl)) (fun _ _ _ h => h) (Or.inl ⟨by rfl, ?_⟩) ?_ ?_
          rotate_left
          · intro w'
            go_simp
            with_reducible rfl
          rotate_left
          · simp only [Act.put, List.setIfInBounds_toArray, List.set_cons_zero, List.set_cons_succ, i64_w, i32_w]
            rfl
          refine pure_ (i := 3) (N := some 20) (v := ?_) (a' := ?_) #[true, true, false, true, false, false, false, false, false] rfl rfl (any_of HT_.out (by kernel_rfl)) (fun _ _ _ h => h) (Or.inl ⟨by rfl, ?_⟩) ?_ ?_
          rotate_left
          · intro w'
            go_simp
            with_reducible rfl
          rotate_left
          · simp only [Act.put, List.setIfInBounds_toArray, List.set_cons_zero, List.set_cons_succ, i64_w, i32_w]
            rfl
          refine pure_ (i := 4) (N := some 21) (v := ?_) (a' := ?_) #[true, true, false, true, true, false, false, false, false] rfl rfl (any_of HT_.out (by kernel_rfl)) (fun _ _ _ h => h) (Or.inl ⟨by rfl, ?_⟩) ?_ ?_
          rotate_left
          · intro w'
            go_simp
            with_reducible rfl
          rotate_left
          · simp only [Act.put, List.setIfInBounds_toArray, List.set_cons_zero, List.set_cons_succ, i64_w, i32_w]
            rfl
          refine take_ (i := 2) (N := some 19) (v := ?_) (a' := ?_) #[true, true, true, true, true, false, false, false, false] rfl rfl (take_ofW HT_.out HW_.out (by kernel_rfl)) (fun _ _ _ h => h) (Or.inl ⟨by rfl, ?_⟩) hHeld ?_ ?_
          rotate_left
          · rintro w' ⟨s0, s1, s2, s3, s4, s5, s6, s7⟩
            go_simp
            with_reducible rfl
          rotate_left
          · simp only [Act.put, List.setIfInBounds_toArray, List.set_cons_zero, List.set_cons_succ, i64_w, i32_w]
            rfl
          refine take_ (i := 5) (N := some 22) (v := ?_) (a' := ?_) #[true, true, true, true, true, true, false, false, false] rfl rfl (take_ofW HT_.out HW_.out (by kernel_rfl)) (fun _ _ _ h => h) (Or.inl ⟨by rfl, ?_⟩) hHeld ?_ ?_
          rotate_left
          · rintro w' ⟨s0, s1, s2, s3, s4, s5, s6, s7⟩
            go_simp
            with_reducible rfl
          rotate_left
          · simp only [Act.put, List.setIfInBounds_toArray, List.set_cons_zero, List.set_cons_succ, i64_w, i32_w]
            rfl
          refine pure_ (i := 6) (N := some 23) (v := ?_) (a' := ?_) #[true, true, true, true, true, true, true, false, false] rfl rfl (any_of HT_.out (by kernel_rfl)) (fun _ _ _ h => h) (Or.inl ⟨by rfl, ?_⟩) ?_ ?_
          rotate_left
          · intro w'
            go_simp
            with_reducible rfl
          rotate_left
          · simp only [Act.put, List.setIfInBounds_toArray, List.set_cons_zero, List.set_cons_succ, i64_w, i32_w]
            rfl
          refine pure_ (i := 7) (N := some 24) (v := ?_) (a' := ?_) #[true, true, true, true, true, true, true, true, false] rfl rfl (any_of HT_.out (by kernel_rfl)) (fun _ _ _ h => h) (Or.inl ⟨by rfl, ?_⟩) ?_ ?_
          rotate_left
          · intro w'
            go_simp
            with_reducible rfl
          rotate_left
          · simp only [Act.put, List.setIfInBounds_toArray, List.set_cons_zero, List.set_cons_succ, i64_w, i32_w]
            rfl
          refine last_ (i := 8) (N := none) #[true, true, true, true, true, true, true, true, true] rfl rfl (one_of HT_.out (by kernel_rfl)) (by decide) (fun K hK => ?_)
          have hs25 : w24.cell? ⟨gb146, 0, none⟩ = some (.int .i64 x147000_1) := (blk_cell BK146.out 0).trans rfl
          have hfs25 := blk_frozen BK146.out 0
          have hns25_0 := NB135_146.out
          have hns25_1 := NB136_146.out
          have hns25_2 := NB137_146.out
          have hns25_4 := NB147_146.out
          have hms25_0 := NB146_135.out
          have hms25_1 := NB146_136.out
          have hms25_2 := NB146_137.out
          have hms25_4 := NB146_147.out
          refine skip_ (w1 := ?_) (by rfl) rfl ?_ ?_
          rotate_left
          · go_simp
            rfl
          refine hK.out _ _ ?_
          clear hK K
          refine done_ (done_of HT_.out (by kernel_rfl)) ?_
          try go_wp2
          go_roundg k1
          case measure => have := HK1.out; omega
          case rel => exact ⟨(1), (wrap64 (x147000_1 + t142)), (x147001_1), (x147002_1), (x147003_1), (by first | rfl | (simp; done) | (simp [*]; done)), H', ⟨by have := HK1.out; omega⟩, ⟨by (with_reducible repeat first | apply bN_ | apply bD_ | apply bA_); refine blk_far ?_ NB135_146.out _; (with_reducible repeat first | apply bN_ | apply bD_ | apply bA_); exact BK135.out⟩, ⟨by (with_reducible repeat first | apply bN_ | apply bD_ | apply bA_); refine blk_far ?_ NB136_146.out _; (with_reducible repeat first | apply bN_ | apply bD_ | apply bA_); exact BK136.out⟩, ⟨by (with_reducible repeat first | apply bN_ | apply bD_ | apply bA_); refine blk_far ?_ NB137_146.out _; (with_reducible repeat first | apply bN_ | apply bD_ | apply bA_); exact BK137.out⟩, ⟨by (with_reducible repeat first | apply bN_ | apply bD_ | apply bA_); refine blk_put (cs := #[.int .i64 x147000_1, .int .i64 x147001_1, .int .i64 x147002_1, .int .i64 x147003_1]) ?_ 0 _ rfl; (with_reducible repeat first | apply bN_ | apply bD_ | apply bA_); exact BK146.out⟩, ⟨by (with_reducible repeat first | apply bN_ | apply bD_ | apply bA_); refine blk_far ?_ NB147_146.out _; (with_reducible repeat first | apply bN_ | apply bD_ | apply bA_); exact BK147.out⟩, ⟨by repeat (first | (with_reducible first | exact HB.out | apply below_alloc | apply pw_below_drewN | apply below_drew1 | refine below_set ?_ GE135.out | refine below_set ?_ GE136.out | refine below_set ?_ GE137.out | refine below_set ?_ GE146.out | refine below_set ?_ GE147.out) | exact HB.out)⟩⟩
        · rw [if_neg c23] at H
          clear c23
          by_cases c26 : x8_1 = 1
          · rw [if_pos c26] at H
            subst c26
            have wlc26_0 : wrap64 (-1) = (-1) := by (unfold wrap64; omega)
            have wlc26_1 : wrap64 0 = 0 := by (unfold wrap64; omega)
            have wlc26_2 : wrap64 1 = 1 := by (unfold wrap64; omega)
            have wlc26_3 : wrap64 2 = 2 := by (unfold wrap64; omega)
            have wlc26_4 : wrap64 3 = 3 := by (unfold wrap64; omega)
            have H' := Aside0.mk H
            clear H
            try go_wp2
            have n0_ := Aside0.mk (blk_drew BK135.out)
            have n1_ := Aside0.mk (blk_drew BK136.out)
            have n2_ := Aside0.mk (blk_drew BK137.out)
            have n3_ := Aside0.mk (blk_drew BK146.out)
            have n4_ := Aside0.mk (blk_drew BK147.out)
            have n5_ := Aside0.mk (below_drew1 HB.out)
            clear BK135
            clear BK136
            clear BK137
            clear BK146
            clear BK147
            clear HB
            have BK135 := n0_
            have BK136 := n1_
            have BK137 := n2_
            have BK146 := n3_
            have BK147 := n4_
            have HB := n5_
            clear n0_ n1_ n2_ n3_ n4_ n5_
            refine start_ (n := 9) (S := fun w' => w'.cell? ⟨gb146, 0, none⟩ = some (.int .i64 x147000_1) ∧ w'.cell? ⟨gb146, 1, none⟩ = some (.int .i64 x147001_1) ∧ w'.cell? ⟨gb146, 2, none⟩ = some (.int .i64 x147002_1) ∧ w'.cell? ⟨gb146, 3, none⟩ = some (.int .i64 x147003_1) ∧ w'.cell? ⟨gb147, 0, none⟩ = some (.int .i64 t142) ∧ w'.cell? ⟨gb147, 1, none⟩ = some (.int .i64 t143) ∧ w'.cell? ⟨gb147, 2, none⟩ = some (.int .i64 t144) ∧ w'.cell? ⟨gb147, 3, none⟩ = some (.int .i64 t145)) (ds := [8]) #[false, false, false, false, false, false, false, false, false] (by kernel_rfl) rfl rfl ⟨(blk_cell BK146.out 0).trans rfl, (blk_cell BK146.out 1).trans rfl, (blk_cell BK146.out 2).trans rfl, (blk_cell BK146.out 3).trans rfl, (blk_cell BK147.out 0).trans rfl, (blk_cell BK147.out 1).trans rfl, (blk_cell BK147.out 2).trans rfl, (blk_cell BK147.out 3).trans rfl⟩ (fun hHeld => ?_); refine with_tabW corollaryref02_Add.tab5 corollaryref02_Add.bits5 (fun HT_ HW_ => ?_)
            generalize wr.drew = w27 at BK135 BK136 BK137 BK146 BK147 HB hHeld ⊢
            refine pure_ (i := 0) (N := some 17) (v := ?_) (a' := ?_) #[true, false, false, false, false, false, false, false, false] rfl rfl (any_of HT_.out (by kernel_rfl)) (fun _ _ _ h => h) (Or.inl ⟨by rfl, ?_⟩) ?_ ?_
            rotate_left
            · intro w'
              go_simp
              with_reducible rfl
            rotate_left
            · simp only [Act.put, List.setIfInBounds_toArray, List.set_cons_zero, List.set_cons_succ, i64_w, i32_w]
              rfl
            refine pure_ (i := 1) (N := some 18) (v := ?_) (a' := ?_) #[true, true, false, false, false, false, false, false, false] rfl rfl (any_of HT_.out (by kernel_rfl)) (fun _ _ _ h => h) (Or.inl ⟨by rfl, ?_⟩) ?_ ?_
            rotate_left
            · intro w'
              go_simp
              with_reducible rfl
            rotate_left
            · simp only [Act.put, List.setIfInBounds_toArray, List.set_cons_zero, List.set_cons_succ, i64_w, i32_w]
              rfl
            refine pure_ (i := 3) (N := some 20) (v := ?_) (a' := ?_) #[true, true, false, true, false, false, false, false, false] rfl rfl (any_of HT_.out (by kernel_rfl)) (fun _ _ _ h => h) (Or.inl ⟨by rfl, ?_⟩) ?_ ?_
            rotate_left
            · intro w'
              go_simp
              with_reducible rfl
            rotate_left
            · simp only [Act.put, List.setIfInBounds_toArray, List.set_cons_zero, List.set_cons_succ, i64_w, i32_w]
              rfl
            refine pure_ (i := 4) (N := some 21) (v := ?_) (a' := ?_) #[true, true, false, true, true, false, false, false, false] rfl rfl (any_of HT_.out (by kernel_rfl)) (fun _ _ _ h => h) (Or.inl ⟨by rfl, ?_⟩) ?_ ?_
            rotate_left
            · intro w'
              go_simp
              with_reducible rfl
            rotate_left
            · simp only [Act.put, List.setIfInBounds_toArray, List.set_cons_zero, List.set_cons_succ, i64_w, i32_w]
              rfl
            refine take_ (i := 2) (N := some 19) (v := ?_) (a' := ?_) #[true, true, true, true, true, false, false, false, false] rfl rfl (take_ofW HT_.out HW_.out (by kernel_rfl)) (fun _ _ _ h => h) (Or.inl ⟨by rfl, ?_⟩) hHeld ?_ ?_
            rotate_left
            · rintro w' ⟨s0, s1, s2, s3, s4, s5, s6, s7⟩
              go_simp
              with_reducible rfl
            rotate_left
            · simp only [Act.put, List.setIfInBounds_toArray, List.set_cons_zero, List.set_cons_succ, i64_w, i32_w]
              rfl
            refine take_ (i := 5) (N := some 22) (v := ?_) (a' := ?_) #[true, true, true, true, true, true, false, false, false] rfl rfl (take_ofW HT_.out HW_.out (by kernel_rfl)) (fun _ _ _ h => h) (Or.inl ⟨by rfl, ?_⟩) hHeld ?_ ?_
            rotate_left
            · rintro w' ⟨s0, s1, s2, s3, s4, s5, s6, s7⟩
              go_simp
              with_reducible rfl
            rotate_left
            · simp only [Act.put, List.setIfInBounds_toArray, List.set_cons_zero, List.set_cons_succ, i64_w, i32_w]
              rfl
            refine pure_ (i := 6) (N := some 23) (v := ?_) (a' := ?_) #[true, true, true, true, true, true, true, false, false] rfl rfl (any_of HT_.out (by kernel_rfl)) (fun _ _ _ h => h) (Or.inl ⟨by rfl, ?_⟩) ?_ ?_
            rotate_left
            · intro w'
              go_simp
              with_reducible rfl
            rotate_left
            · simp only [Act.put, List.setIfInBounds_toArray, List.set_cons_zero, List.set_cons_succ, i64_w, i32_w]
              rfl
            refine pure_ (i := 7) (N := some 24) (v := ?_) (a' := ?_) #[true, true, true, true, true, true, true, true, false] rfl rfl (any_of HT_.out (by kernel_rfl)) (fun _ _ _ h => h) (Or.inl ⟨by rfl, ?_⟩) ?_ ?_
            rotate_left
            · intro w'
              go_simp
              with_reducible rfl
            rotate_left
            · simp only [Act.put, List.setIfInBounds_toArray, List.set_cons_zero, List.set_cons_succ, i64_w, i32_w]
              rfl
            refine last_ (i := 8) (N := none) #[true, true, true, true, true, true, true, true, true] rfl rfl (one_of HT_.out (by kernel_rfl)) (by decide) (fun K hK => ?_)
            have hs28 : w27.cell? ⟨gb146, 1, none⟩ = some (.int .i64 x147001_1) := (blk_cell BK146.out 1).trans rfl
            have hfs28 := blk_frozen BK146.out 1
            have hns28_0 := NB135_146.out
            have hns28_1 := NB136_146.out
            have hns28_2 := NB137_146.out
            have hns28_4 := NB147_146.out
            have hms28_0 := NB146_135.out
            have hms28_1 := NB146_136.out
            have hms28_2 := NB146_137.out
            have hms28_4 := NB146_147.out
            refine skip_ (w1 := ?_) (by rfl) rfl ?_ ?_
            rotate_left
            · go_simp
              rfl
            refine hK.out _ _ ?_
            clear hK K
            refine done_ (done_of HT_.out (by kernel_rfl)) ?_
            try go_wp2
            go_roundg k1
            case measure => have := HK1.out; omega
            case rel => exact ⟨(2), (x147000_1), (wrap64 (x147001_1 + t143)), (x147002_1), (x147003_1), (by first | rfl | (simp; done) | (simp [*]; done)), H', ⟨by have := HK1.out; omega⟩, ⟨by (with_reducible repeat first | apply bN_ | apply bD_ | apply bA_); refine blk_far ?_ NB135_146.out _; (with_reducible repeat first | apply bN_ | apply bD_ | apply bA_); exact BK135.out⟩, ⟨by (with_reducible repeat first | apply bN_ | apply bD_ | apply bA_); refine blk_far ?_ NB136_146.out _; (with_reducible repeat first | apply bN_ | apply bD_ | apply bA_); exact BK136.out⟩, ⟨by (with_reducible repeat first | apply bN_ | apply bD_ | apply bA_); refine blk_far ?_ NB137_146.out _; (with_reducible repeat first | apply bN_ | apply bD_ | apply bA_); exact BK137.out⟩, ⟨by (with_reducible repeat first | apply bN_ | apply bD_ | apply bA_); refine blk_put (cs := #[.int .i64 x147000_1, .int .i64 x147001_1, .int .i64 x147002_1, .int .i64 x147003_1]) ?_ 1 _ rfl; (with_reducible repeat first | apply bN_ | apply bD_ | apply bA_); exact BK146.out⟩, ⟨by (with_reducible repeat first | apply bN_ | apply bD_ | apply bA_); refine blk_far ?_ NB147_146.out _; (with_reducible repeat first | apply bN_ | apply bD_ | apply bA_); exact BK147.out⟩, ⟨by repeat (first | (with_reducible first | exact HB.out | apply below_alloc | apply pw_below_drewN | apply below_drew1 | refine below_set ?_ GE135.out | refine below_set ?_ GE136.out | refine below_set ?_ GE137.out | refine below_set ?_ GE146.out | refine below_set ?_ GE147.out) | exact HB.out)⟩⟩
          · rw [if_neg c26] at H
            clear c26
            by_cases c29 : x8_1 = 2
            · rw [if_pos c29] at H
              subst c29
              have wlc29_0 : wrap64 (-1) = (-1) := by (unfold wrap64; omega)
              have wlc29_1 : wrap64 0 = 0 := by (unfold wrap64; omega)
              have wlc29_2 : wrap64 1 = 1 := by (unfold wrap64; omega)
              have wlc29_3 : wrap64 2 = 2 := by (unfold wrap64; omega)
              have wlc29_4 : wrap64 3 = 3 := by (unfold wrap64; omega)
              have wlc29_5 : wrap64 4 = 4 := by (unfold wrap64; omega)
              have H' := Aside0.mk H
              clear H
              try go_wp2
              have n0_ := Aside0.mk (blk_drew BK135.out)
              have n1_ := Aside0.mk (blk_drew BK136.out)
              have n2_ := Aside0.mk (blk_drew BK137.out)
              have n3_ := Aside0.mk (blk_drew BK146.out)
              have n4_ := Aside0.mk (blk_drew BK147.out)
              have n5_ := Aside0.mk (below_drew1 HB.out)
              clear BK135
              clear BK136
              clear BK137
              clear BK146
              clear BK147
              clear HB
              have BK135 := n0_
              have BK136 := n1_
              have BK137 := n2_
              have BK146 := n3_
              have BK147 := n4_
              have HB := n5_
              clear n0_ n1_ n2_ n3_ n4_ n5_
              refine start_ (n := 9) (S := fun w' => w'.cell? ⟨gb146, 0, none⟩ = some (.int .i64 x147000_1) ∧ w'.cell? ⟨gb146, 1, none⟩ = some (.int .i64 x147001_1) ∧ w'.cell? ⟨gb146, 2, none⟩ = some (.int .i64 x147002_1) ∧ w'.cell? ⟨gb146, 3, none⟩ = some (.int .i64 x147003_1) ∧ w'.cell? ⟨gb147, 0, none⟩ = some (.int .i64 t142) ∧ w'.cell? ⟨gb147, 1, none⟩ = some (.int .i64 t143) ∧ w'.cell? ⟨gb147, 2, none⟩ = some (.int .i64 t144) ∧ w'.cell? ⟨gb147, 3, none⟩ = some (.int .i64 t145)) (ds := [8]) #[false, false, false, false, false, false, false, false, false] (by kernel_rfl) rfl rfl ⟨(blk_cell BK146.out 0).trans rfl, (blk_cell BK146.out 1).trans rfl, (blk_cell BK146.out 2).trans rfl, (blk_cell BK146.out 3).trans rfl, (blk_cell BK147.out 0).trans rfl, (blk_cell BK147.out 1).trans rfl, (blk_cell BK147.out 2).trans rfl, (blk_cell BK147.out 3).trans rfl⟩ (fun hHeld => ?_); refine with_tabW corollaryref02_Add.tab5 corollaryref02_Add.bits5 (fun HT_ HW_ => ?_)
              generalize wr.drew = w30 at BK135 BK136 BK137 BK146 BK147 HB hHeld ⊢
              refine pure_ (i := 0) (N := some 17) (v := ?_) (a' := ?_) #[true, false, false, false, false, false, false, false, false] rfl rfl (any_of HT_.out (by kernel_rfl)) (fun _ _ _ h => h) (Or.inl ⟨by rfl, ?_⟩) ?_ ?_
              rotate_left
              · intro w'
                go_simp
                with_reducible rfl
              rotate_left
              · simp only [Act.put, List.setIfInBounds_toArray, List.set_cons_zero, List.set_cons_succ, i64_w, i32_w]
                rfl
              refine pure_ (i := 1) (N := some 18) (v := ?_) (a' := ?_) #[true, true, false, false, false, false, false, false, false] rfl rfl (any_of HT_.out (by kernel_rfl)) (fun _ _ _ h => h) (Or.inl ⟨by rfl, ?_⟩) ?_ ?_
              rotate_left
              · intro w'
                go_simp
                with_reducible rfl
              rotate_left
              · simp only [Act.put, List.setIfInBounds_toArray, List.set_cons_zero, List.set_cons_succ, i64_w, i32_w]
                rfl
              refine pure_ (i := 3) (N := some 20) (v := ?_) (a' := ?_) #[true, true, false, true, false, false, false, false, false] rfl rfl (any_of HT_.out (by kernel_rfl)) (fun _ _ _ h => h) (Or.inl ⟨by rfl, ?_⟩) ?_ ?_
              rotate_left
              · intro w'
                go_simp
                with_reducible rfl
              rotate_left
              · simp only [Act.put, List.setIfInBounds_toArray, List.set_cons_zero, List.set_cons_succ, i64_w, i32_w]
                rfl
              refine pure_ (i := 4) (N := some 21) (v := ?_) (a' := ?_) #[true, true, false, true, true, false, false, false, false] rfl rfl (any_of HT_.out (by kernel_rfl)) (fun _ _ _ h => h) (Or.inl ⟨by rfl, ?_⟩) ?_ ?_
              rotate_left
              · intro w'
                go_simp
                with_reducible rfl
              rotate_left
              · simp only [Act.put, List.setIfInBounds_toArray, List.set_cons_zero, List.set_cons_succ, i64_w, i32_w]
                rfl
              refine take_ (i := 2) (N := some 19) (v := ?_) (a' := ?_) #[true, true, true, true, true, false, false, false, false] rfl rfl (take_ofW HT_.out HW_.out (by kernel_rfl)) (fun _ _ _ h => h) (Or.inl ⟨by rfl, ?_⟩) hHeld ?_ ?_
              rotate_left
              · rintro w' ⟨s0, s1, s2, s3, s4, s5, s6, s7⟩
                go_simp
                with_reducible rfl
              rotate_left
              · simp only [Act.put, List.setIfInBounds_toArray, List.set_cons_zero, List.set_cons_succ, i64_w, i32_w]
                rfl
              refine take_ (i := 5) (N := some 22) (v := ?_) (a' := ?_) #[true, true, true, true, true, true, false, false, false] rfl rfl (take_ofW HT_.out HW_.out (by kernel_rfl)) (fun _ _ _ h => h) (Or.inl ⟨by rfl, ?_⟩) hHeld ?_ ?_
              rotate_left
              · rintro w' ⟨s0, s1, s2, s3, s4, s5, s6, s7⟩
                go_simp
                with_reducible rfl
              rotate_left
              · simp only [Act.put, List.setIfInBounds_toArray, List.set_cons_zero, List.set_cons_succ, i64_w, i32_w]
                rfl
              refine pure_ (i := 6) (N := some 23) (v := ?_) (a' := ?_) #[true, true, true, true, true, true, true, false, false] rfl rfl (any_of HT_.out (by kernel_rfl)) (fun _ _ _ h => h) (Or.inl ⟨by rfl, ?_⟩) ?_ ?_
              rotate_left
              · intro w'
                go_simp
                with_reducible rfl
              rotate_left
              · simp only [Act.put, List.setIfInBounds_toArray, List.set_cons_zero, List.set_cons_succ, i64_w, i32_w]
                rfl
              refine pure_ (i := 7) (N := some 24) (v := ?_) (a' := ?_) #[true, true, true, true, true, true, true, true, false] rfl rfl (any_of HT_.out (by kernel_rfl)) (fun _ _ _ h => h) (Or.inl ⟨by rfl, ?_⟩) ?_ ?_
              rotate_left
              · intro w'
                go_simp
                with_reducible rfl
              rotate_left
              · simp only [Act.put, List.setIfInBounds_toArray, List.set_cons_zero, List.set_cons_succ, i64_w, i32_w]
                rfl
              refine last_ (i := 8) (N := none) #[true, true, true, true, true, true, true, true, true] rfl rfl (one_of HT_.out (by kernel_rfl)) (by decide) (fun K hK => ?_)
              have hs31 : w30.cell? ⟨gb146, 2, none⟩ = some (.int .i64 x147002_1) := (blk_cell BK146.out 2).trans rfl
              have hfs31 := blk_frozen BK146.out 2
              have hns31_0 := NB135_146.out
              have hns31_1 := NB136_146.out
              have hns31_2 := NB137_146.out
              have hns31_4 := NB147_146.out
              have hms31_0 := NB146_135.out
              have hms31_1 := NB146_136.out
              have hms31_2 := NB146_137.out
              have hms31_4 := NB146_147.out
              refine skip_ (w1 := ?_) (by rfl) rfl ?_ ?_
              rotate_left
              · go_simp
                rfl
              refine hK.out _ _ ?_
              clear hK K
              refine done_ (done_of HT_.out (by kernel_rfl)) ?_
              try go_wp2
              go_roundg k1
              case measure => have := HK1.out; omega
              case rel => exact ⟨(3), (x147000_1), (x147001_1), (wrap64 (x147002_1 + t144)), (x147003_1), (by first | rfl | (simp; done) | (simp [*]; done)), H', ⟨by have := HK1.out; omega⟩, ⟨by (with_reducible repeat first | apply bN_ | apply bD_ | apply bA_); refine blk_far ?_ NB135_146.out _; (with_reducible repeat first | apply bN_ | apply bD_ | apply bA_); exact BK135.out⟩, ⟨by (with_reducible repeat first | apply bN_ | apply bD_ | apply bA_); refine blk_far ?_ NB136_146.out _; (with_reducible repeat first | apply bN_ | apply bD_ | apply bA_); exact BK136.out⟩, ⟨by (with_reducible repeat first | apply bN_ | apply bD_ | apply bA_); refine blk_far ?_ NB137_146.out _; (with_reducible repeat first | apply bN_ | apply bD_ | apply bA_); exact BK137.out⟩, ⟨by (with_reducible repeat first | apply bN_ | apply bD_ | apply bA_); refine blk_put (cs := #[.int .i64 x147000_1, .int .i64 x147001_1, .int .i64 x147002_1, .int .i64 x147003_1]) ?_ 2 _ rfl; (with_reducible repeat first | apply bN_ | apply bD_ | apply bA_); exact BK146.out⟩, ⟨by (with_reducible repeat first | apply bN_ | apply bD_ | apply bA_); refine blk_far ?_ NB147_146.out _; (with_reducible repeat first | apply bN_ | apply bD_ | apply bA_); exact BK147.out⟩, ⟨by repeat (first | (with_reducible first | exact HB.out | apply below_alloc | apply pw_below_drewN | apply below_drew1 | refine below_set ?_ GE135.out | refine below_set ?_ GE136.out | refine below_set ?_ GE137.out | refine below_set ?_ GE146.out | refine below_set ?_ GE147.out) | exact HB.out)⟩⟩
            · rw [if_neg c29] at H
              clear c29
              by_cases c32 : x8_1 = 3
              · rw [if_pos c32] at H
                subst c32
                have wlc32_0 : wrap64 (-1) = (-1) := by (unfold wrap64; omega)
                have wlc32_1 : wrap64 0 = 0 := by (unfold wrap64; omega)
                have wlc32_2 : wrap64 1 = 1 := by (unfold wrap64; omega)
                have wlc32_3 : wrap64 2 = 2 := by (unfold wrap64; omega)
                have wlc32_4 : wrap64 3 = 3 := by (unfold wrap64; omega)
                have wlc32_5 : wrap64 4 = 4 := by (unfold wrap64; omega)
                have wlc32_6 : wrap64 5 = 5 := by (unfold wrap64; omega)
                have H' := Aside0.mk H
                clear H
                try go_wp2
                have n0_ := Aside0.mk (blk_drew BK135.out)
                have n1_ := Aside0.mk (blk_drew BK136.out)
                have n2_ := Aside0.mk (blk_drew BK137.out)
                have n3_ := Aside0.mk (blk_drew BK146.out)
                have n4_ := Aside0.mk (blk_drew BK147.out)
                have n5_ := Aside0.mk (below_drew1 HB.out)
                clear BK135
                clear BK136
                clear BK137
                clear BK146
                clear BK147
                clear HB
                have BK135 := n0_
                have BK136 := n1_
                have BK137 := n2_
                have BK146 := n3_
                have BK147 := n4_
                have HB := n5_
                clear n0_ n1_ n2_ n3_ n4_ n5_
                refine start_ (n := 9) (S := fun w' => w'.cell? ⟨gb146, 0, none⟩ = some (.int .i64 x147000_1) ∧ w'.cell? ⟨gb146, 1, none⟩ = some (.int .i64 x147001_1) ∧ w'.cell? ⟨gb146, 2, none⟩ = some (.int .i64 x147002_1) ∧ w'.cell? ⟨gb146, 3, none⟩ = some (.int .i64 x147003_1) ∧ w'.cell? ⟨gb147, 0, none⟩ = some (.int .i64 t142) ∧ w'.cell? ⟨gb147, 1, none⟩ = some (.int .i64 t143) ∧ w'.cell? ⟨gb147, 2, none⟩ = some (.int .i64 t144) ∧ w'.cell? ⟨gb147, 3, none⟩ = some (.int .i64 t145)) (ds := [8]) #[false, false, false, false, false, false, false, false, false] (by kernel_rfl) rfl rfl ⟨(blk_cell BK146.out 0).trans rfl, (blk_cell BK146.out 1).trans rfl, (blk_cell BK146.out 2).trans rfl, (blk_cell BK146.out 3).trans rfl, (blk_cell BK147.out 0).trans rfl, (blk_cell BK147.out 1).trans rfl, (blk_cell BK147.out 2).trans rfl, (blk_cell BK147.out 3).trans rfl⟩ (fun hHeld => ?_); refine with_tabW corollaryref02_Add.tab5 corollaryref02_Add.bits5 (fun HT_ HW_ => ?_)
                generalize wr.drew = w33 at BK135 BK136 BK137 BK146 BK147 HB hHeld ⊢
                refine pure_ (i := 0) (N := some 17) (v := ?_) (a' := ?_) #[true, false, false, false, false, false, false, false, false] rfl rfl (any_of HT_.out (by kernel_rfl)) (fun _ _ _ h => h) (Or.inl ⟨by rfl, ?_⟩) ?_ ?_
                rotate_left
                · intro w'
                  go_simp
                  with_reducible rfl
                rotate_left
                · simp only [Act.put, List.setIfInBounds_toArray, List.set_cons_zero, List.set_cons_succ, i64_w, i32_w]
                  rfl
                refine pure_ (i := 1) (N := some 18) (v := ?_) (a' := ?_) #[true, true, false, false, false, false, false, false, false] rfl rfl (any_of HT_.out (by kernel_rfl)) (fun _ _ _ h => h) (Or.inl ⟨by rfl, ?_⟩) ?_ ?_
                rotate_left
                · intro w'
                  go_simp
                  with_reducible rfl
                rotate_left
                · simp only [Act.put, List.setIfInBounds_toArray, List.set_cons_zero, List.set_cons_succ, i64_w, i32_w]
                  rfl
                refine pure_ (i := 3) (N := some 20) (v := ?_) (a' := ?_) #[true, true, false, true, false, false, false, false, false] rfl rfl (any_of HT_.out (by kernel_rfl)) (fun _ _ _ h => h) (Or.inl ⟨by rfl, ?_⟩) ?_ ?_
                rotate_left
                · intro w'
                  go_simp
                  with_reducible rfl
                rotate_left
                · simp only [Act.put, List.setIfInBounds_toArray, List.set_cons_zero, List.set_cons_succ, i64_w, i32_w]
                  rfl
                refine pure_ (i := 4) (N := some 21) (v := ?_) (a' := ?_) #[true, true, false, true, true, false, false, false, false] rfl rfl (any_of HT_.out (by kernel_rfl)) (fun _ _ _ h => h) (Or.inl ⟨by rfl, ?_⟩) ?_ ?_
                rotate_left
                · intro w'
                  go_simp
                  with_reducible rfl
                rotate_left
                · simp only [Act.put, List.setIfInBounds_toArray, List.set_cons_zero, List.set_cons_succ, i64_w, i32_w]
                  rfl
                refine take_ (i := 2) (N := some 19) (v := ?_) (a' := ?_) #[true, true, true, true, true, false, false, false, false] rfl rfl (take_ofW HT_.out HW_.out (by kernel_rfl)) (fun _ _ _ h => h) (Or.inl ⟨by rfl, ?_⟩) hHeld ?_ ?_
                rotate_left
                · rintro w' ⟨s0, s1, s2, s3, s4, s5, s6, s7⟩
                  go_simp
                  with_reducible rfl
                rotate_left
                · simp only [Act.put, List.setIfInBounds_toArray, List.set_cons_zero, List.set_cons_succ, i64_w, i32_w]
                  rfl
                refine take_ (i := 5) (N := some 22) (v := ?_) (a' := ?_) #[true, true, true, true, true, true, false, false, false] rfl rfl (take_ofW HT_.out HW_.out (by kernel_rfl)) (fun _ _ _ h => h) (Or.inl ⟨by rfl, ?_⟩) hHeld ?_ ?_
                rotate_left
                · rintro w' ⟨s0, s1, s2, s3, s4, s5, s6, s7⟩
                  go_simp
                  with_reducible rfl
                rotate_left
                · simp only [Act.put, List.setIfInBounds_toArray, List.set_cons_zero, List.set_cons_succ, i64_w, i32_w]
                  rfl
                refine pure_ (i := 6) (N := some 23) (v := ?_) (a' := ?_) #[true, true, true, true, true, true, true, false, false] rfl rfl (any_of HT_.out (by kernel_rfl)) (fun _ _ _ h => h) (Or.inl ⟨by rfl, ?_⟩) ?_ ?_
                rotate_left
                · intro w'
                  go_simp
                  with_reducible rfl
                rotate_left
                · simp only [Act.put, List.setIfInBounds_toArray, List.set_cons_zero, List.set_cons_succ, i64_w, i32_w]
                  rfl
                refine pure_ (i := 7) (N := some 24) (v := ?_) (a' := ?_) #[true, true, true, true, true, true, true, true, false] rfl rfl (any_of HT_.out (by kernel_rfl)) (fun _ _ _ h => h) (Or.inl ⟨by rfl, ?_⟩) ?_ ?_
                rotate_left
                · intro w'
                  go_simp
                  with_reducible rfl
                rotate_left
                · simp only [Act.put, List.setIfInBounds_toArray, List.set_cons_zero, List.set_cons_succ, i64_w, i32_w]
                  rfl
                refine last_ (i := 8) (N := none) #[true, true, true, true, true, true, true, true, true] rfl rfl (one_of HT_.out (by kernel_rfl)) (by decide) (fun K hK => ?_)
                have hs34 : w33.cell? ⟨gb146, 3, none⟩ = some (.int .i64 x147003_1) := (blk_cell BK146.out 3).trans rfl
                have hfs34 := blk_frozen BK146.out 3
                have hns34_0 := NB135_146.out
                have hns34_1 := NB136_146.out
                have hns34_2 := NB137_146.out
                have hns34_4 := NB147_146.out
                have hms34_0 := NB146_135.out
                have hms34_1 := NB146_136.out
                have hms34_2 := NB146_137.out
                have hms34_4 := NB146_147.out
                refine skip_ (w1 := ?_) (by rfl) rfl ?_ ?_
                rotate_left
                · go_simp
                  rfl
                refine hK.out _ _ ?_
                clear hK K
                refine done_ (done_of HT_.out (by kernel_rfl)) ?_
                try go_wp2
                go_roundg k1
                case measure => have := HK1.out; omega
                case rel => exact ⟨(4), (x147000_1), (x147001_1), (x147002_1), (wrap64 (x147003_1 + t145)), (by first | rfl | (simp; done) | (simp [*]; done)), H', ⟨by have := HK1.out; omega⟩, ⟨by (with_reducible repeat first | apply bN_ | apply bD_ | apply bA_); refine blk_far ?_ NB135_146.out _; (with_reducible repeat first | apply bN_ | apply bD_ | apply bA_); exact BK135.out⟩, ⟨by (with_reducible repeat first | apply bN_ | apply bD_ | apply bA_); refine blk_far ?_ NB136_146.out _; (with_reducible repeat first | apply bN_ | apply bD_ | apply bA_); exact BK136.out⟩, ⟨by (with_reducible repeat first | apply bN_ | apply bD_ | apply bA_); refine blk_far ?_ NB137_146.out _; (with_reducible repeat first | apply bN_ | apply bD_ | apply bA_); exact BK137.out⟩, ⟨by (with_reducible repeat first | apply bN_ | apply bD_ | apply bA_); refine blk_put (cs := #[.int .i64 x147000_1, .int .i64 x147001_1, .int .i64 x147002_1, .int .i64 x147003_1]) ?_ 3 _ rfl; (with_reducible repeat first | apply bN_ | apply bD_ | apply bA_); exact BK146.out⟩, ⟨by (with_reducible repeat first | apply bN_ | apply bD_ | apply bA_); refine blk_far ?_ NB147_146.out _; (with_reducible repeat first | apply bN_ | apply bD_ | apply bA_); exact BK147.out⟩, ⟨by repeat (first | (with_reducible first | exact HB.out | apply below_alloc | apply pw_below_drewN | apply below_drew1 | refine below_set ?_ GE135.out | refine below_set ?_ GE136.out | refine below_set ?_ GE137.out | refine below_set ?_ GE146.out | refine below_set ?_ GE147.out) | exact HB.out)⟩⟩
              · rw [if_neg c32] at H
                clear c32
                exact absurd H (by simp)
      · rw [if_neg c22] at H
        have c22b0 : decide (x8_1 < 4) = false := decide_eq_false c22
        clear c22
        replace H := Option.bind_eq_some_iff.mp H
        obtain ⟨⟨t148, t149, t150⟩, A350, H⟩ := H
        replace H : (some (t148, t149, t150)) = some (r1, r2, r3) := H
        have A35 := Aside0.mk A350
        clear A350
        simp only [Option.some.injEq, Prod.mk.injEq] at H
        obtain ⟨rfl, rfl, rfl⟩ := H
        have hnb36 := NB146_135.out
        have hnc36 := NB135_146.out
        have hnb37 := NB146_136.out
        have hnc37 := NB136_146.out
        have hnb38 := NB146_137.out
        have hnc38 := NB137_146.out
        have hnb39 := NB146_147.out
        have hnc39 := NB147_146.out
        have hcz40_0 : wr.cell? ⟨gb146, 0, none⟩ = some (.int .i64 x147000_1) := (blk_cell BK146.out 0).trans rfl
        have hcz40_1 : wr.cell? ⟨gb146, 1, none⟩ = some (.int .i64 x147001_1) := (blk_cell BK146.out 1).trans rfl
        have hcz40_2 : wr.cell? ⟨gb146, 2, none⟩ = some (.int .i64 x147002_1) := (blk_cell BK146.out 2).trans rfl
        have hcz40_3 : wr.cell? ⟨gb146, 3, none⟩ = some (.int .i64 x147003_1) := (blk_cell BK146.out 3).trans rfl
        have hfz40_0 := blk_frozen BK146.out 0
        have hfz40_1 := blk_frozen BK146.out 1
        have hfz40_2 := blk_frozen BK146.out 2
        have hfz40_3 := blk_frozen BK146.out 3
        go_wp2_with (first | ((with_reducible refine gate_callee (f := 23) rfl ?_); refine goesL_ (some 26) rfl rfl Try.func23 (by kernel_rfl) rfl #[.agg #[.int .i64 x147000_1, .int .i64 x147001_1, .int .i64 x147002_1, .int .i64 x147003_1]] rfl (by (try simp only [List.map_toArray, List.map_cons, List.map_nil]); first | done | rfl | (simp only [List.length_drop, List.length_take]; rfl)) ?_; (with_reducible refine (corollaryref02_Back.calls k1 x147000_1 x147001_1 x147002_1 x147003_1 t148 t149 t150 _ A35.out).mono ?_); rintro e w41 ⟨rfl, hb⟩; refine ⟨_, rfl, ?_⟩; have n0_ := Aside0.mk (blk_below (g := gb135) (o := .cells #[.int .i64 a0_0, .int .u64 a0_1] 26 (0, 0)) (by (with_reducible repeat first | apply bN_ | apply bD_ | apply bA_); exact BK135.out) hb); have n1_ := Aside0.mk (blk_below (g := gb136) (o := .cells #[.int .i64 a1_0, .int .u64 a1_1] 26 (0, 0)) (by (with_reducible repeat first | apply bN_ | apply bD_ | apply bA_); exact BK136.out) hb); have n2_ := Aside0.mk (blk_below (g := gb137) (o := .cells #[.int .i64 0, .int .u64 0] 26 (0, 0)) (by (with_reducible repeat first | apply bN_ | apply bD_ | apply bA_); exact BK137.out) hb); have n3_ := Aside0.mk (blk_below (g := gb146) (o := .cells #[.int .i64 x147000_1, .int .i64 x147001_1, .int .i64 x147002_1, .int .i64 x147003_1] 46 (0, 0)) (by (with_reducible repeat first | apply bN_ | apply bD_ | apply bA_); exact BK146.out) hb); have n4_ := Aside0.mk (blk_below (g := gb147) (o := .cells #[.int .i64 t142, .int .i64 t143, .int .i64 t144, .int .i64 t145] 46 (0, 0)) (by (with_reducible repeat first | apply bN_ | apply bD_ | apply bA_); exact BK147.out) hb); have n5_ := Aside0.mk (below_step (by repeat (first | (with_reducible first | exact HB.out | apply below_alloc | apply pw_below_drewN | apply below_drew1 | refine below_set ?_ GE135.out | refine below_set ?_ GE136.out | refine below_set ?_ GE137.out | refine below_set ?_ GE146.out | refine below_set ?_ GE147.out) | exact HB.out)) hb); clear BK135; clear BK136; clear BK137; clear BK146; clear BK147; clear HB; have BK135 := n0_; have BK136 := n1_; have BK137 := n2_; have BK146 := n3_; have BK147 := n4_; have HB := n5_; clear n0_ n1_ n2_ n3_ n4_ n5_; (try clear hb); (try clear hb2); (try clear hk); (try clear hi); have hnb42 := NB137_135.out; have hnc42 := NB135_137.out; have hnb43 := NB137_136.out; have hnc43 := NB136_137.out; have hnb44 := NB137_147.out; have hnc44 := NB147_137.out; have hcz45_0 : w41.cell? ⟨gb137, 0, none⟩ = some (.int .i64 0) := (blk_cell BK137.out 0).trans rfl; have hcz45_1 : w41.cell? ⟨gb137, 1, none⟩ = some (.int .u64 0) := (blk_cell BK137.out 1).trans rfl; have hfz45_0 := blk_frozen BK137.out 0; have hfz45_1 := blk_frozen BK137.out 1))
        refine bodyPost_ret (results_ct rfl _ _ gb137 26 #[.int .i64 t148, .int .u64 t149] (0, 0) _ rfl (by (with_reducible repeat first | apply bN_ | apply bD_ | apply bA_); refine blk_put (cs := #[.int .i64 t148, .int .u64 0]) ?_ 1 _ rfl; (with_reducible repeat first | apply bN_ | apply bD_ | apply bA_); refine blk_put (cs := #[.int .i64 0, .int .u64 0]) ?_ 0 _ rfl; (with_reducible repeat first | apply bN_ | apply bD_ | apply bA_); exact BK137.out) Try.underlying26 rfl (by kernel_rfl)) rfl ?_
        exact ⟨by first | rfl | (simp [errW_none, errW_some] <;> rfl) | (simp [*, errW_none, errW_some] <;> rfl), by repeat (first | (with_reducible first | exact HB.out | apply below_alloc | apply pw_below_drewN | apply below_drew1 | refine below_set ?_ GE135.out | refine below_set ?_ GE136.out | refine below_set ?_ GE137.out | refine below_set ?_ GE146.out | refine below_set ?_ GE147.out) | exact HB.out)⟩

end Go.Proofs.Ytipcggfabjfobaa.P
