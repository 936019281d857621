-- Written by our own program (wip/xprint) over the seat's translation. Lean checks it.
import Derived.Test.YtipcggfabjfobaaPx0
import Derived.Test.YtipcggfabjfobaaPx7
import Derived.Test.YtipcggfabjfobaaPx8
namespace Go.Proofs.Ytipcggfabjfobaa.P
open Go.RowKit Go.Proofs.YtipcggfabjfobaaW.PrintWords Go.Proofs.YtipcggfabjfobaaW.PrintLast Go.Proofs.YtipcggfabjfobaaW.PrintMore
attribute [local go_sem] max2_int min2_int max_two min_two max_three min_three max_four min_four   -- for this text's walks alone
set_option linter.unusedVariables false
set_option linter.unusedSimpArgs false

/-! ### corollaryref02_Back: function 23 -/
def corollaryref02_Back.l0 : Nat → Int → Int → Int → Int → Int → Option (Int × Int × Bool)
  | 0, _, _, _, _, _ => none
  | k + 1, x4, x128000, x128001, x128002, x128003 => if x4 < 3 then (if x4 = 0 then ((corollaryref02_high.f x128000).bind fun t129 => ((corollaryref02_low.f x128000).bind fun t130 => (corollaryref02_Back.l0 k 1 t130 (wrap64 (x128001 + t129)) x128002 x128003))) else (if x4 = 1 then ((corollaryref02_high.f x128001).bind fun t131 => ((corollaryref02_low.f x128001).bind fun t132 => (corollaryref02_Back.l0 k 2 x128000 t132 (wrap64 (x128002 + t131)) x128003))) else (if x4 = 2 then ((corollaryref02_high.f x128002).bind fun t133 => ((corollaryref02_low.f x128002).bind fun t134 => (corollaryref02_Back.l0 k 3 x128000 x128001 t134 (wrap64 (x128003 + t133))))) else (if x4 = 3 then (none) else (none))))) else (if x128003 < (-2147483648) then (some (0, 0, false)) else (if x128003 > 2147483647 then (some (0, 0, false)) else (some (wrap64 ((wrap64 (x128003 * 4294967296)) + x128002), IntKind.u64.wrap ((IntKind.u64.wrap ((IntKind.u64.wrap (x128001)) * 4294967296)) + (IntKind.u64.wrap (x128000))), true))))
def corollaryref02_Back.f (k : Nat) (a0_0 : Int) (a0_1 : Int) (a0_2 : Int) (a0_3 : Int) : Option (Int × Int × Bool) := corollaryref02_Back.l0 k 0 a0_0 a0_1 a0_2 a0_3
theorem corollaryref02_Back.mono_l : ∀ k, (∀ y0 y1 y2 y3 y4, LeO (corollaryref02_Back.l0 k y0 y1 y2 y3 y4) (corollaryref02_Back.l0 (k + 1) y0 y1 y2 y3 y4))
  | 0 => fun _ _ _ _ _ r h => by simp [corollaryref02_Back.l0] at h
  | k + 1 => by
    have ih0 := corollaryref02_Back.mono_l k
    · intro y0 y1 y2 y3 y4
      unfold corollaryref02_Back.l0
      repeat' first
      | (with_reducible exact ih0 _ _ _ _ _)
      | (with_reducible exact LeO.refl _)
      | (with_reducible exact LeO.none _)
      | (with_reducible refine LeO.ite ?_ ?_)
      | (with_reducible refine LeO.bind ?_ (fun _ => ?_))
      | exact ih0 _ _ _ _ _
      | exact LeO.none _
      | refine LeO.ite ?_ ?_
      | refine LeO.bind ?_ (fun _ => ?_)
theorem corollaryref02_Back.mono : ∀ a0 a1 a2 a3 k, LeO (corollaryref02_Back.f k a0 a1 a2 a3) (corollaryref02_Back.f (k + 1) a0 a1 a2 a3) := by
  intro a0 a1 a2 a3 k
  have ih0 := corollaryref02_Back.mono_l k
  unfold corollaryref02_Back.f
  repeat' first
      | (with_reducible exact ih0 _ _ _ _ _)
      | (with_reducible exact LeO.refl _)
      | (with_reducible exact LeO.none _)
      | (with_reducible refine LeO.ite ?_ ?_)
      | (with_reducible refine LeO.bind ?_ (fun _ => ?_))
      | exact ih0 _ _ _ _ _
      | exact LeO.none _
      | refine LeO.ite ?_ ?_
      | refine LeO.bind ?_ (fun _ => ?_)
def corollaryref02_Back.T4 : Bool × List (List Nat × List Nat) := (true, [([], []), ([0], [0]), ([1], [1]), ([2], [2]), ([], []), ([4], [4]), ([5], [5]), ([6], [6]), ([3, 7], [3, 7]), ([1, 0, 1, 2, 3, 4, 5, 6, 7, 8], [1]), ([9, 8, 7, 0, 1, 2, 3, 4, 5, 6, 7, 8], [8, 9])])
def corollaryref02_Back.B4 : List Nat := [0, 1, 3, 7, 0, 16, 48, 112, 255, 511, 1023]
theorem corollaryref02_Back.tab4 : rtab .any (opsOf Try.f23 4) = corollaryref02_Back.T4 := by kernel_rfl
theorem corollaryref02_Back.bits4 : waitsOk corollaryref02_Back.T4.2 corollaryref02_Back.B4 = true := by kernel_rfl
set_option maxHeartbeats 8000000 in
set_option maxRecDepth 100000 in
theorem corollaryref02_Back.calls (k : Nat) (a0_0 : Int) (a0_1 : Int) (a0_2 : Int) (a0_3 : Int) (r1 : Int) (r2 : Int) (r3 : Bool) (w : World) (h : corollaryref02_Back.f k a0_0 a0_1 a0_2 a0_3 = some (r1, r2, r3)) :
    Calls Try.prog 23 #[.agg #[.int .i64 a0_0, .int .i64 a0_1, .int .i64 a0_2, .int .i64 a0_3]] w fun e w' => e = .returned (.tuple #[.agg #[.int .i64 r1, .int .u64 r2], .bool r3]) ∧ Below w.heap.size w w' := by
  have hu46 := Try.underlying46
  have hu26 := Try.underlying26
  have HB := Aside0.mk (Below.refl w.heap.size w)
  have H : (corollaryref02_Back.l0 k 0 a0_0 a0_1 a0_2 a0_3) = some (r1, r2, r3) := h
  clear h
  have H' := Aside0.mk H
  clear H
  go_enter Try.func23, Try.ntmps23
  go_wp2_with (first | ((with_reducible refine gate_dst (N := 1) rfl ?_); refine box_event ?hg (N := 1) ?hd (cs := #[.int .i64 a0_0, .int .i64 a0_1, .int .i64 a0_2, .int .i64 a0_3]) (t := 46) ?hr ?_; (case hd => rfl); (case hg => rfl); (case hr => first | (go_simp; done) | (go_simp; rfl)); intro gb127 hg w2 hbox hb; have n0_ := Aside0.mk (below_step (by repeat (first | (with_reducible first | exact HB.out | apply below_alloc | apply pw_below_drewN | apply below_drew1) | exact HB.out)) hb); have n1_ := Aside0.mk (hbox); have n2_ := Aside0.mk ((by rw [hg]; exact (below_size (by repeat (first | (with_reducible first | exact HB.out | apply below_alloc | apply pw_below_drewN | apply below_drew1) | exact HB.out))) : w.heap.size ≤ gb127)); have n3_ := Aside0.mk ((by rw [hg]; exact (below_size (by repeat (first | (with_reducible first | exact HB.out | apply below_alloc | apply pw_below_drewN | apply below_drew1) | exact HB.out))) : w.heap.size ≤ gb127)); clear HB; have HB := n0_; have BK127 := n1_; have GW127 := n2_; have GE127 := n3_; clear n0_ n1_ n2_ n3_; clear hb hbox hg) | ((with_reducible refine gate_dst (N := 2) rfl ?_); refine box_event ?hg (N := 2) ?hd (cs := #[.int .i64 0, .int .u64 0]) (t := 26) ?hr ?_; (case hd => rfl); (case hg => rfl); (case hr => first | (go_simp; done) | (go_simp; rfl)); intro gb128 hg w3 hbox hb; have n0_ := Aside0.mk (blk_below (g := gb127) (o := .cells #[.int .i64 a0_0, .int .i64 a0_1, .int .i64 a0_2, .int .i64 a0_3] 46 (0, 0)) (by (with_reducible repeat first | apply bN_ | apply bD_ | apply bA_); exact BK127.out) hb); have n1_ := Aside0.mk (below_step (by repeat (first | (with_reducible first | exact HB.out | apply below_alloc | apply pw_below_drewN | apply below_drew1 | refine below_set ?_ GE127.out) | exact HB.out)) hb); have n2_ := Aside0.mk (hbox); have n3_ := Aside0.mk ((by rw [hg]; exact (below_size (by repeat (first | (with_reducible first | exact HB.out | apply below_alloc | apply pw_below_drewN | apply below_drew1 | refine below_set ?_ GE127.out) | exact HB.out))) : w.heap.size ≤ gb128)); have n4_ := Aside0.mk ((by rw [hg]; exact (below_size (by repeat (first | (with_reducible first | exact HB.out | apply below_alloc | apply pw_below_drewN | apply below_drew1 | refine below_set ?_ GE127.out) | exact HB.out))) : w.heap.size ≤ gb128)); have n5_ := Aside0.mk ((by rw [hg]; exact Nat.ne_of_lt (blk_lt (g := gb127) (o := .cells #[.int .i64 a0_0, .int .i64 a0_1, .int .i64 a0_2, .int .i64 a0_3] 46 (0, 0)) (by (with_reducible repeat first | apply bN_ | apply bD_ | apply bA_); exact BK127.out)) : gb127 ≠ gb128)); have n6_ := Aside0.mk ((by rw [hg]; exact Nat.ne_of_gt (blk_lt (g := gb127) (o := .cells #[.int .i64 a0_0, .int .i64 a0_1, .int .i64 a0_2, .int .i64 a0_3] 46 (0, 0)) (by (with_reducible repeat first | apply bN_ | apply bD_ | apply bA_); exact BK127.out)) : gb128 ≠ gb127)); clear BK127; clear HB; have BK127 := n0_; have HB := n1_; have BK128 := n2_; have GW128 := n3_; have GE128 := n4_; have NB127_128 := n5_; have NB128_127 := n6_; clear n0_ n1_ n2_ n3_ n4_ n5_ n6_; clear hb hbox hg))
  go_loopg [4] k (fun kq v4 w' => ∃ (x4_1 : Int) (x128000_1 : Int) (x128001_1 : Int) (x128002_1 : Int) (x128003_1 : Int), v4 = .int .i64 x4_1 ∧ Aside0 (corollaryref02_Back.l0 kq x4_1 x128000_1 x128001_1 x128002_1 x128003_1 = some (r1, r2, r3)) ∧ Aside0 (kq ≤ k) ∧ Aside0 (w'.heap[gb127]? = some (.cells #[.int .i64 x128000_1, .int .i64 x128001_1, .int .i64 x128002_1, .int .i64 x128003_1] 46 (0, 0))) ∧ Aside0 (w'.heap[gb128]? = some (.cells #[.int .i64 0, .int .u64 0] 26 (0, 0))) ∧ Aside0 (Below w.heap.size w w'))
  case atStart => exact ⟨(0), (a0_0), (a0_1), (a0_2), (a0_3), (by first | rfl | (simp; done) | (simp [*]; done)), H', ⟨Nat.le_refl _⟩, ⟨by (with_reducible repeat first | apply bN_ | apply bD_ | apply bA_); exact BK127.out⟩, ⟨by (with_reducible repeat first | apply bN_ | apply bD_ | apply bA_); exact BK128.out⟩, ⟨by repeat (first | (with_reducible first | exact HB.out | apply below_alloc | apply pw_below_drewN | apply below_drew1 | refine below_set ?_ GE127.out | refine below_set ?_ GE128.out) | exact HB.out)⟩⟩
  case round =>
    clear H'
    try clear c2
    try clear p2
    obtain ⟨x4_1, x128000_1, x128001_1, x128002_1, x128003_1, rfl, HA, HK1, BK127, BK128, HB⟩ := hrel
    cases gk with
    | zero => exact absurd HA.out (by simp [corollaryref02_Back.l0])
    | succ k1 =>
      have H := HA.out
      clear HA
      simp only [corollaryref02_Back.l0] at H
      by_cases c4 : x4_1 < 3
      · rw [if_pos c4] at H
        have c4b0 : decide (x4_1 < 3) = true := decide_eq_true c4
        clear c4
        by_cases c5 : x4_1 = 0
        · rw [if_pos c5] at H
          subst c5
          have wlc5_0 : wrap64 (-1) = (-1) := by (unfold wrap64; omega)
          have wlc5_1 : wrap64 0 = 0 := by (unfold wrap64; omega)
          have wlc5_2 : wrap64 1 = 1 := by (unfold wrap64; omega)
          have wlc5_3 : wrap64 2 = 2 := by (unfold wrap64; omega)
          replace H := Option.bind_eq_some_iff.mp H
          obtain ⟨t129, A60, H⟩ := H
          replace H : ((corollaryref02_low.f x128000_1).bind fun t130 => (corollaryref02_Back.l0 k1 1 t130 (wrap64 (x128001_1 + t129)) x128002_1 x128003_1)) = some (r1, r2, r3) := H
          have A6 := Aside0.mk A60
          clear A60
          replace H := Option.bind_eq_some_iff.mp H
          obtain ⟨t130, A70, H⟩ := H
          replace H : (corollaryref02_Back.l0 k1 1 t130 (wrap64 (x128001_1 + t129)) x128002_1 x128003_1) = some (r1, r2, r3) := H
          have A7 := Aside0.mk A70
          clear A70
          have H' := Aside0.mk H
          clear H
          try go_wp2
          have n0_ := Aside0.mk (blk_drew BK127.out)
          have n1_ := Aside0.mk (blk_drew BK128.out)
          have n2_ := Aside0.mk (below_drew1 HB.out)
          clear BK127
          clear BK128
          clear HB
          have BK127 := n0_
          have BK128 := n1_
          have HB := n2_
          clear n0_ n1_ n2_
          refine start_ (n := 11) (S := fun w' => w'.cell? ⟨gb127, 0, none⟩ = some (.int .i64 x128000_1) ∧ w'.cell? ⟨gb127, 1, none⟩ = some (.int .i64 x128001_1) ∧ w'.cell? ⟨gb127, 2, none⟩ = some (.int .i64 x128002_1) ∧ w'.cell? ⟨gb127, 3, none⟩ = some (.int .i64 x128003_1)) (ds := [10]) #[false, false, false, false, false, false, false, false, false, false, false] (by kernel_rfl) rfl rfl ⟨(blk_cell BK127.out 0).trans rfl, (blk_cell BK127.out 1).trans rfl, (blk_cell BK127.out 2).trans rfl, (blk_cell BK127.out 3).trans rfl⟩ (fun hHeld => ?_); refine with_tabW corollaryref02_Back.tab4 corollaryref02_Back.bits4 (fun HT_ HW_ => ?_)
          generalize wr.drew = w8 at BK127 BK128 HB hHeld ⊢
          refine pure_ (i := 0) (N := some 9) (v := ?_) (a' := ?_) #[true, false, false, false, false, false, false, false, false, false, false] rfl rfl (any_of HT_.out (by kernel_rfl)) (fun _ _ _ h => h) (Or.inl ⟨by rfl, ?_⟩) ?_ ?_
          rotate_left
          · intro w'
            go_simp
            with_reducible rfl
          rotate_left
          · simp only [Act.put, List.setIfInBounds_toArray, List.set_cons_zero, List.set_cons_succ, i64_w, i32_w]
            rfl
          refine pure_ (i := 1) (N := some 10) (v := ?_) (a' := ?_) #[true, true, false, false, false, false, false, false, false, false, false] rfl rfl (any_of HT_.out (by kernel_rfl)) (fun _ _ _ h => h) (Or.inl ⟨by rfl, ?_⟩) ?_ ?_
          rotate_left
          · intro w'
            go_simp
            with_reducible rfl
          rotate_left
          · simp only [Act.put, List.setIfInBounds_toArray, List.set_cons_zero, List.set_cons_succ, i64_w, i32_w]
            rfl
          refine pure_ (i := 2) (N := some 11) (v := ?_) (a' := ?_) #[true, true, true, false, false, false, false, false, false, false, false] rfl rfl (any_of HT_.out (by kernel_rfl)) (fun _ _ _ h => h) (Or.inl ⟨by rfl, ?_⟩) ?_ ?_
          rotate_left
          · intro w'
            go_simp
            with_reducible rfl
          rotate_left
          · simp only [Act.put, List.setIfInBounds_toArray, List.set_cons_zero, List.set_cons_succ, i64_w, i32_w]
            rfl
          refine pure_ (i := 4) (N := some 13) (v := ?_) (a' := ?_) #[true, true, true, false, true, false, false, false, false, false, false] rfl rfl (any_of HT_.out (by kernel_rfl)) (fun _ _ _ h => h) (Or.inl ⟨by rfl, ?_⟩) ?_ ?_
          rotate_left
          · intro w'
            go_simp
            with_reducible rfl
          rotate_left
          · simp only [Act.put, List.setIfInBounds_toArray, List.set_cons_zero, List.set_cons_succ, i64_w, i32_w]
            rfl
          refine pure_ (i := 5) (N := some 14) (v := ?_) (a' := ?_) #[true, true, true, false, true, true, false, false, false, false, false] rfl rfl (any_of HT_.out (by kernel_rfl)) (fun _ _ _ h => h) (Or.inl ⟨by rfl, ?_⟩) ?_ ?_
          rotate_left
          · intro w'
            go_simp
            with_reducible rfl
          rotate_left
          · simp only [Act.put, List.setIfInBounds_toArray, List.set_cons_zero, List.set_cons_succ, i64_w, i32_w]
            rfl
          refine take_ (i := 3) (N := some 12) (v := ?_) (a' := ?_) #[true, true, true, true, true, true, false, false, false, false, false] rfl rfl (take_ofW HT_.out HW_.out (by kernel_rfl)) (fun _ _ _ h => h) (Or.inl ⟨by rfl, ?_⟩) hHeld ?_ ?_
          rotate_left
          · rintro w' ⟨s0, s1, s2, s3⟩
            go_simp
            with_reducible rfl
          rotate_left
          · simp only [Act.put, List.setIfInBounds_toArray, List.set_cons_zero, List.set_cons_succ, i64_w, i32_w]
            rfl
          refine take_ (i := 6) (N := some 15) (v := ?_) (a' := ?_) #[true, true, true, true, true, true, true, false, false, false, false] rfl rfl (take_ofW HT_.out HW_.out (by kernel_rfl)) (fun _ _ _ h => h) (Or.inl ⟨by rfl, ?_⟩) hHeld ?_ ?_
          rotate_left
          · rintro w' ⟨s0, s1, s2, s3⟩
            go_simp
            with_reducible rfl
          rotate_left
          · simp only [Act.put, List.setIfInBounds_toArray, List.set_cons_zero, List.set_cons_succ, i64_w, i32_w]
            rfl
          refine one_ (i := 7) (N := some 16) #[true, true, true, true, true, true, true, true, false, false, false] rfl rfl (one_of HT_.out (by kernel_rfl)) (by decide) (fun K hK => ?_)
          refine goes_ Try.func25 (by kernel_rfl) rfl #[.int .i64 x128000_1] (by rfl) rfl rfl (by (try simp only [List.map_toArray, List.map_cons, List.map_nil]); first | done | rfl | (simp only [List.length_drop, List.length_take]; rfl)) ?_
          with_reducible refine (corollaryref02_high.calls x128000_1 t129 _ A6.out).mono ?_
          rintro e w' ⟨rfl, ⟨nd, rfl⟩⟩
          refine ⟨_, rfl, ?_⟩
          refine hK.out _ _ ⟨(blk_cell BK127.out 0).trans rfl, (blk_cell BK127.out 1).trans rfl, (blk_cell BK127.out 2).trans rfl, (blk_cell BK127.out 3).trans rfl⟩ (fun hHeld => ?_)
          clear hK K
          refine norm_ (a' := ?_) ?_ ?_
          rotate_left
          · show Act.put _ (some 16) _ = _
            simp only [Act.put, List.setIfInBounds_toArray, List.set_cons_zero, List.set_cons_succ, i64_w, i32_w]
            rfl
          refine pure_ (i := 8) (N := some 17) (v := ?_) (a' := ?_) #[true, true, true, true, true, true, true, true, true, false, false] rfl rfl (any_of HT_.out (by kernel_rfl)) (fun _ _ _ h => h) (Or.inl ⟨by rfl, ?_⟩) ?_ ?_
          rotate_left
          · intro w'
            go_simp
            with_reducible rfl
          rotate_left
          · simp only [Act.put, List.setIfInBounds_toArray, List.set_cons_zero, List.set_cons_succ, i64_w, i32_w]
            rfl
          refine pure_ (i := 9) (N := some 18) (v := ?_) (a' := ?_) #[true, true, true, true, true, true, true, true, true, true, false] rfl rfl (any_of HT_.out (by kernel_rfl)) (fun _ _ _ h => h) (Or.inl ⟨by rfl, ?_⟩) ?_ ?_
          rotate_left
          · intro w'
            go_simp
            with_reducible rfl
          rotate_left
          · simp only [Act.put, List.setIfInBounds_toArray, List.set_cons_zero, List.set_cons_succ, i64_w, i32_w]
            rfl
          refine last_ (i := 10) (N := none) #[true, true, true, true, true, true, true, true, true, true, true] rfl rfl (one_of HT_.out (by kernel_rfl)) (by decide) (fun K hK => ?_)
          have hs9 : w8.cell? ⟨gb127, 1, none⟩ = some (.int .i64 x128001_1) := (blk_cell BK127.out 1).trans rfl
          have hfs9 := blk_frozen BK127.out 1
          have hns9_1 := NB128_127.out
          have hms9_1 := NB127_128.out
          refine skip_ (w1 := ?_) (by rfl) rfl ?_ ?_
          rotate_left
          · go_simp
            rfl
          refine hK.out _ _ ?_
          clear hK K
          refine done_ (done_of HT_.out (by kernel_rfl)) ?_
          have hnb10 := NB127_128.out
          have hnc10 := NB128_127.out
          have hcz11_0 : w8.cell? ⟨gb127, 0, none⟩ = some (.int .i64 x128000_1) := (blk_cell BK127.out 0).trans rfl
          have hcz11_1 : w8.cell? ⟨gb127, 1, none⟩ = some (.int .i64 x128001_1) := (blk_cell BK127.out 1).trans rfl
          have hcz11_2 : w8.cell? ⟨gb127, 2, none⟩ = some (.int .i64 x128002_1) := (blk_cell BK127.out 2).trans rfl
          have hcz11_3 : w8.cell? ⟨gb127, 3, none⟩ = some (.int .i64 x128003_1) := (blk_cell BK127.out 3).trans rfl
          have hfz11_0 := blk_frozen BK127.out 0
          have hfz11_1 := blk_frozen BK127.out 1
          have hfz11_2 := blk_frozen BK127.out 2
          have hfz11_3 := blk_frozen BK127.out 3
          try go_wp2_with (first | ((with_reducible refine gate_callee (f := 24) rfl ?_); refine goesL_ (some 23) rfl rfl Try.func24 (by kernel_rfl) rfl #[.int .i64 x128000_1] rfl (by (try simp only [List.map_toArray, List.map_cons, List.map_nil]); first | done | rfl | (simp only [List.length_drop, List.length_take]; rfl)) ?_; (with_reducible refine (corollaryref02_low.calls x128000_1 t130 _ A7.out).mono ?_); rintro e w' ⟨rfl, ⟨nd, rfl⟩⟩; refine ⟨_, rfl, ?_⟩))
          go_roundg k1
          case measure => have := HK1.out; omega
          case rel => exact ⟨(1), (t130), (wrap64 (x128001_1 + t129)), (x128002_1), (x128003_1), (by first | rfl | (simp; done) | (simp [*]; done)), H', ⟨by have := HK1.out; omega⟩, ⟨by (with_reducible repeat first | apply bN_ | apply bD_ | apply bA_); refine blk_put (cs := #[.int .i64 x128000_1, .int .i64 (wrap64 (x128001_1 + t129)), .int .i64 x128002_1, .int .i64 x128003_1]) ?_ 0 _ rfl; (with_reducible repeat first | apply bN_ | apply bD_ | apply bA_); refine blk_put (cs := #[.int .i64 x128000_1, .int .i64 x128001_1, .int .i64 x128002_1, .int .i64 x128003_1]) ?_ 1 _ rfl; (with_reducible repeat first | apply bN_ | apply bD_ | apply bA_); exact BK127.out⟩, ⟨by (with_reducible repeat first | apply bN_ | apply bD_ | apply bA_); refine blk_far ?_ NB128_127.out _; (with_reducible repeat first | apply bN_ | apply bD_ | apply bA_); refine blk_far ?_ NB128_127.out _; (with_reducible repeat first | apply bN_ | apply bD_ | apply bA_); exact BK128.out⟩, ⟨by repeat (first | (with_reducible first | exact HB.out | apply below_alloc | apply pw_below_drewN | apply below_drew1 | refine below_set ?_ GE127.out | refine below_set ?_ GE128.out) | exact HB.out)⟩⟩
        · rw [if_neg c5] at H
          clear c5
          by_cases c12 : x4_1 = 1
          · rw [if_pos c12] at H
            subst c12
            have wlc12_0 : wrap64 (-1) = (-1) := by (unfold wrap64; omega)
            have wlc12_1 : wrap64 0 = 0 := by (unfold wrap64; omega)
            have wlc12_2 : wrap64 1 = 1 := by (unfold wrap64; omega)
            have wlc12_3 : wrap64 2 = 2 := by (unfold wrap64; omega)
            have wlc12_4 : wrap64 3 = 3 := by (unfold wrap64; omega)
            replace H := Option.bind_eq_some_iff.mp H
            obtain ⟨t131, A130, H⟩ := H
            replace H : ((corollaryref02_low.f x128001_1).bind fun t132 => (corollaryref02_Back.l0 k1 2 x128000_1 t132 (wrap64 (x128002_1 + t131)) x128003_1)) = some (r1, r2, r3) := H
            have A13 := Aside0.mk A130
            clear A130
            replace H := Option.bind_eq_some_iff.mp H
            obtain ⟨t132, A140, H⟩ := H
            replace H : (corollaryref02_Back.l0 k1 2 x128000_1 t132 (wrap64 (x128002_1 + t131)) x128003_1) = some (r1, r2, r3) := H
            have A14 := Aside0.mk A140
            clear A140
            have H' := Aside0.mk H
            clear H
            try go_wp2
            have n0_ := Aside0.mk (blk_drew BK127.out)
            have n1_ := Aside0.mk (blk_drew BK128.out)
            have n2_ := Aside0.mk (below_drew1 HB.out)
            clear BK127
            clear BK128
            clear HB
            have BK127 := n0_
            have BK128 := n1_
            have HB := n2_
            clear n0_ n1_ n2_
            refine start_ (n := 11) (S := fun w' => w'.cell? ⟨gb127, 0, none⟩ = some (.int .i64 x128000_1) ∧ w'.cell? ⟨gb127, 1, none⟩ = some (.int .i64 x128001_1) ∧ w'.cell? ⟨gb127, 2, none⟩ = some (.int .i64 x128002_1) ∧ w'.cell? ⟨gb127, 3, none⟩ = some (.int .i64 x128003_1)) (ds := [10]) #[false, false, false, false, false, false, false, false, false, false, false] (by kernel_rfl) rfl rfl ⟨(blk_cell BK127.out 0).trans rfl, (blk_cell BK127.out 1).trans rfl, (blk_cell BK127.out 2).trans rfl, (blk_cell BK127.out 3).trans rfl⟩ (fun hHeld => ?_); refine with_tabW corollaryref02_Back.tab4 corollaryref02_Back.bits4 (fun HT_ HW_ => ?_)
            generalize wr.drew = w15 at BK127 BK128 HB hHeld ⊢
            refine pure_ (i := 0) (N := some 9) (v := ?_) (a' := ?_) #[true, false, false, false, false, false, false, false, false, false, false] rfl rfl (any_of HT_.out (by kernel_rfl)) (fun _ _ _ h => h) (Or.inl ⟨by rfl, ?_⟩) ?_ ?_
            rotate_left
            · intro w'
              go_simp
              with_reducible rfl
            rotate_left
            · simp only [Act.put, List.setIfInBounds_toArray, List.set_cons_zero, List.set_cons_succ, i64_w, i32_w]
              rfl
            refine pure_ (i := 1) (N := some 10) (v := ?_) (a' := ?_) #[true, true, false, false, false, false, false, false, false, false, false] rfl rfl (any_of HT_.out (by kernel_rfl)) (fun _ _ _ h => h) (Or.inl ⟨by rfl, ?_⟩) ?_ ?_
            rotate_left
            · intro w'
              go_simp
              with_reducible rfl
            rotate_left
            · simp only [Act.put, List.setIfInBounds_toArray, List.set_cons_zero, List.set_cons_succ, i64_w, i32_w]
              rfl
            refine pure_ (i := 2) (N := some 11) (v := ?_) (a' := ?_) #[true, true, true, false, false, false, false, false, false, false, false] rfl rfl (any_of HT_.out (by kernel_rfl)) (fun _ _ _ h => h) (Or.inl ⟨by rfl, ?_⟩) ?_ ?_
            rotate_left
            · intro w'
              go_simp
              with_reducible rfl
            rotate_left
            · simp only [Act.put, List.setIfInBounds_toArray, List.set_cons_zero, List.set_cons_succ, i64_w, i32_w]
              rfl
            refine pure_ (i := 4) (N := some 13) (v := ?_) (a' := ?_) #[true, true, true, false, true, false, false, false, false, false, false] rfl rfl (any_of HT_.out (by kernel_rfl)) (fun _ _ _ h => h) (Or.inl ⟨by rfl, ?_⟩) ?_ ?_
            rotate_left
            · intro w'
              go_simp
              with_reducible rfl
            rotate_left
            · simp only [Act.put, List.setIfInBounds_toArray, List.set_cons_zero, List.set_cons_succ, i64_w, i32_w]
              rfl
            refine pure_ (i := 5) (N := some 14) (v := ?_) (a' := ?_) #[true, true, true, false, true, true, false, false, false, false, false] rfl rfl (any_of HT_.out (by kernel_rfl)) (fun _ _ _ h => h) (Or.inl ⟨by rfl, ?_⟩) ?_ ?_
            rotate_left
            · intro w'
              go_simp
              with_reducible rfl
            rotate_left
            · simp only [Act.put, List.setIfInBounds_toArray, List.set_cons_zero, List.set_cons_succ, i64_w, i32_w]
              rfl
            refine take_ (i := 3) (N := some 12) (v := ?_) (a' := ?_) #[true, true, true, true, true, true, false, false, false, false, false] rfl rfl (take_ofW HT_.out HW_.out (by kernel_rfl)) (fun _ _ _ h => h) (Or.inl ⟨by rfl, ?_⟩) hHeld ?_ ?_
            rotate_left
            · rintro w' ⟨s0, s1, s2, s3⟩
              go_simp
              with_reducible rfl
            rotate_left
            · simp only [Act.put, List.setIfInBounds_toArray, List.set_cons_zero, List.set_cons_succ, i64_w, i32_w]
              rfl
            refine take_ (i := 6) (N := some 15) (v := ?_) (a' := ?_) #[true, true, true, true, true, true, true, false, false, false, false] rfl rfl (take_ofW HT_.out HW_.out (by kernel_rfl)) (fun _ _ _ h => h) (Or.inl ⟨by rfl, ?_⟩) hHeld ?_ ?_
            rotate_left
            · rintro w' ⟨s0, s1, s2, s3⟩
              go_simp
              with_reducible rfl
            rotate_left
            · simp only [Act.put, List.setIfInBounds_toArray, List.set_cons_zero, List.set_cons_succ, i64_w, i32_w]
              rfl
            refine one_ (i := 7) (N := some 16) #[true, true, true, true, true, true, true, true, false, false, false] rfl rfl (one_of HT_.out (by kernel_rfl)) (by decide) (fun K hK => ?_)
            refine goes_ Try.func25 (by kernel_rfl) rfl #[.int .i64 x128001_1] (by rfl) rfl rfl (by (try simp only [List.map_toArray, List.map_cons, List.map_nil]); first | done | rfl | (simp only [List.length_drop, List.length_take]; rfl)) ?_
            with_reducible refine (corollaryref02_high.calls x128001_1 t131 _ A13.out).mono ?_
            rintro e w' ⟨rfl, ⟨nd, rfl⟩⟩
            refine ⟨_, rfl, ?_⟩
            refine hK.out _ _ ⟨(blk_cell BK127.out 0).trans rfl, (blk_cell BK127.out 1).trans rfl, (blk_cell BK127.out 2).trans rfl, (blk_cell BK127.out 3).trans rfl⟩ (fun hHeld => ?_)
            clear hK K
            refine norm_ (a' := ?_) ?_ ?_
            rotate_left
            · show Act.put _ (some 16) _ = _
              simp only [Act.put, List.setIfInBounds_toArray, List.set_cons_zero, List.set_cons_succ, i64_w, i32_w]
              rfl
            refine pure_ (i := 8) (N := some 17) (v := ?_) (a' := ?_) #[true, true, true, true, true, true, true, true, true, false, false] rfl rfl (any_of HT_.out (by kernel_rfl)) (fun _ _ _ h => h) (Or.inl ⟨by rfl, ?_⟩) ?_ ?_
            rotate_left
            · intro w'
              go_simp
              with_reducible rfl
            rotate_left
            · simp only [Act.put, List.setIfInBounds_toArray, List.set_cons_zero, List.set_cons_succ, i64_w, i32_w]
              rfl
            refine pure_ (i := 9) (N := some 18) (v := ?_) (a' := ?_) #[true, true, true, true, true, true, true, true, true, true, false] rfl rfl (any_of HT_.out (by kernel_rfl)) (fun _ _ _ h => h) (Or.inl ⟨by rfl, ?_⟩) ?_ ?_
            rotate_left
            · intro w'
              go_simp
              with_reducible rfl
            rotate_left
            · simp only [Act.put, List.setIfInBounds_toArray, List.set_cons_zero, List.set_cons_succ, i64_w, i32_w]
              rfl
            refine last_ (i := 10) (N := none) #[true, true, true, true, true, true, true, true, true, true, true] rfl rfl (one_of HT_.out (by kernel_rfl)) (by decide) (fun K hK => ?_)
            have hs16 : w15.cell? ⟨gb127, 2, none⟩ = some (.int .i64 x128002_1) := (blk_cell BK127.out 2).trans rfl
            have hfs16 := blk_frozen BK127.out 2
            have hns16_1 := NB128_127.out
            have hms16_1 := NB127_128.out
            refine skip_ (w1 := ?_) (by rfl) rfl ?_ ?_
            rotate_left
            · go_simp
              rfl
            refine hK.out _ _ ?_
            clear hK K
            refine done_ (done_of HT_.out (by kernel_rfl)) ?_
            have hnb17 := NB127_128.out
            have hnc17 := NB128_127.out
            have hcz18_0 : w15.cell? ⟨gb127, 0, none⟩ = some (.int .i64 x128000_1) := (blk_cell BK127.out 0).trans rfl
            have hcz18_1 : w15.cell? ⟨gb127, 1, none⟩ = some (.int .i64 x128001_1) := (blk_cell BK127.out 1).trans rfl
            have hcz18_2 : w15.cell? ⟨gb127, 2, none⟩ = some (.int .i64 x128002_1) := (blk_cell BK127.out 2).trans rfl
            have hcz18_3 : w15.cell? ⟨gb127, 3, none⟩ = some (.int .i64 x128003_1) := (blk_cell BK127.out 3).trans rfl
            have hfz18_0 := blk_frozen BK127.out 0
            have hfz18_1 := blk_frozen BK127.out 1
            have hfz18_2 := blk_frozen BK127.out 2
            have hfz18_3 := blk_frozen BK127.out 3
            try go_wp2_with (first | ((with_reducible refine gate_callee (f := 24) rfl ?_); refine goesL_ (some 23) rfl rfl Try.func24 (by kernel_rfl) rfl #[.int .i64 x128001_1] rfl (by (try simp only [List.map_toArray, List.map_cons, List.map_nil]); first | done | rfl | (simp only [List.length_drop, List.length_take]; rfl)) ?_; (with_reducible refine (corollaryref02_low.calls x128001_1 t132 _ A14.out).mono ?_); rintro e w' ⟨rfl, ⟨nd, rfl⟩⟩; refine ⟨_, rfl, ?_⟩))
            go_roundg k1
            case measure => have := HK1.out; omega
            case rel => exact ⟨(2), (x128000_1), (t132), (wrap64 (x128002_1 + t131)), (x128003_1), (by first | rfl | (simp; done) | (simp [*]; done)), H', ⟨by have := HK1.out; omega⟩, ⟨by (with_reducible repeat first | apply bN_ | apply bD_ | apply bA_); refine blk_put (cs := #[.int .i64 x128000_1, .int .i64 x128001_1, .int .i64 (wrap64 (x128002_1 + t131)), .int .i64 x128003_1]) ?_ 1 _ rfl; (with_reducible repeat first | apply bN_ | apply bD_ | apply bA_); refine blk_put (cs := #[.int .i64 x128000_1, .int .i64 x128001_1, .int .i64 x128002_1, .int .i64 x128003_1]) ?_ 2 _ rfl; (with_reducible repeat first | apply bN_ | apply bD_ | apply bA_); exact BK127.out⟩, ⟨by (with_reducible repeat first | apply bN_ | apply bD_ | apply bA_); refine blk_far ?_ NB128_127.out _; (with_reducible repeat first | apply bN_ | apply bD_ | apply bA_); refine blk_far ?_ NB128_127.out _; (with_reducible repeat first | apply bN_ | apply bD_ | apply bA_); exact BK128.out⟩, ⟨by repeat (first | (with_reducible first | exact HB.out | apply below_alloc | apply pw_below_drewN | apply below_drew1 | refine below_set ?_ GE127.out | refine below_set ?_ GE128.out) | exact HB.out)⟩⟩
          · rw [if_neg c12] at H
            clear c12
            by_cases c19 : x4_1 = 2
            · rw [if_pos c19] at H
              subst c19
              have wlc19_0 : wrap64 (-1) = (-1) := by (unfold wrap64; omega)
              have wlc19_1 : wrap64 0 = 0 := by (unfold wrap64; omega)
              have wlc19_2 : wrap64 1 = 1 := by (unfold wrap64; omega)
              have wlc19_3 : wrap64 2 = 2 := by (unfold wrap64; omega)
              have wlc19_4 : wrap64 3 = 3 := by (unfold wrap64; omega)
              have wlc19_5 : wrap64 4 = 4 := by (unfold wrap64; omega)
              replace H := Option.bind_eq_some_iff.mp H
              obtain ⟨t133, A200, H⟩ := H
              replace H : ((corollaryref02_low.f x128002_1).bind fun t134 => (corollaryref02_Back.l0 k1 3 x128000_1 x128001_1 t134 (wrap64 (x128003_1 + t133)))) = some (r1, r2, r3) := H
              have A20 := Aside0.mk A200
              clear A200
              replace H := Option.bind_eq_some_iff.mp H
              obtain ⟨t134, A210, H⟩ := H
              replace H : (corollaryref02_Back.l0 k1 3 x128000_1 x128001_1 t134 (wrap64 (x128003_1 + t133))) = some (r1, r2, r3) := H
              have A21 := Aside0.mk A210
              clear A210
              have H' := Aside0.mk H
              clear H
              try go_wp2
              have n0_ := Aside0.mk (blk_drew BK127.out)
              have n1_ := Aside0.mk (blk_drew BK128.out)
              have n2_ := Aside0.mk (below_drew1 HB.out)
              clear BK127
              clear BK128
              clear HB
              have BK127 := n0_
              have BK128 := n1_
              have HB := n2_
              clear n0_ n1_ n2_
              refine start_ (n := 11) (S := fun w' => w'.cell? ⟨gb127, 0, none⟩ = some (.int .i64 x128000_1) ∧ w'.cell? ⟨gb127, 1, none⟩ = some (.int .i64 x128001_1) ∧ w'.cell? ⟨gb127, 2, none⟩ = some (.int .i64 x128002_1) ∧ w'.cell? ⟨gb127, 3, none⟩ = some (.int .i64 x128003_1)) (ds := [10]) #[false, false, false, false, false, false, false, false, false, false, false] (by kernel_rfl) rfl rfl ⟨(blk_cell BK127.out 0).trans rfl, (blk_cell BK127.out 1).trans rfl, (blk_cell BK127.out 2).trans rfl, (blk_cell BK127.out 3).trans rfl⟩ (fun hHeld => ?_); refine with_tabW corollaryref02_Back.tab4 corollaryref02_Back.bits4 (fun HT_ HW_ => ?_)
              generalize wr.drew = w22 at BK127 BK128 HB hHeld ⊢
              refine pure_ (i := 0) (N := some 9) (v := ?_) (a' := ?_) #[true, false, false, false, false, false, false, false, false, false, false] rfl rfl (any_of HT_.out (by kernel_rfl)) (fun _ _ _ h => h) (Or.inl ⟨by rfl, ?_⟩) ?_ ?_
              rotate_left
              · intro w'
                go_simp
                with_reducible rfl
              rotate_left
              · simp only [Act.put, List.setIfInBounds_toArray, List.set_cons_zero, List.set_cons_succ, i64_w, i32_w]
                rfl
              refine pure_ (i := 1) (N := some 10) (v := ?_) (a' := ?_) #[true, true, false, false, false, false, false, false, false, false, false] rfl rfl (any_of HT_.out (by kernel_rfl)) (fun _ _ _ h => h) (Or.inl ⟨by rfl, ?_⟩) ?_ ?_
              rotate_left
              · intro w'
                go_simp
                with_reducible rfl
              rotate_left
              · simp only [Act.put, List.setIfInBounds_toArray, List.set_cons_zero, List.set_cons_succ, i64_w, i32_w]
                rfl
              refine pure_ (i := 2) (N := some 11) (v := ?_) (a' := ?_) #[true, true, true, false, false, false, false, false, false, false, false] rfl rfl (any_of HT_.out (by kernel_rfl)) (fun _ _ _ h => h) (Or.inl ⟨by rfl, ?_⟩) ?_ ?_
              rotate_left
              · intro w'
                go_simp
                with_reducible rfl
              rotate_left
              · simp only [Act.put, List.setIfInBounds_toArray, List.set_cons_zero, List.set_cons_succ, i64_w, i32_w]
                rfl
              refine pure_ (i := 4) (N := some 13) (v := ?_) (a' := ?_) #[true, true, true, false, true, false, false, false, false, false, false] rfl rfl (any_of HT_.out (by kernel_rfl)) (fun _ _ _ h => h) (Or.inl ⟨by rfl, ?_⟩) ?_ ?_
              rotate_left
              · intro w'
                go_simp
                with_reducible rfl
              rotate_left
              · simp only [Act.put, List.setIfInBounds_toArray, List.set_cons_zero, List.set_cons_succ, i64_w, i32_w]
                rfl
              refine pure_ (i := 5) (N := some 14) (v := ?_) (a' := ?_) #[true, true, true, false, true, true, false, false, false, false, false] rfl rfl (any_of HT_.out (by kernel_rfl)) (fun _ _ _ h => h) (Or.inl ⟨by rfl, ?_⟩) ?_ ?_
              rotate_left
              · intro w'
                go_simp
                with_reducible rfl
              rotate_left
              · simp only [Act.put, List.setIfInBounds_toArray, List.set_cons_zero, List.set_cons_succ, i64_w, i32_w]
                rfl
              refine take_ (i := 3) (N := some 12) (v := ?_) (a' := ?_) #[true, true, true, true, true, true, false, false, false, false, false] rfl rfl (take_ofW HT_.out HW_.out (by kernel_rfl)) (fun _ _ _ h => h) (Or.inl ⟨by rfl, ?_⟩) hHeld ?_ ?_
              rotate_left
              · rintro w' ⟨s0, s1, s2, s3⟩
                go_simp
                with_reducible rfl
              rotate_left
              · simp only [Act.put, List.setIfInBounds_toArray, List.set_cons_zero, List.set_cons_succ, i64_w, i32_w]
                rfl
              refine take_ (i := 6) (N := some 15) (v := ?_) (a' := ?_) #[true, true, true, true, true, true, true, false, false, false, false] rfl rfl (take_ofW HT_.out HW_.out (by kernel_rfl)) (fun _ _ _ h => h) (Or.inl ⟨by rfl, ?_⟩) hHeld ?_ ?_
              rotate_left
              · rintro w' ⟨s0, s1, s2, s3⟩
                go_simp
                with_reducible rfl
              rotate_left
              · simp only [Act.put, List.setIfInBounds_toArray, List.set_cons_zero, List.set_cons_succ, i64_w, i32_w]
                rfl
              refine one_ (i := 7) (N := some 16) #[true, true, true, true, true, true, true, true, false, false, false] rfl rfl (one_of HT_.out (by kernel_rfl)) (by decide) (fun K hK => ?_)
              refine goes_ Try.func25 (by kernel_rfl) rfl #[.int .i64 x128002_1] (by rfl) rfl rfl (by (try simp only [List.map_toArray, List.map_cons, List.map_nil]); first | done | rfl | (simp only [List.length_drop, List.length_take]; rfl)) ?_
              with_reducible refine (corollaryref02_high.calls x128002_1 t133 _ A20.out).mono ?_
              rintro e w' ⟨rfl, ⟨nd, rfl⟩⟩
              refine ⟨_, rfl, ?_⟩
              refine hK.out _ _ ⟨(blk_cell BK127.out 0).trans rfl, (blk_cell BK127.out 1).trans rfl, (blk_cell BK127.out 2).trans rfl, (blk_cell BK127.out 3).trans rfl⟩ (fun hHeld => ?_)
              clear hK K
              refine norm_ (a' := ?_) ?_ ?_
              rotate_left
              · show Act.put _ (some 16) _ = _
                simp only [Act.put, List.setIfInBounds_toArray, List.set_cons_zero, List.set_cons_succ, i64_w, i32_w]
                rfl
              refine pure_ (i := 8) (N := some 17) (v := ?_) (a' := ?_) #[true, true, true, true, true, true, true, true, true, false, false] rfl rfl (any_of HT_.out (by kernel_rfl)) (fun _ _ _ h => h) (Or.inl ⟨by rfl, ?_⟩) ?_ ?_
              rotate_left
              · intro w'
                go_simp
                with_reducible rfl
              rotate_left
              · simp only [Act.put, List.setIfInBounds_toArray, List.set_cons_zero, List.set_cons_succ, i64_w, i32_w]
                rfl
              refine pure_ (i := 9) (N := some 18) (v := ?_) (a' := ?_) #[true, true, true, true, true, true, true, true, true, true, false] rfl rfl (any_of HT_.out (by kernel_rfl)) (fun _ _ _ h => h) (Or.inl ⟨by rfl, ?_⟩) ?_ ?_
              rotate_left
              · intro w'
                go_simp
                with_reducible rfl
              rotate_left
              · simp only [Act.put, List.setIfInBounds_toArray, List.set_cons_zero, List.set_cons_succ, i64_w, i32_w]
                rfl
              refine last_ (i := 10) (N := none) #[true, true, true, true, true, true, true, true, true, true, true] rfl rfl (one_of HT_.out (by kernel_rfl)) (by decide) (fun K hK => ?_)
              have hs23 : w22.cell? ⟨gb127, 3, none⟩ = some (.int .i64 x128003_1) := (blk_cell BK127.out 3).trans rfl
              have hfs23 := blk_frozen BK127.out 3
              have hns23_1 := NB128_127.out
              have hms23_1 := NB127_128.out
              refine skip_ (w1 := ?_) (by rfl) rfl ?_ ?_
              rotate_left
              · go_simp
                rfl
              refine hK.out _ _ ?_
              clear hK K
              refine done_ (done_of HT_.out (by kernel_rfl)) ?_
              have hnb24 := NB127_128.out
              have hnc24 := NB128_127.out
              have hcz25_0 : w22.cell? ⟨gb127, 0, none⟩ = some (.int .i64 x128000_1) := (blk_cell BK127.out 0).trans rfl
              have hcz25_1 : w22.cell? ⟨gb127, 1, none⟩ = some (.int .i64 x128001_1) := (blk_cell BK127.out 1).trans rfl
              have hcz25_2 : w22.cell? ⟨gb127, 2, none⟩ = some (.int .i64 x128002_1) := (blk_cell BK127.out 2).trans rfl
              have hcz25_3 : w22.cell? ⟨gb127, 3, none⟩ = some (.int .i64 x128003_1) := (blk_cell BK127.out 3).trans rfl
              have hfz25_0 := blk_frozen BK127.out 0
              have hfz25_1 := blk_frozen BK127.out 1
              have hfz25_2 := blk_frozen BK127.out 2
              have hfz25_3 := blk_frozen BK127.out 3
              try go_wp2_with (first | ((with_reducible refine gate_callee (f := 24) rfl ?_); refine goesL_ (some 23) rfl rfl Try.func24 (by kernel_rfl) rfl #[.int .i64 x128002_1] rfl (by (try simp only [List.map_toArray, List.map_cons, List.map_nil]); first | done | rfl | (simp only [List.length_drop, List.length_take]; rfl)) ?_; (with_reducible refine (corollaryref02_low.calls x128002_1 t134 _ A21.out).mono ?_); rintro e w' ⟨rfl, ⟨nd, rfl⟩⟩; refine ⟨_, rfl, ?_⟩))
              go_roundg k1
              case measure => have := HK1.out; omega
              case rel => exact ⟨(3), (x128000_1), (x128001_1), (t134), (wrap64 (x128003_1 + t133)), (by first | rfl | (simp; done) | (simp [*]; done)), H', ⟨by have := HK1.out; omega⟩, ⟨by (with_reducible repeat first | apply bN_ | apply bD_ | apply bA_); refine blk_put (cs := #[.int .i64 x128000_1, .int .i64 x128001_1, .int .i64 x128002_1, .int .i64 (wrap64 (x128003_1 + t133))]) ?_ 2 _ rfl; (with_reducible repeat first | apply bN_ | apply bD_ | apply bA_); refine blk_put (cs := #[.int .i64 x128000_1, .int .i64 x128001_1, .int .i64 x128002_1, .int .i64 x128003_1]) ?_ 3 _ rfl; (with_reducible repeat first | apply bN_ | apply bD_ | apply bA_); exact BK127.out⟩, ⟨by (with_reducible repeat first | apply bN_ | apply bD_ | apply bA_); refine blk_far ?_ NB128_127.out _; (with_reducible repeat first | apply bN_ | apply bD_ | apply bA_); refine blk_far ?_ NB128_127.out _; (with_reducible repeat first | apply bN_ | apply bD_ | apply bA_); exact BK128.out⟩, ⟨by repeat (first | (with_reducible first | exact HB.out | apply below_alloc | apply pw_below_drewN | apply below_drew1 | refine below_set ?_ GE127.out | refine below_set ?_ GE128.out) | exact HB.out)⟩⟩
            · rw [if_neg c19] at H
              clear c19
              by_cases c26 : x4_1 = 3
              · rw [if_pos c26] at H
                subst c26
                have wlc26_0 : wrap64 (-1) = (-1) := by (unfold wrap64; omega)
                have wlc26_1 : wrap64 0 = 0 := by (unfold wrap64; omega)
                have wlc26_2 : wrap64 1 = 1 := by (unfold wrap64; omega)
                have wlc26_3 : wrap64 2 = 2 := by (unfold wrap64; omega)
                have wlc26_4 : wrap64 3 = 3 := by (unfold wrap64; omega)
                have wlc26_5 : wrap64 4 = 4 := by (unfold wrap64; omega)
                have wlc26_6 : wrap64 5 = 5 := by (unfold wrap64; omega)
                exact absurd H (by simp)
              · rw [if_neg c26] at H
                clear c26
                exact absurd H (by simp)
      · rw [if_neg c4] at H
        have c4b0 : decide (x4_1 < 3) = false := decide_eq_false c4
        clear c4
        by_cases c27 : x128003_1 < (-2147483648)
        · rw [if_pos c27] at H
          have c27b0 : decide (x128003_1 < (-2147483648)) = true := decide_eq_true c27
          clear c27
          simp only [Option.some.injEq, Prod.mk.injEq] at H
          obtain ⟨rfl, rfl, rfl⟩ := H
          have hnb28 := NB127_128.out
          have hnc28 := NB128_127.out
          have hcz29_0 : wr.cell? ⟨gb127, 0, none⟩ = some (.int .i64 x128000_1) := (blk_cell BK127.out 0).trans rfl
          have hcz29_1 : wr.cell? ⟨gb127, 1, none⟩ = some (.int .i64 x128001_1) := (blk_cell BK127.out 1).trans rfl
          have hcz29_2 : wr.cell? ⟨gb127, 2, none⟩ = some (.int .i64 x128002_1) := (blk_cell BK127.out 2).trans rfl
          have hcz29_3 : wr.cell? ⟨gb127, 3, none⟩ = some (.int .i64 x128003_1) := (blk_cell BK127.out 3).trans rfl
          have hfz29_0 := blk_frozen BK127.out 0
          have hfz29_1 := blk_frozen BK127.out 1
          have hfz29_2 := blk_frozen BK127.out 2
          have hfz29_3 := blk_frozen BK127.out 3
          have hcz30_0 : wr.cell? ⟨gb128, 0, none⟩ = some (.int .i64 0) := (blk_cell BK128.out 0).trans rfl
          have hcz30_1 : wr.cell? ⟨gb128, 1, none⟩ = some (.int .u64 0) := (blk_cell BK128.out 1).trans rfl
          have hfz30_0 := blk_frozen BK128.out 0
          have hfz30_1 := blk_frozen BK128.out 1
          go_wp2
          refine bodyPost_ret (results_ct rfl _ _ gb128 26 #[.int .i64 0, .int .u64 0] (0, 0) _ rfl (by (with_reducible repeat first | apply bN_ | apply bD_ | apply bA_); refine blk_put (cs := #[.int .i64 0, .int .u64 0]) ?_ 1 _ rfl; (with_reducible repeat first | apply bN_ | apply bD_ | apply bA_); refine blk_put (cs := #[.int .i64 0, .int .u64 0]) ?_ 0 _ rfl; (with_reducible repeat first | apply bN_ | apply bD_ | apply bA_); exact BK128.out) Try.underlying26 rfl (by kernel_rfl)) rfl ?_
          exact ⟨by first | rfl | (simp [errW_none, errW_some] <;> rfl) | (simp [*, errW_none, errW_some] <;> rfl), by repeat (first | (with_reducible first | exact HB.out | apply below_alloc | apply pw_below_drewN | apply below_drew1 | refine below_set ?_ GE127.out | refine below_set ?_ GE128.out) | exact HB.out)⟩
        · rw [if_neg c27] at H
          have c27b0 : decide (x128003_1 < (-2147483648)) = false := decide_eq_false c27
          clear c27
          by_cases c31 : x128003_1 > 2147483647
          · rw [if_pos c31] at H
            have c31b0 : decide (2147483647 < x128003_1) = true := decide_eq_true c31
            clear c31
            simp only [Option.some.injEq, Prod.mk.injEq] at H
            obtain ⟨rfl, rfl, rfl⟩ := H
            have hnb32 := NB127_128.out
            have hnc32 := NB128_127.out
            have hcz33_0 : wr.cell? ⟨gb127, 0, none⟩ = some (.int .i64 x128000_1) := (blk_cell BK127.out 0).trans rfl
            have hcz33_1 : wr.cell? ⟨gb127, 1, none⟩ = some (.int .i64 x128001_1) := (blk_cell BK127.out 1).trans rfl
            have hcz33_2 : wr.cell? ⟨gb127, 2, none⟩ = some (.int .i64 x128002_1) := (blk_cell BK127.out 2).trans rfl
            have hcz33_3 : wr.cell? ⟨gb127, 3, none⟩ = some (.int .i64 x128003_1) := (blk_cell BK127.out 3).trans rfl
            have hfz33_0 := blk_frozen BK127.out 0
            have hfz33_1 := blk_frozen BK127.out 1
            have hfz33_2 := blk_frozen BK127.out 2
            have hfz33_3 := blk_frozen BK127.out 3
            have hcz34_0 : wr.cell? ⟨gb128, 0, none⟩ = some (.int .i64 0) := (blk_cell BK128.out 0).trans rfl
            have hcz34_1 : wr.cell? ⟨gb128, 1, none⟩ = some (.int .u64 0) := (blk_cell BK128.out 1).trans rfl
            have hfz34_0 := blk_frozen BK128.out 0
            have hfz34_1 := blk_frozen BK128.out 1
            go_wp2
            refine bodyPost_ret (results_ct rfl _ _ gb128 26 #[.int .i64 0, .int .u64 0] (0, 0) _ rfl (by (with_reducible repeat first | apply bN_ | apply bD_ | apply bA_); refine blk_put (cs := #[.int .i64 0, .int .u64 0]) ?_ 1 _ rfl; (with_reducible repeat first | apply bN_ | apply bD_ | apply bA_); refine blk_put (cs := #[.int .i64 0, .int .u64 0]) ?_ 0 _ rfl; (with_reducible repeat first | apply bN_ | apply bD_ | apply bA_); exact BK128.out) Try.underlying26 rfl (by kernel_rfl)) rfl ?_
            exact ⟨by first | rfl | (simp [errW_none, errW_some] <;> rfl) | (simp [*, errW_none, errW_some] <;> rfl), by repeat (first | (with_reducible first | exact HB.out | apply below_alloc | apply pw_below_drewN | apply below_drew1 | refine below_set ?_ GE127.out | refine below_set ?_ GE128.out) | exact HB.out)⟩
          · rw [if_neg c31] at H
            have c31b0 : decide (2147483647 < x128003_1) = false := decide_eq_false c31
            clear c31
            simp only [Option.some.injEq, Prod.mk.injEq] at H
            obtain ⟨rfl, rfl, rfl⟩ := H
            have hnb35 := NB127_128.out
            have hnc35 := NB128_127.out
            have hcz36_0 : wr.cell? ⟨gb127, 0, none⟩ = some (.int .i64 x128000_1) := (blk_cell BK127.out 0).trans rfl
            have hcz36_1 : wr.cell? ⟨gb127, 1, none⟩ = some (.int .i64 x128001_1) := (blk_cell BK127.out 1).trans rfl
            have hcz36_2 : wr.cell? ⟨gb127, 2, none⟩ = some (.int .i64 x128002_1) := (blk_cell BK127.out 2).trans rfl
            have hcz36_3 : wr.cell? ⟨gb127, 3, none⟩ = some (.int .i64 x128003_1) := (blk_cell BK127.out 3).trans rfl
            have hfz36_0 := blk_frozen BK127.out 0
            have hfz36_1 := blk_frozen BK127.out 1
            have hfz36_2 := blk_frozen BK127.out 2
            have hfz36_3 := blk_frozen BK127.out 3
            have hcz37_0 : wr.cell? ⟨gb128, 0, none⟩ = some (.int .i64 0) := (blk_cell BK128.out 0).trans rfl
            have hcz37_1 : wr.cell? ⟨gb128, 1, none⟩ = some (.int .u64 0) := (blk_cell BK128.out 1).trans rfl
            have hfz37_0 := blk_frozen BK128.out 0
            have hfz37_1 := blk_frozen BK128.out 1
            go_wp2
            refine bodyPost_ret (results_ct rfl _ _ gb128 26 #[.int .i64 (wrap64 ((wrap64 (x128003_1 * 4294967296)) + x128002_1)), .int .u64 (IntKind.u64.wrap ((IntKind.u64.wrap ((IntKind.u64.wrap (x128001_1)) * 4294967296)) + (IntKind.u64.wrap (x128000_1))))] (0, 0) _ rfl (by (with_reducible repeat first | apply bN_ | apply bD_ | apply bA_); refine blk_put (cs := #[.int .i64 (wrap64 ((wrap64 (x128003_1 * 4294967296)) + x128002_1)), .int .u64 0]) ?_ 1 _ rfl; (with_reducible repeat first | apply bN_ | apply bD_ | apply bA_); refine blk_put (cs := #[.int .i64 0, .int .u64 0]) ?_ 0 _ rfl; (with_reducible repeat first | apply bN_ | apply bD_ | apply bA_); exact BK128.out) Try.underlying26 rfl (by kernel_rfl)) rfl ?_
            exact ⟨by first | rfl | (simp [errW_none, errW_some] <;> rfl) | (simp [*, errW_none, errW_some] <;> rfl), by repeat (first | (with_reducible first | exact HB.out | apply below_alloc | apply pw_below_drewN | apply below_drew1 | refine below_set ?_ GE127.out | refine below_set ?_ GE128.out) | exact HB.out)⟩

end Go.Proofs.Ytipcggfabjfobaa.P
