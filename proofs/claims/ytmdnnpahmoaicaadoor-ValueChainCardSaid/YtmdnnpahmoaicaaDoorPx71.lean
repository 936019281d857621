-- Written by our own program (wip/xprint) over the seat's translation. Lean checks it.
import Derived.Test.YtmdnnpahmoaicaaDoorPx0
import Derived.Test.YtmdnnpahmoaicaaDoorPx1
import Derived.Test.YtmdnnpahmoaicaaDoorPx48
import Derived.Test.YtmdnnpahmoaicaaDoorPx67
namespace Go.Proofs.YtmdnnpahmoaicaaDoor.P
open Go.RowKit Go.Proofs.YtmdnnpahmoaicaaDoorW.PrintWords Go.Proofs.YtmdnnpahmoaicaaDoorW.PrintLast Go.Proofs.YtmdnnpahmoaicaaDoorW.PrintMore
attribute [local go_sem] max2_int min2_mn max_two min_two max_three min_three max_four min_four   -- for this text's walks alone
set_option linter.unusedVariables false
set_option linter.unusedSimpArgs false


attribute [local go_sem high] eqA23
/-! ### corollarylaw01_ValueChain: function 9 -/
def corollarylaw01_ValueChain.j0 : Nat → Int → Int → Bool → Int → Int → ByteArray → Int → Int → ByteArray → Option (Bool)
  | 0, _, _, _, _, _, _, _, _, _ => none
  | k + 1, x7, x8, x28, x343000, x343001, x343002, x345000, x345001, x345002 => if x28 = true then (some false) else (if x7 > 0 then ((corollarylaw01_awake.f k).bind fun t348 => (some t348)) else (if x8 > 0 then ((corollarylaw01_awake.f k).bind fun t349 => (some t349)) else ((value_Compare.f k x343000 x343001 x343002 x345000 x345001 x345002).bind fun t350 => (if t350 ≤ 0 then ((corollarylaw01_awake.f k).bind fun t351 => (some t351)) else (some false)))))
def corollarylaw01_ValueChain.f (k : Nat) (a0_0 : Int) (a0_1 : Int) (a0_2 : ByteArray) (a1_0 : Int) (a1_1 : Int) (a1_2 : ByteArray) (a2_0 : Int) (a2_1 : Int) (a2_2 : ByteArray) : Option (Bool) := (value_Compare.f k a0_0 a0_1 a0_2 a1_0 a1_1 a1_2).bind fun t345 => ((value_Compare.f k a1_0 a1_1 a1_2 a2_0 a2_1 a2_2).bind fun t346 => ((value_Compare.f k a1_0 a1_1 a1_2 a0_0 a0_1 a0_2).bind fun t347 => (if t345 = (wrap64 (-t347)) then (corollarylaw01_ValueChain.j0 k t345 t346 ((t345 == 0) != (a0_0 == a1_0 && (a0_1 == a1_1 && (a0_2.toList == a1_2.toList)))) a0_0 a0_1 a0_2 a2_0 a2_1 a2_2) else (corollarylaw01_ValueChain.j0 k t345 t346 true a0_0 a0_1 a0_2 a2_0 a2_1 a2_2))))
theorem corollarylaw01_ValueChain.mono_l : ∀ k, (∀ y0 y1 y2 y3 y4 y5 y6 y7 y8, LeO (corollarylaw01_ValueChain.j0 k y0 y1 y2 y3 y4 y5 y6 y7 y8) (corollarylaw01_ValueChain.j0 (k + 1) y0 y1 y2 y3 y4 y5 y6 y7 y8))
  | 0 => fun _ _ _ _ _ _ _ _ _ r h => by simp [corollarylaw01_ValueChain.j0] at h
  | k + 1 => by
    have ih0 := corollarylaw01_ValueChain.mono_l k
    · intro y0 y1 y2 y3 y4 y5 y6 y7 y8
      unfold corollarylaw01_ValueChain.j0
      repeat' first
      | (with_reducible exact ih0 _ _ _ _ _ _ _ _ _)
      | (with_reducible exact corollarylaw01_awake.mono _)
      | (with_reducible exact value_Compare.mono _ _ _ _ _ _ _)
      | (with_reducible exact LeO.refl _)
      | (with_reducible exact LeO.none _)
      | (with_reducible refine LeO.ite ?_ ?_)
      | (with_reducible refine LeO.bind ?_ (fun _ => ?_))
      | exact ih0 _ _ _ _ _ _ _ _ _
      | exact corollarylaw01_awake.mono _
      | exact value_Compare.mono _ _ _ _ _ _ _
      | exact LeO.none _
      | refine LeO.ite ?_ ?_
      | refine LeO.bind ?_ (fun _ => ?_)
theorem corollarylaw01_ValueChain.mono : ∀ a0 a1 a2 a3 a4 a5 a6 a7 a8 k, LeO (corollarylaw01_ValueChain.f k a0 a1 a2 a3 a4 a5 a6 a7 a8) (corollarylaw01_ValueChain.f (k + 1) a0 a1 a2 a3 a4 a5 a6 a7 a8) := by
  intro a0 a1 a2 a3 a4 a5 a6 a7 a8 k
  have ih0 := corollarylaw01_ValueChain.mono_l k
  unfold corollarylaw01_ValueChain.f
  repeat' first
      | (with_reducible exact ih0 _ _ _ _ _ _ _ _ _)
      | (with_reducible exact corollarylaw01_awake.mono _)
      | (with_reducible exact value_Compare.mono _ _ _ _ _ _ _)
      | (with_reducible exact LeO.refl _)
      | (with_reducible exact LeO.none _)
      | (with_reducible refine LeO.ite ?_ ?_)
      | (with_reducible refine LeO.bind ?_ (fun _ => ?_))
      | exact ih0 _ _ _ _ _ _ _ _ _
      | exact corollarylaw01_awake.mono _
      | exact value_Compare.mono _ _ _ _ _ _ _
      | exact LeO.none _
      | refine LeO.ite ?_ ?_
      | refine LeO.bind ?_ (fun _ => ?_)
def corollarylaw01_ValueChain.T1 : Bool × List (List Nat × List Nat) := (true, [([], []), ([], []), ([0, 1], [0, 1]), ([], []), ([], []), ([3, 4, 2], [3, 4]), ([2, 5, 0, 1, 2], [2]), ([5, 6, 0, 1, 2, 3, 4, 5, 6], [5])])
def corollarylaw01_ValueChain.B1 : List Nat := [0, 0, 3, 0, 0, 31, 63, 127]
theorem corollarylaw01_ValueChain.tab1 : rtab .any (opsOf Tryd.f9 1) = corollarylaw01_ValueChain.T1 := by kernel_rfl
theorem corollarylaw01_ValueChain.bits1 : waitsOk corollarylaw01_ValueChain.T1.2 corollarylaw01_ValueChain.B1 = true := by kernel_rfl
set_option maxHeartbeats 8000000 in
set_option maxRecDepth 100000 in
theorem corollarylaw01_ValueChain.calls (k : Nat) (a0_0 : Int) (a0_1 : Int) (a0_2 : ByteArray) (a1_0 : Int) (a1_1 : Int) (a1_2 : ByteArray) (a2_0 : Int) (a2_1 : Int) (a2_2 : ByteArray) (r : Bool) (w : World) (h : corollarylaw01_ValueChain.f k a0_0 a0_1 a0_2 a1_0 a1_1 a1_2 a2_0 a2_1 a2_2 = some r) (hG : Glob w) :
    Calls Tryd.prog 9 #[.agg #[.int .i64 a0_0, .int .i64 a0_1, .string a0_2], .agg #[.int .i64 a1_0, .int .i64 a1_1, .string a1_2], .agg #[.int .i64 a2_0, .int .i64 a2_1, .string a2_2]] w fun e w' => e = .returned (.bool r) ∧ Below w.heap.size w w' := by
  have hu23 := Tryd.underlying23
  have HG := Aside0.mk hG
  clear hG
  have HB := Aside0.mk (Below.refl w.heap.size w)
  have H : ((value_Compare.f k a0_0 a0_1 a0_2 a1_0 a1_1 a1_2).bind fun t345 => ((value_Compare.f k a1_0 a1_1 a1_2 a2_0 a2_1 a2_2).bind fun t346 => ((value_Compare.f k a1_0 a1_1 a1_2 a0_0 a0_1 a0_2).bind fun t347 => (if t345 = (wrap64 (-t347)) then (corollarylaw01_ValueChain.j0 k t345 t346 ((t345 == 0) != (a0_0 == a1_0 && (a0_1 == a1_1 && (a0_2.toList == a1_2.toList)))) a0_0 a0_1 a0_2 a2_0 a2_1 a2_2) else (corollarylaw01_ValueChain.j0 k t345 t346 true a0_0 a0_1 a0_2 a2_0 a2_1 a2_2))))) = some r := h
  clear h
  replace H := Option.bind_eq_some_iff.mp H
  obtain ⟨t345, A40, H⟩ := H
  replace H : ((value_Compare.f k a1_0 a1_1 a1_2 a2_0 a2_1 a2_2).bind fun t346 => ((value_Compare.f k a1_0 a1_1 a1_2 a0_0 a0_1 a0_2).bind fun t347 => (if t345 = (wrap64 (-t347)) then (corollarylaw01_ValueChain.j0 k t345 t346 ((t345 == 0) != (a0_0 == a1_0 && (a0_1 == a1_1 && (a0_2.toList == a1_2.toList)))) a0_0 a0_1 a0_2 a2_0 a2_1 a2_2) else (corollarylaw01_ValueChain.j0 k t345 t346 true a0_0 a0_1 a0_2 a2_0 a2_1 a2_2)))) = some r := H
  have A4 := Aside0.mk A40
  clear A40
  replace H := Option.bind_eq_some_iff.mp H
  obtain ⟨t346, A50, H⟩ := H
  replace H : ((value_Compare.f k a1_0 a1_1 a1_2 a0_0 a0_1 a0_2).bind fun t347 => (if t345 = (wrap64 (-t347)) then (corollarylaw01_ValueChain.j0 k t345 t346 ((t345 == 0) != (a0_0 == a1_0 && (a0_1 == a1_1 && (a0_2.toList == a1_2.toList)))) a0_0 a0_1 a0_2 a2_0 a2_1 a2_2) else (corollarylaw01_ValueChain.j0 k t345 t346 true a0_0 a0_1 a0_2 a2_0 a2_1 a2_2))) = some r := H
  have A5 := Aside0.mk A50
  clear A50
  have HC6 := Aside0.mk H
  clear H
  go_enter Tryd.func9, Tryd.ntmps9
  try go_wp2_with (first | ((with_reducible refine gate_dst (N := 3) rfl ?_); refine box_event ?hg (N := 3) ?hd (cs := #[.int .i64 a0_0, .int .i64 a0_1, .string a0_2]) (t := 23) ?hr ?_; (case hd => rfl); (case hg => rfl); (case hr => first | (go_simp; done) | (go_simp; rfl)); intro gb342 hg w7 hbox hb; have n0_ := Aside0.mk (below_step q0_ hb); have n1_ := Aside0.mk (hbox); have n2_ := Aside0.mk ((q1_ : w.heap.size ≤ gb342)); have n3_ := Aside0.mk ((q1_ : w.heap.size ≤ gb342)); clear HB; have HB := n0_; have BK342 := n1_; have GW342 := n2_; have GE342 := n3_; clear n0_ n1_ n2_ n3_; clear hb hbox hg) | ((with_reducible refine gate_dst (N := 4) rfl ?_); refine box_event ?hg (N := 4) ?hd (cs := #[.int .i64 a1_0, .int .i64 a1_1, .string a1_2]) (t := 23) ?hr ?_; (case hd => rfl); (case hg => rfl); (case hr => first | (go_simp; done) | (go_simp; rfl)); intro gb343 hg w8 hbox hb; have n0_ := Aside0.mk (blk_below (g := gb342) (o := .cells #[.int .i64 a0_0, .int .i64 a0_1, .string a0_2] 23 (0, 0)) q46_ hb); have n1_ := Aside0.mk (below_step q0_ hb); have n2_ := Aside0.mk (hbox); have n3_ := Aside0.mk ((q1_ : w.heap.size ≤ gb343)); have n4_ := Aside0.mk ((q1_ : w.heap.size ≤ gb343)); have n5_ := Aside0.mk ((q103_ : gb342 ≠ gb343)); have n6_ := Aside0.mk ((q105_ : gb343 ≠ gb342)); clear BK342; clear HB; have BK342 := n0_; have HB := n1_; have BK343 := n2_; have GW343 := n3_; have GE343 := n4_; have NB342_343 := n5_; have NB343_342 := n6_; clear n0_ n1_ n2_ n3_ n4_ n5_ n6_; clear hb hbox hg) | ((with_reducible refine gate_dst (N := 5) rfl ?_); refine box_event ?hg (N := 5) ?hd (cs := #[.int .i64 a2_0, .int .i64 a2_1, .string a2_2]) (t := 23) ?hr ?_; (case hd => rfl); (case hg => rfl); (case hr => first | (go_simp; done) | (go_simp; rfl)); intro gb344 hg w9 hbox hb; have n0_ := Aside0.mk (blk_below (g := gb342) (o := .cells #[.int .i64 a0_0, .int .i64 a0_1, .string a0_2] 23 (0, 0)) q46_ hb); have n1_ := Aside0.mk (blk_below (g := gb343) (o := .cells #[.int .i64 a1_0, .int .i64 a1_1, .string a1_2] 23 (0, 0)) q60_ hb); have n2_ := Aside0.mk (below_step q0_ hb); have n3_ := Aside0.mk (hbox); have n4_ := Aside0.mk ((q1_ : w.heap.size ≤ gb344)); have n5_ := Aside0.mk ((q1_ : w.heap.size ≤ gb344)); have n6_ := Aside0.mk ((q103_ : gb342 ≠ gb344)); have n7_ := Aside0.mk ((q105_ : gb344 ≠ gb342)); have n8_ := Aside0.mk ((by rw [hg]; exact Nat.ne_of_lt (blk_lt (g := gb343) (o := .cells #[.int .i64 a1_0, .int .i64 a1_1, .string a1_2] 23 (0, 0)) q60_) : gb343 ≠ gb344)); have n9_ := Aside0.mk ((by rw [hg]; exact Nat.ne_of_gt (blk_lt (g := gb343) (o := .cells #[.int .i64 a1_0, .int .i64 a1_1, .string a1_2] 23 (0, 0)) q60_) : gb344 ≠ gb343)); clear BK342; clear BK343; clear HB; have BK342 := n0_; have BK343 := n1_; have HB := n2_; have BK344 := n3_; have GW344 := n4_; have GE344 := n5_; have NB342_344 := n6_; have NB344_342 := n7_; have NB343_344 := n8_; have NB344_343 := n9_; clear n0_ n1_ n2_ n3_ n4_ n5_ n6_ n7_ n8_ n9_; clear hb hbox hg))
  have n0_ := Aside0.mk (blk_drew BK342.out)
  have n1_ := Aside0.mk (blk_drew BK343.out)
  have n2_ := Aside0.mk (blk_drew BK344.out)
  have n3_ := Aside0.mk (below_drew1 HB.out)
  clear BK342
  clear BK343
  clear BK344
  clear HB
  have BK342 := n0_
  have BK343 := n1_
  have BK344 := n2_
  have HB := n3_
  clear n0_ n1_ n2_ n3_
  refine start_ (n := 8) (S := fun w' => w'.cell? ⟨gb342, 0, none⟩ = some (.int .i64 a0_0) ∧ w'.cell? ⟨gb342, 1, none⟩ = some (.int .i64 a0_1) ∧ w'.cell? ⟨gb342, 2, none⟩ = some (.string a0_2) ∧ w'.cell? ⟨gb343, 0, none⟩ = some (.int .i64 a1_0) ∧ w'.cell? ⟨gb343, 1, none⟩ = some (.int .i64 a1_1) ∧ w'.cell? ⟨gb343, 2, none⟩ = some (.string a1_2) ∧ w'.cell? ⟨gb344, 0, none⟩ = some (.int .i64 a2_0) ∧ w'.cell? ⟨gb344, 1, none⟩ = some (.int .i64 a2_1) ∧ w'.cell? ⟨gb344, 2, none⟩ = some (.string a2_2)) (ds := []) #[false, false, false, false, false, false, false, false] (by kernel_rfl) rfl rfl ⟨(blk_cell BK342.out 0).trans rfl, (blk_cell BK342.out 1).trans rfl, (blk_cell BK342.out 2).trans rfl, (blk_cell BK343.out 0).trans rfl, (blk_cell BK343.out 1).trans rfl, (blk_cell BK343.out 2).trans rfl, (blk_cell BK344.out 0).trans rfl, (blk_cell BK344.out 1).trans rfl, (blk_cell BK344.out 2).trans rfl⟩ (fun hHeld => ?_); refine with_tabW corollarylaw01_ValueChain.tab1 corollarylaw01_ValueChain.bits1 (fun HT_ HW_ => ?_)
  generalize w9.drew = w10 at BK342 BK343 BK344 HB hHeld ⊢
  refine take_ (i := 0) (N := some 9) (v := ?_) (a' := ?_) #[true, false, false, false, false, false, false, false] rfl rfl (take_ofW HT_.out HW_.out (by kernel_rfl)) (fun _ _ _ h => h) (Or.inl ⟨by rfl, ?_⟩) hHeld ?_ ?_
  rotate_left
  · rintro w' ⟨s0, s1, s2, s3, s4, s5, s6, s7, s8⟩
    go_simp
    with_reducible rfl
  rotate_left
  · simp only [Act.put, List.setIfInBounds_toArray, List.set_cons_zero, List.set_cons_succ, i64_w, i32_w]
    rfl
  refine take_ (i := 1) (N := some 10) (v := ?_) (a' := ?_) #[true, true, false, false, false, false, false, false] rfl rfl (take_ofW HT_.out HW_.out (by kernel_rfl)) (fun _ _ _ h => h) (Or.inl ⟨by rfl, ?_⟩) hHeld ?_ ?_
  rotate_left
  · rintro w' ⟨s0, s1, s2, s3, s4, s5, s6, s7, s8⟩
    go_simp
    with_reducible rfl
  rotate_left
  · simp only [Act.put, List.setIfInBounds_toArray, List.set_cons_zero, List.set_cons_succ, i64_w, i32_w]
    rfl
  refine take_ (i := 3) (N := some 12) (v := ?_) (a' := ?_) #[true, true, false, true, false, false, false, false] rfl rfl (take_ofW HT_.out HW_.out (by kernel_rfl)) (fun _ _ _ h => h) (Or.inl ⟨by rfl, ?_⟩) hHeld ?_ ?_
  rotate_left
  · rintro w' ⟨s0, s1, s2, s3, s4, s5, s6, s7, s8⟩
    go_simp
    with_reducible rfl
  rotate_left
  · simp only [Act.put, List.setIfInBounds_toArray, List.set_cons_zero, List.set_cons_succ, i64_w, i32_w]
    rfl
  refine take_ (i := 4) (N := some 13) (v := ?_) (a' := ?_) #[true, true, false, true, true, false, false, false] rfl rfl (take_ofW HT_.out HW_.out (by kernel_rfl)) (fun _ _ _ h => h) (Or.inl ⟨by rfl, ?_⟩) hHeld ?_ ?_
  rotate_left
  · rintro w' ⟨s0, s1, s2, s3, s4, s5, s6, s7, s8⟩
    go_simp
    with_reducible rfl
  rotate_left
  · simp only [Act.put, List.setIfInBounds_toArray, List.set_cons_zero, List.set_cons_succ, i64_w, i32_w]
    rfl
  refine one_ (i := 2) (N := some 11) #[true, true, true, true, true, false, false, false] rfl rfl (one_of HT_.out (by kernel_rfl)) (by decide) (fun K hK => ?_)
  refine goes_ Tryd.func23 (by kernel_rfl) rfl #[.agg #[.int .i64 a0_0, .int .i64 a0_1, .string a0_2], .agg #[.int .i64 a1_0, .int .i64 a1_1, .string a1_2]] (by rfl) rfl rfl q2_ ?_
  with_reducible refine (value_Compare.calls k a0_0 a0_1 a0_2 a1_0 a1_1 a1_2 t345 _ A4.out).mono ?_
  rintro e w11 ⟨rfl, hb⟩
  refine ⟨_, rfl, ?_⟩
  have n0_ := Aside0.mk (blk_below (g := gb342) (o := .cells #[.int .i64 a0_0, .int .i64 a0_1, .string a0_2] 23 (0, 0)) q46_ hb)
  have n1_ := Aside0.mk (blk_below (g := gb343) (o := .cells #[.int .i64 a1_0, .int .i64 a1_1, .string a1_2] 23 (0, 0)) q60_ hb)
  have n2_ := Aside0.mk (blk_below (g := gb344) (o := .cells #[.int .i64 a2_0, .int .i64 a2_1, .string a2_2] 23 (0, 0)) q72_ hb)
  have n3_ := Aside0.mk (below_step q0_ hb)
  clear BK342
  clear BK343
  clear BK344
  clear HB
  have BK342 := n0_
  have BK343 := n1_
  have BK344 := n2_
  have HB := n3_
  clear n0_ n1_ n2_ n3_
  (try clear hb)
  (try clear hb2)
  (try clear hk)
  (try clear hi)
  refine hK.out _ _ ⟨(blk_cell BK342.out 0).trans rfl, (blk_cell BK342.out 1).trans rfl, (blk_cell BK342.out 2).trans rfl, (blk_cell BK343.out 0).trans rfl, (blk_cell BK343.out 1).trans rfl, (blk_cell BK343.out 2).trans rfl, (blk_cell BK344.out 0).trans rfl, (blk_cell BK344.out 1).trans rfl, (blk_cell BK344.out 2).trans rfl⟩ (fun hHeld => ?_)
  clear hK K
  refine norm_ (a' := ?_) ?_ ?_
  rotate_left
  · show Act.put _ (some 11) _ = _
    simp only [Act.put, List.setIfInBounds_toArray, List.set_cons_zero, List.set_cons_succ, i64_w, i32_w]
    rfl
  refine one_ (i := 5) (N := some 14) #[true, true, true, true, true, true, false, false] rfl rfl (one_of HT_.out (by kernel_rfl)) (by decide) (fun K hK => ?_)
  refine goes_ Tryd.func23 (by kernel_rfl) rfl #[.agg #[.int .i64 a1_0, .int .i64 a1_1, .string a1_2], .agg #[.int .i64 a2_0, .int .i64 a2_1, .string a2_2]] (by rfl) rfl rfl q2_ ?_
  with_reducible refine (value_Compare.calls k a1_0 a1_1 a1_2 a2_0 a2_1 a2_2 t346 _ A5.out).mono ?_
  rintro e w12 ⟨rfl, hb⟩
  refine ⟨_, rfl, ?_⟩
  have n0_ := Aside0.mk (blk_below (g := gb342) (o := .cells #[.int .i64 a0_0, .int .i64 a0_1, .string a0_2] 23 (0, 0)) q46_ hb)
  have n1_ := Aside0.mk (blk_below (g := gb343) (o := .cells #[.int .i64 a1_0, .int .i64 a1_1, .string a1_2] 23 (0, 0)) q60_ hb)
  have n2_ := Aside0.mk (blk_below (g := gb344) (o := .cells #[.int .i64 a2_0, .int .i64 a2_1, .string a2_2] 23 (0, 0)) q72_ hb)
  have n3_ := Aside0.mk (below_step q0_ hb)
  clear BK342
  clear BK343
  clear BK344
  clear HB
  have BK342 := n0_
  have BK343 := n1_
  have BK344 := n2_
  have HB := n3_
  clear n0_ n1_ n2_ n3_
  (try clear hb)
  (try clear hb2)
  (try clear hk)
  (try clear hi)
  refine hK.out _ _ ⟨(blk_cell BK342.out 0).trans rfl, (blk_cell BK342.out 1).trans rfl, (blk_cell BK342.out 2).trans rfl, (blk_cell BK343.out 0).trans rfl, (blk_cell BK343.out 1).trans rfl, (blk_cell BK343.out 2).trans rfl, (blk_cell BK344.out 0).trans rfl, (blk_cell BK344.out 1).trans rfl, (blk_cell BK344.out 2).trans rfl⟩ (fun hHeld => ?_)
  clear hK K
  refine norm_ (a' := ?_) ?_ ?_
  rotate_left
  · show Act.put _ (some 14) _ = _
    simp only [Act.put, List.setIfInBounds_toArray, List.set_cons_zero, List.set_cons_succ, i64_w, i32_w]
    rfl
  refine pure_ (i := 6) (N := some 7) (v := ?_) (a' := ?_) #[true, true, true, true, true, true, true, false] rfl rfl (any_of HT_.out (by kernel_rfl)) (fun _ _ _ h => h) (Or.inl ⟨by rfl, ?_⟩) ?_ ?_
  rotate_left
  · intro w'
    go_simp
    with_reducible rfl
  rotate_left
  · simp only [Act.put, List.setIfInBounds_toArray, List.set_cons_zero, List.set_cons_succ, i64_w, i32_w]
    rfl
  refine pure_ (i := 7) (N := some 8) (v := ?_) (a' := ?_) #[true, true, true, true, true, true, true, true] rfl rfl (any_of HT_.out (by kernel_rfl)) (fun _ _ _ h => h) (Or.inl ⟨by rfl, ?_⟩) ?_ ?_
  rotate_left
  · intro w'
    go_simp
    with_reducible rfl
  rotate_left
  · simp only [Act.put, List.setIfInBounds_toArray, List.set_cons_zero, List.set_cons_succ, i64_w, i32_w]
    rfl
  refine done_ (done_of HT_.out (by kernel_rfl)) ?_
  go_upto_region 2 with (fail)
  go_cut [28] (fun v28 wc => ∃ (kq : Nat) (x28_5 : Bool), v28 = .bool x28_5 ∧ Aside0 (corollarylaw01_ValueChain.j0 kq t345 t346 x28_5 a0_0 a0_1 a0_2 a2_0 a2_1 a2_2 = some r) ∧ Aside0 (kq ≤ k) ∧ Aside0 (wc.heap[gb342]? = some (.cells #[.int .i64 a0_0, .int .i64 a0_1, .string a0_2] 23 (0, 0))) ∧ Aside0 (wc.heap[gb343]? = some (.cells #[.int .i64 a1_0, .int .i64 a1_1, .string a1_2] 23 (0, 0))) ∧ Aside0 (wc.heap[gb344]? = some (.cells #[.int .i64 a2_0, .int .i64 a2_1, .string a2_2] 23 (0, 0))) ∧ Aside0 (Below w.heap.size w wc))
  case first =>
    have H := HC6.out
    clear HC6
    replace H := Option.bind_eq_some_iff.mp H
    obtain ⟨t347, A130, H⟩ := H
    replace H : (if t345 = (wrap64 (-t347)) then (corollarylaw01_ValueChain.j0 k t345 t346 ((t345 == 0) != (a0_0 == a1_0 && (a0_1 == a1_1 && (a0_2.toList == a1_2.toList)))) a0_0 a0_1 a0_2 a2_0 a2_1 a2_2) else (corollarylaw01_ValueChain.j0 k t345 t346 true a0_0 a0_1 a0_2 a2_0 a2_1 a2_2)) = some r := H
    have A13 := Aside0.mk A130
    clear A130
    by_cases c14 : t345 = (wrap64 (-t347))
    · rw [if_pos c14] at H
      have c14b0 : (t345 == (wrap64 (-t347))) = true := beq_iff_eq.mpr c14
      have c14b1 : (t345 != (wrap64 (-t347))) = false := bne_eq_false_iff_eq.mpr c14
      clear c14
      (first | rw [c14b0] | (simp only [i64_w, i32_w]; rw [c14b0]) | skip)
      have H' := Aside0.mk H
      clear H
      have hnb15 := NB343_342.out
      have hnc15 := NB342_343.out
      have hnb16 := NB343_344.out
      have hnc16 := NB344_343.out
      have hcz17_0 : w12.cell? ⟨gb343, 0, none⟩ = some (.int .i64 a1_0) := (blk_cell BK343.out 0).trans rfl
      have hcz17_1 : w12.cell? ⟨gb343, 1, none⟩ = some (.int .i64 a1_1) := (blk_cell BK343.out 1).trans rfl
      have hcz17_2 : w12.cell? ⟨gb343, 2, none⟩ = some (.string a1_2) := (blk_cell BK343.out 2).trans rfl
      have hfz17_0 := blk_frozen BK343.out 0
      have hfz17_1 := blk_frozen BK343.out 1
      have hfz17_2 := blk_frozen BK343.out 2
      have hnb18 := NB342_344.out
      have hnc18 := NB344_342.out
      have hcz19_0 : w12.cell? ⟨gb342, 0, none⟩ = some (.int .i64 a0_0) := (blk_cell BK342.out 0).trans rfl
      have hcz19_1 : w12.cell? ⟨gb342, 1, none⟩ = some (.int .i64 a0_1) := (blk_cell BK342.out 1).trans rfl
      have hcz19_2 : w12.cell? ⟨gb342, 2, none⟩ = some (.string a0_2) := (blk_cell BK342.out 2).trans rfl
      have hfz19_0 := blk_frozen BK342.out 0
      have hfz19_1 := blk_frozen BK342.out 1
      have hfz19_2 := blk_frozen BK342.out 2
      go_wp2_with (first | ((with_reducible refine gate_callee (f := 23) rfl ?_); refine goesL_ (some 18) rfl rfl Tryd.func23 (by kernel_rfl) rfl #[.agg #[.int .i64 a1_0, .int .i64 a1_1, .string a1_2], .agg #[.int .i64 a0_0, .int .i64 a0_1, .string a0_2]] rfl q2_ ?_; (with_reducible refine (value_Compare.calls k a1_0 a1_1 a1_2 a0_0 a0_1 a0_2 t347 _ A13.out).mono ?_); rintro e w20 ⟨rfl, hb⟩; refine ⟨_, rfl, ?_⟩; have n0_ := Aside0.mk (blk_below (g := gb342) (o := .cells #[.int .i64 a0_0, .int .i64 a0_1, .string a0_2] 23 (0, 0)) q46_ hb); have n1_ := Aside0.mk (blk_below (g := gb343) (o := .cells #[.int .i64 a1_0, .int .i64 a1_1, .string a1_2] 23 (0, 0)) q60_ hb); have n2_ := Aside0.mk (blk_below (g := gb344) (o := .cells #[.int .i64 a2_0, .int .i64 a2_1, .string a2_2] 23 (0, 0)) q72_ hb); have n3_ := Aside0.mk (below_step q0_ hb); clear BK342; clear BK343; clear BK344; clear HB; have BK342 := n0_; have BK343 := n1_; have BK344 := n2_; have HB := n3_; clear n0_ n1_ n2_ n3_; (try clear hb); (try clear hb2); (try clear hk); (try clear hi); have hcz21_0 : w20.cell? ⟨gb342, 0, none⟩ = some (.int .i64 a0_0) := (blk_cell BK342.out 0).trans rfl; have hcz21_1 : w20.cell? ⟨gb342, 1, none⟩ = some (.int .i64 a0_1) := (blk_cell BK342.out 1).trans rfl; have hcz21_2 : w20.cell? ⟨gb342, 2, none⟩ = some (.string a0_2) := (blk_cell BK342.out 2).trans rfl; have hfz21_0 := blk_frozen BK342.out 0; have hfz21_1 := blk_frozen BK342.out 1; have hfz21_2 := blk_frozen BK342.out 2; have hcz22_0 : w20.cell? ⟨gb343, 0, none⟩ = some (.int .i64 a1_0) := (blk_cell BK343.out 0).trans rfl; have hcz22_1 : w20.cell? ⟨gb343, 1, none⟩ = some (.int .i64 a1_1) := (blk_cell BK343.out 1).trans rfl; have hcz22_2 : w20.cell? ⟨gb343, 2, none⟩ = some (.string a1_2) := (blk_cell BK343.out 2).trans rfl; have hfz22_0 := blk_frozen BK343.out 0; have hfz22_1 := blk_frozen BK343.out 1; have hfz22_2 := blk_frozen BK343.out 2))
      go_meet
      case rel => exact ⟨_, (((t345 == 0) != (a0_0 == a1_0 && (a0_1 == a1_1 && (a0_2.toList == a1_2.toList))))), q5_, H', ⟨by first | omega | exact Nat.le_refl _⟩, ⟨q46_⟩, ⟨q60_⟩, ⟨q72_⟩, ⟨q0_⟩⟩
    · rw [if_neg c14] at H
      have c14b0 : (t345 == (wrap64 (-t347))) = false := beq_eq_false_iff_ne.mpr c14
      have c14b1 : (t345 != (wrap64 (-t347))) = true := bne_iff_ne.mpr c14
      (first | rw [c14b0] | (simp only [i64_w, i32_w]; rw [c14b0]) | skip)
      have H' := Aside0.mk H
      clear H
      have hnb23 := NB343_342.out
      have hnc23 := NB342_343.out
      have hnb24 := NB343_344.out
      have hnc24 := NB344_343.out
      have hcz25_0 : w12.cell? ⟨gb343, 0, none⟩ = some (.int .i64 a1_0) := (blk_cell BK343.out 0).trans rfl
      have hcz25_1 : w12.cell? ⟨gb343, 1, none⟩ = some (.int .i64 a1_1) := (blk_cell BK343.out 1).trans rfl
      have hcz25_2 : w12.cell? ⟨gb343, 2, none⟩ = some (.string a1_2) := (blk_cell BK343.out 2).trans rfl
      have hfz25_0 := blk_frozen BK343.out 0
      have hfz25_1 := blk_frozen BK343.out 1
      have hfz25_2 := blk_frozen BK343.out 2
      have hnb26 := NB342_344.out
      have hnc26 := NB344_342.out
      have hcz27_0 : w12.cell? ⟨gb342, 0, none⟩ = some (.int .i64 a0_0) := (blk_cell BK342.out 0).trans rfl
      have hcz27_1 : w12.cell? ⟨gb342, 1, none⟩ = some (.int .i64 a0_1) := (blk_cell BK342.out 1).trans rfl
      have hcz27_2 : w12.cell? ⟨gb342, 2, none⟩ = some (.string a0_2) := (blk_cell BK342.out 2).trans rfl
      have hfz27_0 := blk_frozen BK342.out 0
      have hfz27_1 := blk_frozen BK342.out 1
      have hfz27_2 := blk_frozen BK342.out 2
      go_wp2_with (first | ((with_reducible refine gate_callee (f := 23) rfl ?_); refine goesL_ (some 18) rfl rfl Tryd.func23 (by kernel_rfl) rfl #[.agg #[.int .i64 a1_0, .int .i64 a1_1, .string a1_2], .agg #[.int .i64 a0_0, .int .i64 a0_1, .string a0_2]] rfl q2_ ?_; (with_reducible refine (value_Compare.calls k a1_0 a1_1 a1_2 a0_0 a0_1 a0_2 t347 _ A13.out).mono ?_); rintro e w28 ⟨rfl, hb⟩; refine ⟨_, rfl, ?_⟩; have n0_ := Aside0.mk (blk_below (g := gb342) (o := .cells #[.int .i64 a0_0, .int .i64 a0_1, .string a0_2] 23 (0, 0)) q46_ hb); have n1_ := Aside0.mk (blk_below (g := gb343) (o := .cells #[.int .i64 a1_0, .int .i64 a1_1, .string a1_2] 23 (0, 0)) q60_ hb); have n2_ := Aside0.mk (blk_below (g := gb344) (o := .cells #[.int .i64 a2_0, .int .i64 a2_1, .string a2_2] 23 (0, 0)) q72_ hb); have n3_ := Aside0.mk (below_step q0_ hb); clear BK342; clear BK343; clear BK344; clear HB; have BK342 := n0_; have BK343 := n1_; have BK344 := n2_; have HB := n3_; clear n0_ n1_ n2_ n3_; (try clear hb); (try clear hb2); (try clear hk); (try clear hi)))
      go_meet
      case rel => exact ⟨_, (true), q5_, H', ⟨by first | omega | exact Nat.le_refl _⟩, ⟨q46_⟩, ⟨q60_⟩, ⟨q72_⟩, ⟨q0_⟩⟩
  case rest =>
    clear HC6
    try clear c1
    try clear c2
    try clear p2
    try clear p6
    try clear c9
    try clear c14
    try clear c14b0
    try clear c14b1
    try clear c15
    try clear c16
    try clear c18
    try clear c23
    try clear c24
    try clear c26
    try clear hcz17_0
    try clear hcz17_1
    try clear hcz17_2
    try clear hcz19_0
    try clear hcz19_1
    try clear hcz19_2
    try clear hcz21_0
    try clear hcz21_1
    try clear hcz21_2
    try clear hcz22_0
    try clear hcz22_1
    try clear hcz22_2
    try clear hcz25_0
    try clear hcz25_1
    try clear hcz25_2
    try clear hcz27_0
    try clear hcz27_1
    try clear hcz27_2
    try clear hfz17_0
    try clear hfz17_1
    try clear hfz17_2
    try clear hfz19_0
    try clear hfz19_1
    try clear hfz19_2
    try clear hfz21_0
    try clear hfz21_1
    try clear hfz21_2
    try clear hfz22_0
    try clear hfz22_1
    try clear hfz22_2
    try clear hfz25_0
    try clear hfz25_1
    try clear hfz25_2
    try clear hfz27_0
    try clear hfz27_1
    try clear hfz27_2
    obtain ⟨kq, x28_5, rfl, HA, HJ5, BK342, BK343, BK344, HB⟩ := hcut
    cases kq with
    | zero => exact absurd HA.out (by simp [corollarylaw01_ValueChain.j0])
    | succ kj5 =>
      have H := HA.out
      clear HA
      simp only [corollarylaw01_ValueChain.j0] at H
      by_cases c29 : x28_5 = true
      · subst c29
        replace H := ifT_ H
        obtain rfl := Option.some.inj H
        go_wp2
        go_ret
        exact ⟨q3_, q0_⟩
      · replace c29 := Bool.eq_false_iff.mpr c29
        subst c29
        replace H := ifF_ H
        by_cases c30 : t345 > 0
        · rw [if_pos c30] at H
          have c30b0 : decide (0 < t345) = true := decide_eq_true c30
          clear c30
          replace H := Option.bind_eq_some_iff.mp H
          obtain ⟨t348, A310, H⟩ := H
          replace H : (some t348) = some r := H
          have A31 := Aside0.mk A310
          clear A310
          obtain rfl := Option.some.inj H
          go_wp2_with (first | (go_at_call 14; (with_reducible refine (corollarylaw01_awake.calls kj5  t348 _ A31.out q73_).mono ?_); rintro e w32 ⟨rfl, hb⟩; have n0_ := Aside0.mk (blk_below (g := gb342) (o := .cells #[.int .i64 a0_0, .int .i64 a0_1, .string a0_2] 23 (0, 0)) q46_ hb); have n1_ := Aside0.mk (blk_below (g := gb343) (o := .cells #[.int .i64 a1_0, .int .i64 a1_1, .string a1_2] 23 (0, 0)) q60_ hb); have n2_ := Aside0.mk (blk_below (g := gb344) (o := .cells #[.int .i64 a2_0, .int .i64 a2_1, .string a2_2] 23 (0, 0)) q72_ hb); have n3_ := Aside0.mk (below_step q0_ hb); clear BK342; clear BK343; clear BK344; clear HB; have BK342 := n0_; have BK343 := n1_; have BK344 := n2_; have HB := n3_; clear n0_ n1_ n2_ n3_; (try clear hb); (try clear hb2); (try clear hk); (try clear hi)))
          go_ret
          exact ⟨q3_, q0_⟩
        · rw [if_neg c30] at H
          have c30b0 : decide (0 < t345) = false := decide_eq_false c30
          clear c30
          by_cases c33 : t346 > 0
          · rw [if_pos c33] at H
            have c33b0 : decide (0 < t346) = true := decide_eq_true c33
            clear c33
            replace H := Option.bind_eq_some_iff.mp H
            obtain ⟨t349, A340, H⟩ := H
            replace H : (some t349) = some r := H
            have A34 := Aside0.mk A340
            clear A340
            obtain rfl := Option.some.inj H
            go_wp2_with (first | (go_at_call 14; (with_reducible refine (corollarylaw01_awake.calls kj5  t349 _ A34.out q73_).mono ?_); rintro e w35 ⟨rfl, hb⟩; have n0_ := Aside0.mk (blk_below (g := gb342) (o := .cells #[.int .i64 a0_0, .int .i64 a0_1, .string a0_2] 23 (0, 0)) q46_ hb); have n1_ := Aside0.mk (blk_below (g := gb343) (o := .cells #[.int .i64 a1_0, .int .i64 a1_1, .string a1_2] 23 (0, 0)) q60_ hb); have n2_ := Aside0.mk (blk_below (g := gb344) (o := .cells #[.int .i64 a2_0, .int .i64 a2_1, .string a2_2] 23 (0, 0)) q72_ hb); have n3_ := Aside0.mk (below_step q0_ hb); clear BK342; clear BK343; clear BK344; clear HB; have BK342 := n0_; have BK343 := n1_; have BK344 := n2_; have HB := n3_; clear n0_ n1_ n2_ n3_; (try clear hb); (try clear hb2); (try clear hk); (try clear hi)))
            go_ret
            exact ⟨q3_, q0_⟩
          · rw [if_neg c33] at H
            have c33b0 : decide (0 < t346) = false := decide_eq_false c33
            clear c33
            replace H := Option.bind_eq_some_iff.mp H
            obtain ⟨t350, A360, H⟩ := H
            replace H : (if t350 ≤ 0 then ((corollarylaw01_awake.f kj5).bind fun t351 => (some t351)) else (some false)) = some r := H
            have A36 := Aside0.mk A360
            clear A360
            by_cases c37 : t350 ≤ 0
            · rw [if_pos c37] at H
              have c37b0 : decide (t350 ≤ 0) = true := decide_eq_true c37
              clear c37
              replace H := Option.bind_eq_some_iff.mp H
              obtain ⟨t351, A380, H⟩ := H
              replace H : (some t351) = some r := H
              have A38 := Aside0.mk A380
              clear A380
              obtain rfl := Option.some.inj H
              have hnb39 := NB342_343.out
              have hnc39 := NB343_342.out
              have hnb40 := NB342_344.out
              have hnc40 := NB344_342.out
              have hcz41_0 : wc.cell? ⟨gb342, 0, none⟩ = some (.int .i64 a0_0) := (blk_cell BK342.out 0).trans rfl
              have hcz41_1 : wc.cell? ⟨gb342, 1, none⟩ = some (.int .i64 a0_1) := (blk_cell BK342.out 1).trans rfl
              have hcz41_2 : wc.cell? ⟨gb342, 2, none⟩ = some (.string a0_2) := (blk_cell BK342.out 2).trans rfl
              have hfz41_0 := blk_frozen BK342.out 0
              have hfz41_1 := blk_frozen BK342.out 1
              have hfz41_2 := blk_frozen BK342.out 2
              have hnb42 := NB344_343.out
              have hnc42 := NB343_344.out
              have hcz43_0 : wc.cell? ⟨gb344, 0, none⟩ = some (.int .i64 a2_0) := (blk_cell BK344.out 0).trans rfl
              have hcz43_1 : wc.cell? ⟨gb344, 1, none⟩ = some (.int .i64 a2_1) := (blk_cell BK344.out 1).trans rfl
              have hcz43_2 : wc.cell? ⟨gb344, 2, none⟩ = some (.string a2_2) := (blk_cell BK344.out 2).trans rfl
              have hfz43_0 := blk_frozen BK344.out 0
              have hfz43_1 := blk_frozen BK344.out 1
              have hfz43_2 := blk_frozen BK344.out 2
              go_wp2_with (first | (go_at_call 23; (with_reducible refine (value_Compare.calls kj5 a0_0 a0_1 a0_2 a2_0 a2_1 a2_2 t350 _ A36.out).mono ?_); rintro e w44 ⟨rfl, hb⟩; have n0_ := Aside0.mk (blk_below (g := gb342) (o := .cells #[.int .i64 a0_0, .int .i64 a0_1, .string a0_2] 23 (0, 0)) q46_ hb); have n1_ := Aside0.mk (blk_below (g := gb343) (o := .cells #[.int .i64 a1_0, .int .i64 a1_1, .string a1_2] 23 (0, 0)) q60_ hb); have n2_ := Aside0.mk (blk_below (g := gb344) (o := .cells #[.int .i64 a2_0, .int .i64 a2_1, .string a2_2] 23 (0, 0)) q72_ hb); have n3_ := Aside0.mk (below_step q0_ hb); clear BK342; clear BK343; clear BK344; clear HB; have BK342 := n0_; have BK343 := n1_; have BK344 := n2_; have HB := n3_; clear n0_ n1_ n2_ n3_; (try clear hb); (try clear hb2); (try clear hk); (try clear hi)) | (go_at_call 14; (with_reducible refine (corollarylaw01_awake.calls kj5  t351 _ A38.out q73_).mono ?_); rintro e w45 ⟨rfl, hb⟩; have n0_ := Aside0.mk (blk_below (g := gb342) (o := .cells #[.int .i64 a0_0, .int .i64 a0_1, .string a0_2] 23 (0, 0)) q46_ hb); have n1_ := Aside0.mk (blk_below (g := gb343) (o := .cells #[.int .i64 a1_0, .int .i64 a1_1, .string a1_2] 23 (0, 0)) q60_ hb); have n2_ := Aside0.mk (blk_below (g := gb344) (o := .cells #[.int .i64 a2_0, .int .i64 a2_1, .string a2_2] 23 (0, 0)) q72_ hb); have n3_ := Aside0.mk (below_step q0_ hb); clear BK342; clear BK343; clear BK344; clear HB; have BK342 := n0_; have BK343 := n1_; have BK344 := n2_; have HB := n3_; clear n0_ n1_ n2_ n3_; (try clear hb); (try clear hb2); (try clear hk); (try clear hi)))
              go_ret
              exact ⟨q3_, q0_⟩
            · rw [if_neg c37] at H
              have c37b0 : decide (t350 ≤ 0) = false := decide_eq_false c37
              clear c37
              obtain rfl := Option.some.inj H
              have hnb46 := NB342_343.out
              have hnc46 := NB343_342.out
              have hnb47 := NB342_344.out
              have hnc47 := NB344_342.out
              have hcz48_0 : wc.cell? ⟨gb342, 0, none⟩ = some (.int .i64 a0_0) := (blk_cell BK342.out 0).trans rfl
              have hcz48_1 : wc.cell? ⟨gb342, 1, none⟩ = some (.int .i64 a0_1) := (blk_cell BK342.out 1).trans rfl
              have hcz48_2 : wc.cell? ⟨gb342, 2, none⟩ = some (.string a0_2) := (blk_cell BK342.out 2).trans rfl
              have hfz48_0 := blk_frozen BK342.out 0
              have hfz48_1 := blk_frozen BK342.out 1
              have hfz48_2 := blk_frozen BK342.out 2
              have hnb49 := NB344_343.out
              have hnc49 := NB343_344.out
              have hcz50_0 : wc.cell? ⟨gb344, 0, none⟩ = some (.int .i64 a2_0) := (blk_cell BK344.out 0).trans rfl
              have hcz50_1 : wc.cell? ⟨gb344, 1, none⟩ = some (.int .i64 a2_1) := (blk_cell BK344.out 1).trans rfl
              have hcz50_2 : wc.cell? ⟨gb344, 2, none⟩ = some (.string a2_2) := (blk_cell BK344.out 2).trans rfl
              have hfz50_0 := blk_frozen BK344.out 0
              have hfz50_1 := blk_frozen BK344.out 1
              have hfz50_2 := blk_frozen BK344.out 2
              go_wp2_with (first | (go_at_call 23; (with_reducible refine (value_Compare.calls kj5 a0_0 a0_1 a0_2 a2_0 a2_1 a2_2 t350 _ A36.out).mono ?_); rintro e w51 ⟨rfl, hb⟩; have n0_ := Aside0.mk (blk_below (g := gb342) (o := .cells #[.int .i64 a0_0, .int .i64 a0_1, .string a0_2] 23 (0, 0)) q46_ hb); have n1_ := Aside0.mk (blk_below (g := gb343) (o := .cells #[.int .i64 a1_0, .int .i64 a1_1, .string a1_2] 23 (0, 0)) q60_ hb); have n2_ := Aside0.mk (blk_below (g := gb344) (o := .cells #[.int .i64 a2_0, .int .i64 a2_1, .string a2_2] 23 (0, 0)) q72_ hb); have n3_ := Aside0.mk (below_step q0_ hb); clear BK342; clear BK343; clear BK344; clear HB; have BK342 := n0_; have BK343 := n1_; have BK344 := n2_; have HB := n3_; clear n0_ n1_ n2_ n3_; (try clear hb); (try clear hb2); (try clear hk); (try clear hi)))
              go_ret
              exact ⟨q3_, q0_⟩

end Go.Proofs.YtmdnnpahmoaicaaDoor.P
