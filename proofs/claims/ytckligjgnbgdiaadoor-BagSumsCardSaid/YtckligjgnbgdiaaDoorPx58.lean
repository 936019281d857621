-- HALVED
import Derived.Test.YtckligjgnbgdiaaDoorPx0
import Derived.Test.YtckligjgnbgdiaaDoorPx53
namespace Go.Proofs.YtckligjgnbgdiaaDoor.P
open Go.RowKit Go.Proofs.YtckligjgnbgdiaaDoorW.PrintWords Go.Proofs.YtckligjgnbgdiaaDoorW.PrintLast Go.Proofs.YtckligjgnbgdiaaDoorW.PrintMore
attribute [local go_sem] max2_int min2_mn max_two min_two max_three min_three max_four min_four   -- for this text's walks alone
set_option linter.unusedVariables false
set_option linter.unusedSimpArgs false

abbrev b58_0 : Array Bool := #[false, false, false, false, false, false, false, false, false]
abbrev b58_1 : Array Bool := #[true, false, false, false, false, false, false, false, false]
abbrev b58_2 : Array Bool := #[true, true, false, false, false, false, false, false, false]
abbrev b58_3 : Array Bool := #[true, true, true, false, false, false, false, false, false]
abbrev b58_4 : Array Bool := #[true, true, true, false, true, false, false, false, false]
abbrev b58_5 : Array Bool := #[true, true, true, false, true, true, false, false, false]
abbrev b58_6 : Array Bool := #[true, true, true, false, true, true, true, false, false]
abbrev b58_7 : Array Bool := #[true, true, true, true, true, true, true, false, false]
abbrev b58_8 : Array Bool := #[true, true, true, true, true, true, true, true, false]
abbrev b58_9 : Array Bool := #[true, true, true, true, true, true, true, true, true]
mutual
def corollaryref01_Rows.l0 : Nat → List (S51) → List (S51) → Int → Option (Int)
 | 0, _, _, _ => none
 | k + 1, x0, x1, x5 => if x5 < (x0.length : Int) then (corollaryref01_Rows.j1 k x0 x1 x5 (decide (x5 < (x1.length : Int)))) else (corollaryref01_Rows.j1 k x0 x1 x5 false)
def corollaryref01_Rows.j1 : Nat → List (S51) → List (S51) → Int → Bool → Option (Int)
 | 0, _, _, _, _ => none
 | k + 1, x0, x1, x5, x15 => if x15 = true then (if 0 ≤ x5 then (if x5 < (x0.length : Int) then (if x5 < (x1.length : Int) then ((corollaryref01_Before.f k ((rd_T51 x0 x5).f0) ((rd_T51 x0 x5).f1) ((rd_T51 x0 x5).f2) ((rd_T51 x1 x5).f0) ((rd_T51 x1 x5).f1) ((rd_T51 x1 x5).f2)).bind fun t232 => (if t232 = true then (some (-1)) else ((corollaryref01_Before.f k ((rd_T51 x1 x5).f0) ((rd_T51 x1 x5).f1) ((rd_T51 x1 x5).f2) ((rd_T51 x0 x5).f0) ((rd_T51 x0 x5).f1) ((rd_T51 x0 x5).f2)).bind fun t235 => (if t235 = true then (some 1) else (corollaryref01_Rows.l0 k x0 x1 (wrap64 (x5 + 1))))))) else (none)) else (none)) else (none)) else (if (x0.length : Int) < (x1.length : Int) then (some (-1)) else (if (x0.length : Int) > (x1.length : Int) then (some 1) else (some 0)))
end
def corollaryref01_Rows.f (k : Nat) (l0 : List (S51)) (l1 : List (S51)) : Option (Int) := corollaryref01_Rows.l0 k l0 l1 0
theorem corollaryref01_Rows.mono_l : ∀ k, (∀ y0 y1 y2, LeO (corollaryref01_Rows.l0 k y0 y1 y2) (corollaryref01_Rows.l0 (k + 1) y0 y1 y2)) ∧ (∀ y0 y1 y2 y3, LeO (corollaryref01_Rows.j1 k y0 y1 y2 y3) (corollaryref01_Rows.j1 (k + 1) y0 y1 y2 y3))
 | 0 => ⟨fun _ _ _ r h => by simp [corollaryref01_Rows.l0] at h, fun _ _ _ _ r h => by simp [corollaryref01_Rows.j1] at h⟩
 | k + 1 => by
  obtain ⟨ih0, ih1⟩ := corollaryref01_Rows.mono_l k
  refine ⟨?_, ?_⟩
  all_goals intros
  all_goals first
   | unfold corollaryref01_Rows.l0
   | unfold corollaryref01_Rows.j1
  all_goals repeat' first
   | (with_reducible exact ih0 _ _ _)
   | (with_reducible exact ih1 _ _ _ _)
   | (with_reducible exact corollaryref01_Before.mono _ _ _ _ _ _ _)
   | (with_reducible exact LeO.refl _)
   | (with_reducible exact LeO.none _)
   | (with_reducible refine LeO.ite ?_ ?_)
   | (with_reducible refine LeO.bind ?_ (fun _ => ?_))
   | exact ih0 _ _ _
   | exact ih1 _ _ _ _
   | exact corollaryref01_Before.mono _ _ _ _ _ _ _
   | exact LeO.none _
   | refine LeO.ite ?_ ?_
   | refine LeO.bind ?_ (fun _ => ?_)
theorem corollaryref01_Rows.mono : ∀ a0 a1 k, LeO (corollaryref01_Rows.f k a0 a1) (corollaryref01_Rows.f (k + 1) a0 a1) := by
 intro a0 a1 k
 obtain ⟨ih0, ih1⟩ := corollaryref01_Rows.mono_l k
 unfold corollaryref01_Rows.f
 repeat' first
   | (with_reducible exact ih0 _ _ _)
   | (with_reducible exact ih1 _ _ _ _)
   | (with_reducible exact corollaryref01_Before.mono _ _ _ _ _ _ _)
   | (with_reducible exact LeO.refl _)
   | (with_reducible exact LeO.none _)
   | (with_reducible refine LeO.ite ?_ ?_)
   | (with_reducible refine LeO.bind ?_ (fun _ => ?_))
   | exact ih0 _ _ _
   | exact ih1 _ _ _ _
   | exact corollaryref01_Before.mono _ _ _ _ _ _ _
   | exact LeO.none _
   | refine LeO.ite ?_ ?_
   | refine LeO.bind ?_ (fun _ => ?_)
def corollaryref01_Rows.T4 : Bool × List (List Nat × List Nat) := (true, [([], []), ([], []), ([0, 1], [0, 1]), ([2], [2]), ([], []), ([], []), ([4, 5], [4, 5]), ([6], [6]), ([3, 7], [3, 7])])
def corollaryref01_Rows.B4 : List Nat := [0, 0, 3, 7, 0, 0, 48, 112, 255]
theorem corollaryref01_Rows.tab4 : rtab .any (opsOf Tryd.f27 4) = corollaryref01_Rows.T4 := by kernel_rfl
theorem corollaryref01_Rows.bits4 : waitsOk corollaryref01_Rows.T4.2 corollaryref01_Rows.B4 = true := by kernel_rfl
def corollaryref01_Rows.T6 : Bool × List (List Nat × List Nat) := (true, [([], []), ([], []), ([0, 1], [0, 1]), ([2], [2]), ([], []), ([], []), ([4, 5], [4, 5]), ([6], [6]), ([3, 7], [3, 7])])
def corollaryref01_Rows.B6 : List Nat := [0, 0, 3, 7, 0, 0, 48, 112, 255]
theorem corollaryref01_Rows.tab6 : rtab .any (opsOf Tryd.f27 6) = corollaryref01_Rows.T6 := by kernel_rfl
theorem corollaryref01_Rows.bits6 : waitsOk corollaryref01_Rows.T6.2 corollaryref01_Rows.B6 = true := by kernel_rfl
set_option maxHeartbeats 8000000 in
set_option maxRecDepth 100000 in
theorem corollaryref01_Rows.calls (k : Nat) (A0 : Option Addr) (c0 : Nat) (l0 : List (S51)) (A1 : Option Addr) (c1 : Nat) (l1 : List (S51)) (r : Int) (w : World) (hr0 : Kd.C k51 w A0 l0.length l0) (hc0 : l0.length ≤ c0) (hr1 : Kd.C k51 w A1 l1.length l1) (hc1 : l1.length ≤ c1) (h : corollaryref01_Rows.f k l0 l1 = some r) :
  Calls Tryd.prog 27 #[.slice A0 l0.length c0, .slice A1 l1.length c1] w fun e w' => e = .returned (.int .i64 r) ∧ Below w.heap.size w w' := by
 have hu51 := Tryd.underlying51
 have HR0 := Aside0.mk hr0
 have HC0 := Aside0.mk hc0
 clear hr0 hc0
 have HR1 := Aside0.mk hr1
 have HC1 := Aside0.mk hc1
 clear hr1 hc1
 have HB := Aside0.mk (Below.refl w.heap.size w)
 have H : (corollaryref01_Rows.l0 k l0 l1 0) = some r := h
 clear h
 have H' := Aside0.mk H
 clear H
 go_enter Tryd.func27, Tryd.ntmps27
 go_wp2
 go_loopg [5] k (fun kq v5 w' => ∃ (x5_1 : Int), v5 = .int .i64 x5_1 ∧ Aside0 (corollaryref01_Rows.l0 kq l0 l1 x5_1 = some r) ∧ Aside0 (kq ≤ k) ∧ Aside0 (Below w.heap.size w w'))
 case atStart => exact ⟨(0), q9_, H', ⟨Nat.le_refl _⟩, ⟨q0_⟩⟩
 case round =>
  clear H'
  try clear c1
  try clear c2
  try clear p2
  obtain ⟨x5_1, rfl, HA, HK1, HB⟩ := hrel
  cases gk with
  | zero => exact absurd HA.out (by simp [corollaryref01_Rows.l0])
  | succ k1 =>
   have H := HA.out
   clear HA
   simp only [corollaryref01_Rows.l0] at H
   have HC3 := Aside0.mk H
   clear H
   go_upto_region 2 with (fail)
   go_cut [15] (fun v15 wc => ∃ (kq : Nat) (x15_2 : Bool), v15 = .bool x15_2 ∧ Aside0 (corollaryref01_Rows.j1 kq l0 l1 x5_1 x15_2 = some r) ∧ Aside0 (kq ≤ k1) ∧ Aside0 (Below w.heap.size w wc))
   case first =>
    have H := HC3.out
    clear HC3
    by_cases c4 : x5_1 < (l0.length : Int)
    ·rw [if_pos c4] at H
     have c4b0 : decide (x5_1 < (l0.length : Int)) = true := decide_eq_true c4
     clear c4
     (first | rw [c4b0] | (simp only [i64_w, i32_w]; rw [c4b0]) | skip)
     have H' := Aside0.mk H
     clear H
     go_wp2
     go_meet
     case rel => exact ⟨_, (decide (x5_1 < (l1.length : Int))), q9_, H', ⟨q58_⟩, ⟨q0_⟩⟩
    ·rw [if_neg c4] at H
     have c4b0 : decide (x5_1 < (l0.length : Int)) = false := decide_eq_false c4
     clear c4
     (first | rw [c4b0] | (simp only [i64_w, i32_w]; rw [c4b0]) | skip)
     have H' := Aside0.mk H
     clear H
     go_wp2
     go_meet
     case rel => exact ⟨_, (false), q9_, H', ⟨q58_⟩, ⟨q0_⟩⟩
   case rest =>
    clear HC3
    try clear c1
    try clear c2
    try clear p2
    try clear c4
    try clear c4b0
    try clear p2
    obtain ⟨kq, x15_2, rfl, HA, HJ2, HB⟩ := hcut
    cases kq with
    | zero => exact absurd HA.out (by simp [corollaryref01_Rows.j1])
    | succ kj2 =>
     have H := HA.out
     clear HA
     simp only [corollaryref01_Rows.j1] at H
     by_cases c5 : x15_2 = true
     ·subst c5
      replace H := ifT_ H
      by_cases c6 : 0 ≤ x5_1
      ·rw [if_pos c6] at H
       have c6b0 : decide (0 ≤ x5_1) = true := decide_eq_true c6
       clear c6
       by_cases c7 : x5_1 < (l0.length : Int)
       ·rw [if_pos c7] at H
        have c7b0 : decide (x5_1 < (l0.length : Int)) = true := decide_eq_true c7
        clear c7
        by_cases c8 : x5_1 < (l1.length : Int)
        ·rw [if_pos c8] at H
         have c8b0 : decide (x5_1 < (l1.length : Int)) = true := decide_eq_true c8
         clear c8
         replace H := Option.bind_eq_some_iff.mp H
         obtain ⟨t232, A90, H⟩ := H
         replace H : (if t232 = true then (some (-1)) else ((corollaryref01_Before.f kj2 ((rd_T51 l1 x5_1).f0) ((rd_T51 l1 x5_1).f1) ((rd_T51 l1 x5_1).f2) ((rd_T51 l0 x5_1).f0) ((rd_T51 l0 x5_1).f1) ((rd_T51 l0 x5_1).f2)).bind fun t235 => (if t235 = true then (some 1) else (corollaryref01_Rows.l0 kj2 l0 l1 (wrap64 (x5_1 + 1)))))) = some r := H
         have A9 := Aside0.mk A90
         clear A90
         by_cases c10 : t232 = true
         ·subst c10
          replace H := ifT_ H
          obtain rfl := Option.some.inj H
          try go_wp2
          have n0_ := Aside0.mk (below_drew1 HB.out)
          clear HB
          have HB := n0_
          clear n0_
          have p230 : 0 ≤ (x5_1 : Int) := of_decide_eq_true q5_
          have q230 : x5_1 < (l0.length : Int) := of_decide_eq_true q5_
          obtain ⟨ad230, e230, hx230_0, hx230_1, hx230_2⟩ := at_T51 HR0.out x5_1 p230 q230
          have hw230_2 := hx230_2
          have hw230_1 := hx230_1
          have hw230_0 := hx230_0
          cases e230
          replace hx230_0 := (HB.out.cell (World.block_lt_of_cell? w _ hx230_0)).trans hx230_0
          replace hx230_1 := (HB.out.cell (World.block_lt_of_cell? w _ hx230_1)).trans hx230_1
          replace hx230_2 := (HB.out.cell (World.block_lt_of_cell? w _ hx230_2)).trans hx230_2
          replace p230 := eq_true p230
          replace q230 := eq_true q230
          have p231 : 0 ≤ (x5_1 : Int) := of_decide_eq_true q5_
          have q231 : x5_1 < (l1.length : Int) := of_decide_eq_true q5_
          obtain ⟨ad231, e231, hx231_0, hx231_1, hx231_2⟩ := at_T51 HR1.out x5_1 p231 q231
          have hw231_2 := hx231_2
          have hw231_1 := hx231_1
          have hw231_0 := hx231_0
          cases e231
          replace hx231_0 := (HB.out.cell (World.block_lt_of_cell? w _ hx231_0)).trans hx231_0
          replace hx231_1 := (HB.out.cell (World.block_lt_of_cell? w _ hx231_1)).trans hx231_1
          replace hx231_2 := (HB.out.cell (World.block_lt_of_cell? w _ hx231_2)).trans hx231_2
          replace p231 := eq_true p231
          replace q231 := eq_true q231
          refine start_ (n := 9) (S := fun w' => w'.cell? (ad230.add ((x5_1).toNat * 3)) = some (.int .i64 ((rd_T51 l0 x5_1).f0)) ∧ w'.cell? ⟨(ad230.add ((x5_1).toNat * 3)).block, (ad230.add ((x5_1).toNat * 3)).off + 1, none⟩ = some (.int .i64 ((rd_T51 l0 x5_1).f1)) ∧ w'.cell? ⟨(ad230.add ((x5_1).toNat * 3)).block, (ad230.add ((x5_1).toNat * 3)).off + 2, none⟩ = some (.string ((rd_T51 l0 x5_1).f2)) ∧ w'.cell? (ad231.add ((x5_1).toNat * 3)) = some (.int .i64 ((rd_T51 l1 x5_1).f0)) ∧ w'.cell? ⟨(ad231.add ((x5_1).toNat * 3)).block, (ad231.add ((x5_1).toNat * 3)).off + 1, none⟩ = some (.int .i64 ((rd_T51 l1 x5_1).f1)) ∧ w'.cell? ⟨(ad231.add ((x5_1).toNat * 3)).block, (ad231.add ((x5_1).toNat * 3)).off + 2, none⟩ = some (.string ((rd_T51 l1 x5_1).f2))) (ds := []) b58_0 (by kernel_rfl) rfl rfl ⟨((HB.out.cell (World.block_lt_of_cell? w _ hw230_0)).trans hw230_0), ((HB.out.cell (World.block_lt_of_cell? w _ hw230_1)).trans hw230_1), ((HB.out.cell (World.block_lt_of_cell? w _ hw230_2)).trans hw230_2), ((HB.out.cell (World.block_lt_of_cell? w _ hw231_0)).trans hw231_0), ((HB.out.cell (World.block_lt_of_cell? w _ hw231_1)).trans hw231_1), ((HB.out.cell (World.block_lt_of_cell? w _ hw231_2)).trans hw231_2)⟩ (fun hHeld => ?_); refine with_tabW corollaryref01_Rows.tab4 corollaryref01_Rows.bits4 (fun HT_ HW_ => ?_)
          generalize wc.drew = w11 at HB hx230_0 hx230_1 hx230_2 hx231_0 hx231_1 hx231_2 hHeld ⊢
          refine pure_ (i := 0) (N := some 18) (v := ?_) (a' := ?_) b58_1 rfl rfl qh_ qi_ (Or.inl ⟨qr_, ?_⟩) ?_ ?_; rotate_left; (intro w'; go_simp; with_reducible rfl); rotate_left; exact qa_
          refine pure_ (i := 1) (N := some 19) (v := ?_) (a' := ?_) b58_2 rfl rfl qh_ qi_ (Or.inl ⟨qr_, ?_⟩) ?_ ?_; rotate_left; (intro w'; go_simp; with_reducible rfl); rotate_left; exact qa_
          refine pure_ (i := 2) (N := some 20) (v := ?_) (a' := ?_) b58_3 rfl rfl qh_ qi_ (Or.inl ⟨qr_, ?_⟩) ?_ ?_; rotate_left; (intro w'; go_simp; with_reducible rfl); rotate_left; exact qa_
          refine pure_ (i := 4) (N := some 22) (v := ?_) (a' := ?_) b58_4 rfl rfl qh_ qi_ (Or.inl ⟨qr_, ?_⟩) ?_ ?_; rotate_left; (intro w'; go_simp; with_reducible rfl); rotate_left; exact qa_
          refine pure_ (i := 5) (N := some 23) (v := ?_) (a' := ?_) b58_5 rfl rfl qh_ qi_ (Or.inl ⟨qr_, ?_⟩) ?_ ?_; rotate_left; (intro w'; go_simp; with_reducible rfl); rotate_left; exact qa_
          refine pure_ (i := 6) (N := some 24) (v := ?_) (a' := ?_) b58_6 rfl rfl qh_ qi_ (Or.inl ⟨qr_, ?_⟩) ?_ ?_; rotate_left; (intro w'; go_simp; with_reducible rfl); rotate_left; exact qa_
          refine take_ (i := 3) (N := some 21) (v := ?_) (a' := ?_) b58_7 rfl rfl (take_ofW HT_.out HW_.out (by kernel_rfl)) (fun _ _ _ h => h) (Or.inl ⟨by rfl, ?_⟩) hHeld ?_ ?_; rotate_left; (rintro w' ⟨s0, s1, s2, s3, s4, s5⟩; go_simp; with_reducible rfl); rotate_left; exact qa_
          refine take_ (i := 7) (N := some 25) (v := ?_) (a' := ?_) b58_8 rfl rfl (take_ofW HT_.out HW_.out (by kernel_rfl)) (fun _ _ _ h => h) (Or.inl ⟨by rfl, ?_⟩) hHeld ?_ ?_; rotate_left; (rintro w' ⟨s0, s1, s2, s3, s4, s5⟩; go_simp; with_reducible rfl); rotate_left; exact qa_
          refine one_ (i := 8) (N := some 26) b58_9 rfl rfl (one_of HT_.out (by kernel_rfl)) (by decide) (fun K hK => ?_)
          refine goes_ Tryd.func46 (by kernel_rfl) rfl #[.agg #[.int .i64 ((rd_T51 l0 x5_1).f0), .int .i64 ((rd_T51 l0 x5_1).f1), .string ((rd_T51 l0 x5_1).f2)], .agg #[.int .i64 ((rd_T51 l1 x5_1).f0), .int .i64 ((rd_T51 l1 x5_1).f1), .string ((rd_T51 l1 x5_1).f2)]] (by rfl) rfl rfl q2_ ?_
          with_reducible refine (corollaryref01_Before.calls kj2 ((rd_T51 l0 x5_1).f0) ((rd_T51 l0 x5_1).f1) ((rd_T51 l0 x5_1).f2) ((rd_T51 l1 x5_1).f0) ((rd_T51 l1 x5_1).f1) ((rd_T51 l1 x5_1).f2) true _ A9.out).mono ?_
          rintro e w12 ⟨rfl, hb⟩
          refine ⟨_, rfl, ?_⟩
          have n0_ := Aside0.mk (below_step q0_ hb)
          clear HB
          have HB := n0_
          clear n0_
          (try clear hb)
          (try clear hb2)
          (try clear hk)
          (try clear hi)
          refine hK.out _ _ ⟨((HB.out.cell (World.block_lt_of_cell? w _ hw230_0)).trans hw230_0), ((HB.out.cell (World.block_lt_of_cell? w _ hw230_1)).trans hw230_1), ((HB.out.cell (World.block_lt_of_cell? w _ hw230_2)).trans hw230_2), ((HB.out.cell (World.block_lt_of_cell? w _ hw231_0)).trans hw231_0), ((HB.out.cell (World.block_lt_of_cell? w _ hw231_1)).trans hw231_1), ((HB.out.cell (World.block_lt_of_cell? w _ hw231_2)).trans hw231_2)⟩ (fun hHeld => ?_)
          clear hK K
          refine norm_ (a' := ?_) ?_ ?_
          rotate_left
          ·show Act.put _ (some 26) _ = _
           simp only [Act.put, List.setIfInBounds_toArray, List.set_cons_zero, List.set_cons_succ, i64_w, i32_w]
           rfl
          refine done_ (done_of HT_.out (by kernel_rfl)) ?_
          try go_wp2
          go_ret
          exact ⟨q4_, q0_⟩
         ·replace c10 := Bool.eq_false_iff.mpr c10
          subst c10
          replace H := ifF_ H
          replace H := Option.bind_eq_some_iff.mp H
          obtain ⟨t235, A130, H⟩ := H
          replace H : (if t235 = true then (some 1) else (corollaryref01_Rows.l0 kj2 l0 l1 (wrap64 (x5_1 + 1)))) = some r := H
          have A13 := Aside0.mk A130
          clear A130
          by_cases c14 : t235 = true
          ·subst c14
           replace H := ifT_ H
           obtain rfl := Option.some.inj H
           try go_wp2
           have n0_ := Aside0.mk (below_drew1 HB.out)
           clear HB
           have HB := n0_
           clear n0_
           have p230 : 0 ≤ (x5_1 : Int) := of_decide_eq_true q5_
           have q230 : x5_1 < (l0.length : Int) := of_decide_eq_true q5_
           obtain ⟨ad230, e230, hx230_0, hx230_1, hx230_2⟩ := at_T51 HR0.out x5_1 p230 q230
           have hw230_2 := hx230_2
           have hw230_1 := hx230_1
           have hw230_0 := hx230_0
           cases e230
           replace hx230_0 := (HB.out.cell (World.block_lt_of_cell? w _ hx230_0)).trans hx230_0
           replace hx230_1 := (HB.out.cell (World.block_lt_of_cell? w _ hx230_1)).trans hx230_1
           replace hx230_2 := (HB.out.cell (World.block_lt_of_cell? w _ hx230_2)).trans hx230_2
           replace p230 := eq_true p230
           replace q230 := eq_true q230
           have p231 : 0 ≤ (x5_1 : Int) := of_decide_eq_true q5_
           have q231 : x5_1 < (l1.length : Int) := of_decide_eq_true q5_
           obtain ⟨ad231, e231, hx231_0, hx231_1, hx231_2⟩ := at_T51 HR1.out x5_1 p231 q231
           have hw231_2 := hx231_2
           have hw231_1 := hx231_1
           have hw231_0 := hx231_0
           cases e231
           replace hx231_0 := (HB.out.cell (World.block_lt_of_cell? w _ hx231_0)).trans hx231_0
           replace hx231_1 := (HB.out.cell (World.block_lt_of_cell? w _ hx231_1)).trans hx231_1
           replace hx231_2 := (HB.out.cell (World.block_lt_of_cell? w _ hx231_2)).trans hx231_2
           replace p231 := eq_true p231
           replace q231 := eq_true q231
           refine start_ (n := 9) (S := fun w' => w'.cell? (ad230.add ((x5_1).toNat * 3)) = some (.int .i64 ((rd_T51 l0 x5_1).f0)) ∧ w'.cell? ⟨(ad230.add ((x5_1).toNat * 3)).block, (ad230.add ((x5_1).toNat * 3)).off + 1, none⟩ = some (.int .i64 ((rd_T51 l0 x5_1).f1)) ∧ w'.cell? ⟨(ad230.add ((x5_1).toNat * 3)).block, (ad230.add ((x5_1).toNat * 3)).off + 2, none⟩ = some (.string ((rd_T51 l0 x5_1).f2)) ∧ w'.cell? (ad231.add ((x5_1).toNat * 3)) = some (.int .i64 ((rd_T51 l1 x5_1).f0)) ∧ w'.cell? ⟨(ad231.add ((x5_1).toNat * 3)).block, (ad231.add ((x5_1).toNat * 3)).off + 1, none⟩ = some (.int .i64 ((rd_T51 l1 x5_1).f1)) ∧ w'.cell? ⟨(ad231.add ((x5_1).toNat * 3)).block, (ad231.add ((x5_1).toNat * 3)).off + 2, none⟩ = some (.string ((rd_T51 l1 x5_1).f2))) (ds := []) b58_0 (by kernel_rfl) rfl rfl ⟨((HB.out.cell (World.block_lt_of_cell? w _ hw230_0)).trans hw230_0), ((HB.out.cell (World.block_lt_of_cell? w _ hw230_1)).trans hw230_1), ((HB.out.cell (World.block_lt_of_cell? w _ hw230_2)).trans hw230_2), ((HB.out.cell (World.block_lt_of_cell? w _ hw231_0)).trans hw231_0), ((HB.out.cell (World.block_lt_of_cell? w _ hw231_1)).trans hw231_1), ((HB.out.cell (World.block_lt_of_cell? w _ hw231_2)).trans hw231_2)⟩ (fun hHeld => ?_); refine with_tabW corollaryref01_Rows.tab4 corollaryref01_Rows.bits4 (fun HT_ HW_ => ?_)
           generalize wc.drew = w15 at HB hx230_0 hx230_1 hx230_2 hx231_0 hx231_1 hx231_2 hHeld ⊢
           refine pure_ (i := 0) (N := some 18) (v := ?_) (a' := ?_) b58_1 rfl rfl qh_ qi_ (Or.inl ⟨qr_, ?_⟩) ?_ ?_; rotate_left; (intro w'; go_simp; with_reducible rfl); rotate_left; exact qa_
           refine pure_ (i := 1) (N := some 19) (v := ?_) (a' := ?_) b58_2 rfl rfl qh_ qi_ (Or.inl ⟨qr_, ?_⟩) ?_ ?_; rotate_left; (intro w'; go_simp; with_reducible rfl); rotate_left; exact qa_
           refine pure_ (i := 2) (N := some 20) (v := ?_) (a' := ?_) b58_3 rfl rfl qh_ qi_ (Or.inl ⟨qr_, ?_⟩) ?_ ?_; rotate_left; (intro w'; go_simp; with_reducible rfl); rotate_left; exact qa_
           refine pure_ (i := 4) (N := some 22) (v := ?_) (a' := ?_) b58_4 rfl rfl qh_ qi_ (Or.inl ⟨qr_, ?_⟩) ?_ ?_; rotate_left; (intro w'; go_simp; with_reducible rfl); rotate_left; exact qa_
           refine pure_ (i := 5) (N := some 23) (v := ?_) (a' := ?_) b58_5 rfl rfl qh_ qi_ (Or.inl ⟨qr_, ?_⟩) ?_ ?_; rotate_left; (intro w'; go_simp; with_reducible rfl); rotate_left; exact qa_
           refine pure_ (i := 6) (N := some 24) (v := ?_) (a' := ?_) b58_6 rfl rfl qh_ qi_ (Or.inl ⟨qr_, ?_⟩) ?_ ?_; rotate_left; (intro w'; go_simp; with_reducible rfl); rotate_left; exact qa_
           refine take_ (i := 3) (N := some 21) (v := ?_) (a' := ?_) b58_7 rfl rfl (take_ofW HT_.out HW_.out (by kernel_rfl)) (fun _ _ _ h => h) (Or.inl ⟨by rfl, ?_⟩) hHeld ?_ ?_; rotate_left; (rintro w' ⟨s0, s1, s2, s3, s4, s5⟩; go_simp; with_reducible rfl); rotate_left; exact qa_
           refine take_ (i := 7) (N := some 25) (v := ?_) (a' := ?_) b58_8 rfl rfl (take_ofW HT_.out HW_.out (by kernel_rfl)) (fun _ _ _ h => h) (Or.inl ⟨by rfl, ?_⟩) hHeld ?_ ?_; rotate_left; (rintro w' ⟨s0, s1, s2, s3, s4, s5⟩; go_simp; with_reducible rfl); rotate_left; exact qa_
           refine one_ (i := 8) (N := some 26) b58_9 rfl rfl (one_of HT_.out (by kernel_rfl)) (by decide) (fun K hK => ?_)
           refine goes_ Tryd.func46 (by kernel_rfl) rfl #[.agg #[.int .i64 ((rd_T51 l0 x5_1).f0), .int .i64 ((rd_T51 l0 x5_1).f1), .string ((rd_T51 l0 x5_1).f2)], .agg #[.int .i64 ((rd_T51 l1 x5_1).f0), .int .i64 ((rd_T51 l1 x5_1).f1), .string ((rd_T51 l1 x5_1).f2)]] (by rfl) rfl rfl q2_ ?_
           with_reducible refine (corollaryref01_Before.calls kj2 ((rd_T51 l0 x5_1).f0) ((rd_T51 l0 x5_1).f1) ((rd_T51 l0 x5_1).f2) ((rd_T51 l1 x5_1).f0) ((rd_T51 l1 x5_1).f1) ((rd_T51 l1 x5_1).f2) false _ A9.out).mono ?_
           rintro e w16 ⟨rfl, hb⟩
           refine ⟨_, rfl, ?_⟩
           have n0_ := Aside0.mk (below_step q0_ hb)
           clear HB
           have HB := n0_
           clear n0_
           (try clear hb)
           (try clear hb2)
           (try clear hk)
           (try clear hi)
           refine hK.out _ _ ⟨((HB.out.cell (World.block_lt_of_cell? w _ hw230_0)).trans hw230_0), ((HB.out.cell (World.block_lt_of_cell? w _ hw230_1)).trans hw230_1), ((HB.out.cell (World.block_lt_of_cell? w _ hw230_2)).trans hw230_2), ((HB.out.cell (World.block_lt_of_cell? w _ hw231_0)).trans hw231_0), ((HB.out.cell (World.block_lt_of_cell? w _ hw231_1)).trans hw231_1), ((HB.out.cell (World.block_lt_of_cell? w _ hw231_2)).trans hw231_2)⟩ (fun hHeld => ?_)
           clear hK K
           refine norm_ (a' := ?_) ?_ ?_
           rotate_left
           ·show Act.put _ (some 26) _ = _
            simp only [Act.put, List.setIfInBounds_toArray, List.set_cons_zero, List.set_cons_succ, i64_w, i32_w]
            rfl
           refine done_ (done_of HT_.out (by kernel_rfl)) ?_
           try go_wp2
           have n0_ := Aside0.mk (below_drew1 HB.out)
           clear HB
           have HB := n0_
           clear n0_
           have p233 : 0 ≤ (x5_1 : Int) := of_decide_eq_true q5_
           have q233 : x5_1 < (l1.length : Int) := of_decide_eq_true q5_
           obtain ⟨ad233, e233, hx233_0, hx233_1, hx233_2⟩ := at_T51 HR1.out x5_1 p233 q233
           have hw233_2 := hx233_2
           have hw233_1 := hx233_1
           have hw233_0 := hx233_0
           obtain rfl : ad231 = ad233 := (by injection e233)
           replace hx233_0 := (HB.out.cell (World.block_lt_of_cell? w _ hx233_0)).trans hx233_0
           replace hx233_1 := (HB.out.cell (World.block_lt_of_cell? w _ hx233_1)).trans hx233_1
           replace hx233_2 := (HB.out.cell (World.block_lt_of_cell? w _ hx233_2)).trans hx233_2
           replace p233 := eq_true p233
           replace q233 := eq_true q233
           have p234 : 0 ≤ (x5_1 : Int) := of_decide_eq_true q5_
           have q234 : x5_1 < (l0.length : Int) := of_decide_eq_true q5_
           obtain ⟨ad234, e234, hx234_0, hx234_1, hx234_2⟩ := at_T51 HR0.out x5_1 p234 q234
           have hw234_2 := hx234_2
           have hw234_1 := hx234_1
           have hw234_0 := hx234_0
           obtain rfl : ad230 = ad234 := (by injection e234)
           replace hx234_0 := (HB.out.cell (World.block_lt_of_cell? w _ hx234_0)).trans hx234_0
           replace hx234_1 := (HB.out.cell (World.block_lt_of_cell? w _ hx234_1)).trans hx234_1
           replace hx234_2 := (HB.out.cell (World.block_lt_of_cell? w _ hx234_2)).trans hx234_2
           replace p234 := eq_true p234
           replace q234 := eq_true q234
           refine start_ (n := 9) (S := fun w' => w'.cell? (ad231.add ((x5_1).toNat * 3)) = some (.int .i64 ((rd_T51 l1 x5_1).f0)) ∧ w'.cell? ⟨(ad231.add ((x5_1).toNat * 3)).block, (ad231.add ((x5_1).toNat * 3)).off + 1, none⟩ = some (.int .i64 ((rd_T51 l1 x5_1).f1)) ∧ w'.cell? ⟨(ad231.add ((x5_1).toNat * 3)).block, (ad231.add ((x5_1).toNat * 3)).off + 2, none⟩ = some (.string ((rd_T51 l1 x5_1).f2)) ∧ w'.cell? (ad230.add ((x5_1).toNat * 3)) = some (.int .i64 ((rd_T51 l0 x5_1).f0)) ∧ w'.cell? ⟨(ad230.add ((x5_1).toNat * 3)).block, (ad230.add ((x5_1).toNat * 3)).off + 1, none⟩ = some (.int .i64 ((rd_T51 l0 x5_1).f1)) ∧ w'.cell? ⟨(ad230.add ((x5_1).toNat * 3)).block, (ad230.add ((x5_1).toNat * 3)).off + 2, none⟩ = some (.string ((rd_T51 l0 x5_1).f2))) (ds := []) b58_0 (by kernel_rfl) rfl rfl ⟨((HB.out.cell (World.block_lt_of_cell? w _ hw233_0)).trans hw233_0), ((HB.out.cell (World.block_lt_of_cell? w _ hw233_1)).trans hw233_1), ((HB.out.cell (World.block_lt_of_cell? w _ hw233_2)).trans hw233_2), ((HB.out.cell (World.block_lt_of_cell? w _ hw234_0)).trans hw234_0), ((HB.out.cell (World.block_lt_of_cell? w _ hw234_1)).trans hw234_1), ((HB.out.cell (World.block_lt_of_cell? w _ hw234_2)).trans hw234_2)⟩ (fun hHeld => ?_); refine with_tabW corollaryref01_Rows.tab6 corollaryref01_Rows.bits6 (fun HT_ HW_ => ?_)
           generalize w16.drew = w17 at HB hx233_0 hx233_1 hx233_2 hx234_0 hx234_1 hx234_2 hHeld ⊢
           refine pure_ (i := 0) (N := some 27) (v := ?_) (a' := ?_) b58_1 rfl rfl qh_ qi_ (Or.inl ⟨qr_, ?_⟩) ?_ ?_; rotate_left; (intro w'; go_simp; with_reducible rfl); rotate_left; exact qa_
           refine pure_ (i := 1) (N := some 28) (v := ?_) (a' := ?_) b58_2 rfl rfl qh_ qi_ (Or.inl ⟨qr_, ?_⟩) ?_ ?_; rotate_left; (intro w'; go_simp; with_reducible rfl); rotate_left; exact qa_
           refine pure_ (i := 2) (N := some 29) (v := ?_) (a' := ?_) b58_3 rfl rfl qh_ qi_ (Or.inl ⟨qr_, ?_⟩) ?_ ?_; rotate_left; (intro w'; go_simp; with_reducible rfl); rotate_left; exact qa_
           refine pure_ (i := 4) (N := some 31) (v := ?_) (a' := ?_) b58_4 rfl rfl qh_ qi_ (Or.inl ⟨qr_, ?_⟩) ?_ ?_; rotate_left; (intro w'; go_simp; with_reducible rfl); rotate_left; exact qa_
           refine pure_ (i := 5) (N := some 32) (v := ?_) (a' := ?_) b58_5 rfl rfl qh_ qi_ (Or.inl ⟨qr_, ?_⟩) ?_ ?_; rotate_left; (intro w'; go_simp; with_reducible rfl); rotate_left; exact qa_
           refine pure_ (i := 6) (N := some 33) (v := ?_) (a' := ?_) b58_6 rfl rfl qh_ qi_ (Or.inl ⟨qr_, ?_⟩) ?_ ?_; rotate_left; (intro w'; go_simp; with_reducible rfl); rotate_left; exact qa_
           refine take_ (i := 3) (N := some 30) (v := ?_) (a' := ?_) b58_7 rfl rfl (take_ofW HT_.out HW_.out (by kernel_rfl)) (fun _ _ _ h => h) (Or.inl ⟨by rfl, ?_⟩) hHeld ?_ ?_; rotate_left; (rintro w' ⟨s0, s1, s2, s3, s4, s5⟩; go_simp; with_reducible rfl); rotate_left; exact qa_
           refine take_ (i := 7) (N := some 34) (v := ?_) (a' := ?_) b58_8 rfl rfl (take_ofW HT_.out HW_.out (by kernel_rfl)) (fun _ _ _ h => h) (Or.inl ⟨by rfl, ?_⟩) hHeld ?_ ?_; rotate_left; (rintro w' ⟨s0, s1, s2, s3, s4, s5⟩; go_simp; with_reducible rfl); rotate_left; exact qa_
           refine one_ (i := 8) (N := some 35) b58_9 rfl rfl (one_of HT_.out (by kernel_rfl)) (by decide) (fun K hK => ?_)
           refine goes_ Tryd.func46 (by kernel_rfl) rfl #[.agg #[.int .i64 ((rd_T51 l1 x5_1).f0), .int .i64 ((rd_T51 l1 x5_1).f1), .string ((rd_T51 l1 x5_1).f2)], .agg #[.int .i64 ((rd_T51 l0 x5_1).f0), .int .i64 ((rd_T51 l0 x5_1).f1), .string ((rd_T51 l0 x5_1).f2)]] (by rfl) rfl rfl q2_ ?_
           with_reducible refine (corollaryref01_Before.calls kj2 ((rd_T51 l1 x5_1).f0) ((rd_T51 l1 x5_1).f1) ((rd_T51 l1 x5_1).f2) ((rd_T51 l0 x5_1).f0) ((rd_T51 l0 x5_1).f1) ((rd_T51 l0 x5_1).f2) true _ A13.out).mono ?_
           rintro e w18 ⟨rfl, hb⟩
           refine ⟨_, rfl, ?_⟩
           have n0_ := Aside0.mk (below_step q0_ hb)
           clear HB
           have HB := n0_
           clear n0_
           (try clear hb)
           (try clear hb2)
           (try clear hk)
           (try clear hi)
           refine hK.out _ _ ⟨((HB.out.cell (World.block_lt_of_cell? w _ hw233_0)).trans hw233_0), ((HB.out.cell (World.block_lt_of_cell? w _ hw233_1)).trans hw233_1), ((HB.out.cell (World.block_lt_of_cell? w _ hw233_2)).trans hw233_2), ((HB.out.cell (World.block_lt_of_cell? w _ hw234_0)).trans hw234_0), ((HB.out.cell (World.block_lt_of_cell? w _ hw234_1)).trans hw234_1), ((HB.out.cell (World.block_lt_of_cell? w _ hw234_2)).trans hw234_2)⟩ (fun hHeld => ?_)
           clear hK K
           refine norm_ (a' := ?_) ?_ ?_
           rotate_left
           ·show Act.put _ (some 35) _ = _
            simp only [Act.put, List.setIfInBounds_toArray, List.set_cons_zero, List.set_cons_succ, i64_w, i32_w]
            rfl
           refine done_ (done_of HT_.out (by kernel_rfl)) ?_
           try go_wp2
           go_ret
           exact ⟨q4_, q0_⟩
          ·replace c14 := Bool.eq_false_iff.mpr c14
           subst c14
           replace H := ifF_ H
           have H' := Aside0.mk H
           clear H
           try go_wp2
           have n0_ := Aside0.mk (below_drew1 HB.out)
           clear HB
           have HB := n0_
           clear n0_
           have p230 : 0 ≤ (x5_1 : Int) := of_decide_eq_true q5_
           have q230 : x5_1 < (l0.length : Int) := of_decide_eq_true q5_
           obtain ⟨ad230, e230, hx230_0, hx230_1, hx230_2⟩ := at_T51 HR0.out x5_1 p230 q230
           have hw230_2 := hx230_2
           have hw230_1 := hx230_1
           have hw230_0 := hx230_0
           cases e230
           replace hx230_0 := (HB.out.cell (World.block_lt_of_cell? w _ hx230_0)).trans hx230_0
           replace hx230_1 := (HB.out.cell (World.block_lt_of_cell? w _ hx230_1)).trans hx230_1
           replace hx230_2 := (HB.out.cell (World.block_lt_of_cell? w _ hx230_2)).trans hx230_2
           replace p230 := eq_true p230
           replace q230 := eq_true q230
           have p231 : 0 ≤ (x5_1 : Int) := of_decide_eq_true q5_
           have q231 : x5_1 < (l1.length : Int) := of_decide_eq_true q5_
           obtain ⟨ad231, e231, hx231_0, hx231_1, hx231_2⟩ := at_T51 HR1.out x5_1 p231 q231
           have hw231_2 := hx231_2
           have hw231_1 := hx231_1
           have hw231_0 := hx231_0
           cases e231
           replace hx231_0 := (HB.out.cell (World.block_lt_of_cell? w _ hx231_0)).trans hx231_0
           replace hx231_1 := (HB.out.cell (World.block_lt_of_cell? w _ hx231_1)).trans hx231_1
           replace hx231_2 := (HB.out.cell (World.block_lt_of_cell? w _ hx231_2)).trans hx231_2
           replace p231 := eq_true p231
           replace q231 := eq_true q231
           refine start_ (n := 9) (S := fun w' => w'.cell? (ad230.add ((x5_1).toNat * 3)) = some (.int .i64 ((rd_T51 l0 x5_1).f0)) ∧ w'.cell? ⟨(ad230.add ((x5_1).toNat * 3)).block, (ad230.add ((x5_1).toNat * 3)).off + 1, none⟩ = some (.int .i64 ((rd_T51 l0 x5_1).f1)) ∧ w'.cell? ⟨(ad230.add ((x5_1).toNat * 3)).block, (ad230.add ((x5_1).toNat * 3)).off + 2, none⟩ = some (.string ((rd_T51 l0 x5_1).f2)) ∧ w'.cell? (ad231.add ((x5_1).toNat * 3)) = some (.int .i64 ((rd_T51 l1 x5_1).f0)) ∧ w'.cell? ⟨(ad231.add ((x5_1).toNat * 3)).block, (ad231.add ((x5_1).toNat * 3)).off + 1, none⟩ = some (.int .i64 ((rd_T51 l1 x5_1).f1)) ∧ w'.cell? ⟨(ad231.add ((x5_1).toNat * 3)).block, (ad231.add ((x5_1).toNat * 3)).off + 2, none⟩ = some (.string ((rd_T51 l1 x5_1).f2))) (ds := []) b58_0 (by kernel_rfl) rfl rfl ⟨((HB.out.cell (World.block_lt_of_cell? w _ hw230_0)).trans hw230_0), ((HB.out.cell (World.block_lt_of_cell? w _ hw230_1)).trans hw230_1), ((HB.out.cell (World.block_lt_of_cell? w _ hw230_2)).trans hw230_2), ((HB.out.cell (World.block_lt_of_cell? w _ hw231_0)).trans hw231_0), ((HB.out.cell (World.block_lt_of_cell? w _ hw231_1)).trans hw231_1), ((HB.out.cell (World.block_lt_of_cell? w _ hw231_2)).trans hw231_2)⟩ (fun hHeld => ?_); refine with_tabW corollaryref01_Rows.tab4 corollaryref01_Rows.bits4 (fun HT_ HW_ => ?_)
           generalize wc.drew = w19 at HB hx230_0 hx230_1 hx230_2 hx231_0 hx231_1 hx231_2 hHeld ⊢
           refine pure_ (i := 0) (N := some 18) (v := ?_) (a' := ?_) b58_1 rfl rfl qh_ qi_ (Or.inl ⟨qr_, ?_⟩) ?_ ?_; rotate_left; (intro w'; go_simp; with_reducible rfl); rotate_left; exact qa_
           refine pure_ (i := 1) (N := some 19) (v := ?_) (a' := ?_) b58_2 rfl rfl qh_ qi_ (Or.inl ⟨qr_, ?_⟩) ?_ ?_; rotate_left; (intro w'; go_simp; with_reducible rfl); rotate_left; exact qa_
           refine pure_ (i := 2) (N := some 20) (v := ?_) (a' := ?_) b58_3 rfl rfl qh_ qi_ (Or.inl ⟨qr_, ?_⟩) ?_ ?_; rotate_left; (intro w'; go_simp; with_reducible rfl); rotate_left; exact qa_
           refine pure_ (i := 4) (N := some 22) (v := ?_) (a' := ?_) b58_4 rfl rfl qh_ qi_ (Or.inl ⟨qr_, ?_⟩) ?_ ?_; rotate_left; (intro w'; go_simp; with_reducible rfl); rotate_left; exact qa_
           refine pure_ (i := 5) (N := some 23) (v := ?_) (a' := ?_) b58_5 rfl rfl qh_ qi_ (Or.inl ⟨qr_, ?_⟩) ?_ ?_; rotate_left; (intro w'; go_simp; with_reducible rfl); rotate_left; exact qa_
           refine pure_ (i := 6) (N := some 24) (v := ?_) (a' := ?_) b58_6 rfl rfl qh_ qi_ (Or.inl ⟨qr_, ?_⟩) ?_ ?_; rotate_left; (intro w'; go_simp; with_reducible rfl); rotate_left; exact qa_
           refine take_ (i := 3) (N := some 21) (v := ?_) (a' := ?_) b58_7 rfl rfl (take_ofW HT_.out HW_.out (by kernel_rfl)) (fun _ _ _ h => h) (Or.inl ⟨by rfl, ?_⟩) hHeld ?_ ?_; rotate_left; (rintro w' ⟨s0, s1, s2, s3, s4, s5⟩; go_simp; with_reducible rfl); rotate_left; exact qa_
           refine take_ (i := 7) (N := some 25) (v := ?_) (a' := ?_) b58_8 rfl rfl (take_ofW HT_.out HW_.out (by kernel_rfl)) (fun _ _ _ h => h) (Or.inl ⟨by rfl, ?_⟩) hHeld ?_ ?_; rotate_left; (rintro w' ⟨s0, s1, s2, s3, s4, s5⟩; go_simp; with_reducible rfl); rotate_left; exact qa_
           refine one_ (i := 8) (N := some 26) b58_9 rfl rfl (one_of HT_.out (by kernel_rfl)) (by decide) (fun K hK => ?_)
           refine goes_ Tryd.func46 (by kernel_rfl) rfl #[.agg #[.int .i64 ((rd_T51 l0 x5_1).f0), .int .i64 ((rd_T51 l0 x5_1).f1), .string ((rd_T51 l0 x5_1).f2)], .agg #[.int .i64 ((rd_T51 l1 x5_1).f0), .int .i64 ((rd_T51 l1 x5_1).f1), .string ((rd_T51 l1 x5_1).f2)]] (by rfl) rfl rfl q2_ ?_
           with_reducible refine (corollaryref01_Before.calls kj2 ((rd_T51 l0 x5_1).f0) ((rd_T51 l0 x5_1).f1) ((rd_T51 l0 x5_1).f2) ((rd_T51 l1 x5_1).f0) ((rd_T51 l1 x5_1).f1) ((rd_T51 l1 x5_1).f2) false _ A9.out).mono ?_
           rintro e w20 ⟨rfl, hb⟩
           refine ⟨_, rfl, ?_⟩
           have n0_ := Aside0.mk (below_step q0_ hb)
           clear HB
           have HB := n0_
           clear n0_
           (try clear hb)
           (try clear hb2)
           (try clear hk)
           (try clear hi)
           refine hK.out _ _ ⟨((HB.out.cell (World.block_lt_of_cell? w _ hw230_0)).trans hw230_0), ((HB.out.cell (World.block_lt_of_cell? w _ hw230_1)).trans hw230_1), ((HB.out.cell (World.block_lt_of_cell? w _ hw230_2)).trans hw230_2), ((HB.out.cell (World.block_lt_of_cell? w _ hw231_0)).trans hw231_0), ((HB.out.cell (World.block_lt_of_cell? w _ hw231_1)).trans hw231_1), ((HB.out.cell (World.block_lt_of_cell? w _ hw231_2)).trans hw231_2)⟩ (fun hHeld => ?_)
           clear hK K
           refine norm_ (a' := ?_) ?_ ?_
           rotate_left
           ·show Act.put _ (some 26) _ = _
            simp only [Act.put, List.setIfInBounds_toArray, List.set_cons_zero, List.set_cons_succ, i64_w, i32_w]
            rfl
           refine done_ (done_of HT_.out (by kernel_rfl)) ?_
           try go_wp2
           have n0_ := Aside0.mk (below_drew1 HB.out)
           clear HB
           have HB := n0_
           clear n0_
           have p233 : 0 ≤ (x5_1 : Int) := of_decide_eq_true q5_
           have q233 : x5_1 < (l1.length : Int) := of_decide_eq_true q5_
           obtain ⟨ad233, e233, hx233_0, hx233_1, hx233_2⟩ := at_T51 HR1.out x5_1 p233 q233
           have hw233_2 := hx233_2
           have hw233_1 := hx233_1
           have hw233_0 := hx233_0
           obtain rfl : ad231 = ad233 := (by injection e233)
           replace hx233_0 := (HB.out.cell (World.block_lt_of_cell? w _ hx233_0)).trans hx233_0
           replace hx233_1 := (HB.out.cell (World.block_lt_of_cell? w _ hx233_1)).trans hx233_1
           replace hx233_2 := (HB.out.cell (World.block_lt_of_cell? w _ hx233_2)).trans hx233_2
           replace p233 := eq_true p233
           replace q233 := eq_true q233
           have p234 : 0 ≤ (x5_1 : Int) := of_decide_eq_true q5_
           have q234 : x5_1 < (l0.length : Int) := of_decide_eq_true q5_
           obtain ⟨ad234, e234, hx234_0, hx234_1, hx234_2⟩ := at_T51 HR0.out x5_1 p234 q234
           have hw234_2 := hx234_2
           have hw234_1 := hx234_1
           have hw234_0 := hx234_0
           obtain rfl : ad230 = ad234 := (by injection e234)
           replace hx234_0 := (HB.out.cell (World.block_lt_of_cell? w _ hx234_0)).trans hx234_0
           replace hx234_1 := (HB.out.cell (World.block_lt_of_cell? w _ hx234_1)).trans hx234_1
           replace hx234_2 := (HB.out.cell (World.block_lt_of_cell? w _ hx234_2)).trans hx234_2
           replace p234 := eq_true p234
           replace q234 := eq_true q234
           refine start_ (n := 9) (S := fun w' => w'.cell? (ad231.add ((x5_1).toNat * 3)) = some (.int .i64 ((rd_T51 l1 x5_1).f0)) ∧ w'.cell? ⟨(ad231.add ((x5_1).toNat * 3)).block, (ad231.add ((x5_1).toNat * 3)).off + 1, none⟩ = some (.int .i64 ((rd_T51 l1 x5_1).f1)) ∧ w'.cell? ⟨(ad231.add ((x5_1).toNat * 3)).block, (ad231.add ((x5_1).toNat * 3)).off + 2, none⟩ = some (.string ((rd_T51 l1 x5_1).f2)) ∧ w'.cell? (ad230.add ((x5_1).toNat * 3)) = some (.int .i64 ((rd_T51 l0 x5_1).f0)) ∧ w'.cell? ⟨(ad230.add ((x5_1).toNat * 3)).block, (ad230.add ((x5_1).toNat * 3)).off + 1, none⟩ = some (.int .i64 ((rd_T51 l0 x5_1).f1)) ∧ w'.cell? ⟨(ad230.add ((x5_1).toNat * 3)).block, (ad230.add ((x5_1).toNat * 3)).off + 2, none⟩ = some (.string ((rd_T51 l0 x5_1).f2))) (ds := []) b58_0 (by kernel_rfl) rfl rfl ⟨((HB.out.cell (World.block_lt_of_cell? w _ hw233_0)).trans hw233_0), ((HB.out.cell (World.block_lt_of_cell? w _ hw233_1)).trans hw233_1), ((HB.out.cell (World.block_lt_of_cell? w _ hw233_2)).trans hw233_2), ((HB.out.cell (World.block_lt_of_cell? w _ hw234_0)).trans hw234_0), ((HB.out.cell (World.block_lt_of_cell? w _ hw234_1)).trans hw234_1), ((HB.out.cell (World.block_lt_of_cell? w _ hw234_2)).trans hw234_2)⟩ (fun hHeld => ?_); refine with_tabW corollaryref01_Rows.tab6 corollaryref01_Rows.bits6 (fun HT_ HW_ => ?_)
           generalize w20.drew = w21 at HB hx233_0 hx233_1 hx233_2 hx234_0 hx234_1 hx234_2 hHeld ⊢
           refine pure_ (i := 0) (N := some 27) (v := ?_) (a' := ?_) b58_1 rfl rfl qh_ qi_ (Or.inl ⟨qr_, ?_⟩) ?_ ?_; rotate_left; (intro w'; go_simp; with_reducible rfl); rotate_left; exact qa_
           refine pure_ (i := 1) (N := some 28) (v := ?_) (a' := ?_) b58_2 rfl rfl qh_ qi_ (Or.inl ⟨qr_, ?_⟩) ?_ ?_; rotate_left; (intro w'; go_simp; with_reducible rfl); rotate_left; exact qa_
           refine pure_ (i := 2) (N := some 29) (v := ?_) (a' := ?_) b58_3 rfl rfl qh_ qi_ (Or.inl ⟨qr_, ?_⟩) ?_ ?_; rotate_left; (intro w'; go_simp; with_reducible rfl); rotate_left; exact qa_
           refine pure_ (i := 4) (N := some 31) (v := ?_) (a' := ?_) b58_4 rfl rfl qh_ qi_ (Or.inl ⟨qr_, ?_⟩) ?_ ?_; rotate_left; (intro w'; go_simp; with_reducible rfl); rotate_left; exact qa_
           refine pure_ (i := 5) (N := some 32) (v := ?_) (a' := ?_) b58_5 rfl rfl qh_ qi_ (Or.inl ⟨qr_, ?_⟩) ?_ ?_; rotate_left; (intro w'; go_simp; with_reducible rfl); rotate_left; exact qa_
           refine pure_ (i := 6) (N := some 33) (v := ?_) (a' := ?_) b58_6 rfl rfl qh_ qi_ (Or.inl ⟨qr_, ?_⟩) ?_ ?_; rotate_left; (intro w'; go_simp; with_reducible rfl); rotate_left; exact qa_
           refine take_ (i := 3) (N := some 30) (v := ?_) (a' := ?_) b58_7 rfl rfl (take_ofW HT_.out HW_.out (by kernel_rfl)) (fun _ _ _ h => h) (Or.inl ⟨by rfl, ?_⟩) hHeld ?_ ?_; rotate_left; (rintro w' ⟨s0, s1, s2, s3, s4, s5⟩; go_simp; with_reducible rfl); rotate_left; exact qa_
           refine take_ (i := 7) (N := some 34) (v := ?_) (a' := ?_) b58_8 rfl rfl (take_ofW HT_.out HW_.out (by kernel_rfl)) (fun _ _ _ h => h) (Or.inl ⟨by rfl, ?_⟩) hHeld ?_ ?_; rotate_left; (rintro w' ⟨s0, s1, s2, s3, s4, s5⟩; go_simp; with_reducible rfl); rotate_left; exact qa_
           refine one_ (i := 8) (N := some 35) b58_9 rfl rfl (one_of HT_.out (by kernel_rfl)) (by decide) (fun K hK => ?_)
           refine goes_ Tryd.func46 (by kernel_rfl) rfl #[.agg #[.int .i64 ((rd_T51 l1 x5_1).f0), .int .i64 ((rd_T51 l1 x5_1).f1), .string ((rd_T51 l1 x5_1).f2)], .agg #[.int .i64 ((rd_T51 l0 x5_1).f0), .int .i64 ((rd_T51 l0 x5_1).f1), .string ((rd_T51 l0 x5_1).f2)]] (by rfl) rfl rfl q2_ ?_
           with_reducible refine (corollaryref01_Before.calls kj2 ((rd_T51 l1 x5_1).f0) ((rd_T51 l1 x5_1).f1) ((rd_T51 l1 x5_1).f2) ((rd_T51 l0 x5_1).f0) ((rd_T51 l0 x5_1).f1) ((rd_T51 l0 x5_1).f2) false _ A13.out).mono ?_
           rintro e w22 ⟨rfl, hb⟩
           refine ⟨_, rfl, ?_⟩
           have n0_ := Aside0.mk (below_step q0_ hb)
           clear HB
           have HB := n0_
           clear n0_
           (try clear hb)
           (try clear hb2)
           (try clear hk)
           (try clear hi)
           refine hK.out _ _ ⟨((HB.out.cell (World.block_lt_of_cell? w _ hw233_0)).trans hw233_0), ((HB.out.cell (World.block_lt_of_cell? w _ hw233_1)).trans hw233_1), ((HB.out.cell (World.block_lt_of_cell? w _ hw233_2)).trans hw233_2), ((HB.out.cell (World.block_lt_of_cell? w _ hw234_0)).trans hw234_0), ((HB.out.cell (World.block_lt_of_cell? w _ hw234_1)).trans hw234_1), ((HB.out.cell (World.block_lt_of_cell? w _ hw234_2)).trans hw234_2)⟩ (fun hHeld => ?_)
           clear hK K
           refine norm_ (a' := ?_) ?_ ?_
           rotate_left
           ·show Act.put _ (some 35) _ = _
            simp only [Act.put, List.setIfInBounds_toArray, List.set_cons_zero, List.set_cons_succ, i64_w, i32_w]
            rfl
           refine done_ (done_of HT_.out (by kernel_rfl)) ?_
           try go_wp2
           go_roundg kj2
           case measure => have := HK1.out; have := HJ2.out; omega
           case rel => exact ⟨(wrap64 (x5_1 + 1)), q9_, H', ⟨by have := HK1.out; have := HJ2.out; omega⟩, ⟨q0_⟩⟩
        ·rw [if_neg c8] at H
         exact absurd H (by simp)
       ·rw [if_neg c7] at H
        exact absurd H (by simp)
      ·rw [if_neg c6] at H
       exact absurd H (by simp)
     ·replace c5 := Bool.eq_false_iff.mpr c5
      subst c5
      replace H := ifF_ H
      by_cases c23 : (l0.length : Int) < (l1.length : Int)
      ·rw [if_pos c23] at H
       have c23b0 : decide ((l0.length : Int) < (l1.length : Int)) = true := decide_eq_true c23
       have c23b1 : decide (l0.length < l1.length) = true := decide_eq_true (Int.ofNat_lt.mp c23)
       clear c23
       obtain rfl := Option.some.inj H
       go_wp2
       go_ret
       exact ⟨q4_, q0_⟩
      ·rw [if_neg c23] at H
       have c23b0 : decide ((l0.length : Int) < (l1.length : Int)) = false := decide_eq_false c23
       have c23b1 : decide (l0.length < l1.length) = false := decide_eq_false (fun h => c23 (Int.ofNat_lt.mpr h))
       clear c23
       by_cases c24 : (l0.length : Int) > (l1.length : Int)
       ·rw [if_pos c24] at H
        have c24b0 : decide ((l1.length : Int) < (l0.length : Int)) = true := decide_eq_true c24
        have c24b1 : decide (l1.length < l0.length) = true := decide_eq_true (Int.ofNat_lt.mp c24)
        clear c24
        obtain rfl := Option.some.inj H
        go_wp2
        go_ret
        exact ⟨q4_, q0_⟩
       ·rw [if_neg c24] at H
        have c24b0 : decide ((l1.length : Int) < (l0.length : Int)) = false := decide_eq_false c24
        have c24b1 : decide (l1.length < l0.length) = false := decide_eq_false (fun h => c24 (Int.ofNat_lt.mpr h))
        clear c24
        obtain rfl := Option.some.inj H
        go_wp2
        go_ret
        exact ⟨q4_, q0_⟩

end Go.Proofs.YtckligjgnbgdiaaDoor.P
