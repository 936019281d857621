-- HALVED
import Derived.Test.YtckligjgnbgdiaaDoorPx0
import Derived.Test.YtckligjgnbgdiaaDoorPx19
import Derived.Test.YtckligjgnbgdiaaDoorPx22
namespace Go.Proofs.YtckligjgnbgdiaaDoor.P
open Go.RowKit Go.Proofs.YtckligjgnbgdiaaDoorW.PrintWords Go.Proofs.YtckligjgnbgdiaaDoorW.PrintLast Go.Proofs.YtckligjgnbgdiaaDoorW.PrintMore
attribute [local go_sem] max2_int min2_mn max_two min_two max_three min_three max_four min_four   -- for this text's walks alone
set_option linter.unusedVariables false
set_option linter.unusedSimpArgs false

abbrev b77_0 : Array Bool := #[false, false, false, false, false, false, false, false, false, false, false]
abbrev b77_1 : Array Bool := #[true, false, false, false, false, false, false, false, false, false, false]
abbrev b77_2 : Array Bool := #[true, true, false, false, false, false, false, false, false, false, false]
abbrev b77_3 : Array Bool := #[true, true, false, false, true, false, false, false, false, false, false]
abbrev b77_4 : Array Bool := #[true, true, true, false, true, false, false, false, false, false, false]
abbrev b77_5 : Array Bool := #[true, true, true, false, true, true, false, false, false, false, false]
abbrev b77_6 : Array Bool := #[true, true, true, false, true, true, true, false, false, false, false]
abbrev b77_7 : Array Bool := #[true, true, true, true, true, true, true, false, false, false, false]
abbrev b77_8 : Array Bool := #[true, true, true, true, true, true, true, true, false, false, false]
abbrev b77_9 : Array Bool := #[true, true, true, true, true, true, true, true, true, false, false]
abbrev b77_10 : Array Bool := #[true, true, true, true, true, true, true, true, true, true, false]
abbrev b77_11 : Array Bool := #[true, true, true, true, true, true, true, true, true, true, true]
def bag_Neg.l0 : Nat → List (S27) → List (S27) → Int → Int → Option ((List (S27)) × Int)
 | 0, _, _, _, _ => none
 | k + 1, x4, x10, x11, x12 => if x12 < x11 then (if 0 ≤ x12 then (if x12 < (x10.length : Int) then ((api_Value_41.f ((rd_T27 x10 x12).f0)).bind fun t376 => (if x4.length < 4398046511104 then (bag_Neg.l0 k (x4 ++ [(⟨t376, wrap64 (-((rd_T27 x10 x12).f1))⟩ : S27)]) x10 x11 (wrap64 (x12 + 1))) else (none))) else (none)) else (none)) else (some (x4, 0))
def bag_Neg.f (k : Nat) (l0 : List (S27)) : Option ((List (S27)) × Int) := (bag_Right.f k l0).bind fun t373 => (if t373 = true then (bag_Neg.l0 k ([] : List (S27)) l0 (l0.length : Int) 0) else (some (([] : List (S27)), 1)))
theorem bag_Neg.mono_l : ∀ k, (∀ y0 y1 y2 y3, LeO (bag_Neg.l0 k y0 y1 y2 y3) (bag_Neg.l0 (k + 1) y0 y1 y2 y3))
 | 0 => fun _ _ _ _ r h => by simp [bag_Neg.l0] at h
 | k + 1 => by
  have ih0 := bag_Neg.mono_l k
  ·intro y0 y1 y2 y3
   unfold bag_Neg.l0
   repeat' first
   | (with_reducible exact ih0 _ _ _ _)
   | (with_reducible exact bag_Right.mono _ _)
   | (with_reducible exact LeO.refl _)
   | (with_reducible exact LeO.none _)
   | (with_reducible refine LeO.ite ?_ ?_)
   | (with_reducible refine LeO.bind ?_ (fun _ => ?_))
   | exact ih0 _ _ _ _
   | exact bag_Right.mono _ _
   | exact LeO.none _
   | refine LeO.ite ?_ ?_
   | refine LeO.bind ?_ (fun _ => ?_)
theorem bag_Neg.mono : ∀ a0 k, LeO (bag_Neg.f k a0) (bag_Neg.f (k + 1) a0) := by
 intro a0 k
 have ih0 := bag_Neg.mono_l k
 unfold bag_Neg.f
 repeat' first
   | (with_reducible exact ih0 _ _ _ _)
   | (with_reducible exact bag_Right.mono _ _)
   | (with_reducible exact LeO.refl _)
   | (with_reducible exact LeO.none _)
   | (with_reducible refine LeO.ite ?_ ?_)
   | (with_reducible refine LeO.bind ?_ (fun _ => ?_))
   | exact ih0 _ _ _ _
   | exact bag_Right.mono _ _
   | exact LeO.none _
   | refine LeO.ite ?_ ?_
   | refine LeO.bind ?_ (fun _ => ?_)
def bag_Neg.T7 : Bool × List (List Nat × List Nat) := (true, [([], []), ([], []), ([1], [1]), ([2], [2]), ([], []), ([4], [4]), ([5], [5]), ([3, 6], [3, 6]), ([7], [7]), ([0, 8, 3], [0, 8]), ([9, 9, 0, 1, 2, 3, 4, 5, 6, 7, 8, 9], [0, 9])])
def bag_Neg.B7 : List Nat := [0, 0, 2, 6, 0, 16, 48, 126, 254, 511, 1023]
theorem bag_Neg.tab7 : rtab .any (opsOf Tryd.f23 7) = bag_Neg.T7 := by kernel_rfl
theorem bag_Neg.bits7 : waitsOk bag_Neg.T7.2 bag_Neg.B7 = true := by kernel_rfl
set_option maxHeartbeats 8000000 in
set_option maxRecDepth 100000 in
theorem bag_Neg.calls (k : Nat) (A0 : Option Addr) (c0 : Nat) (l0 : List (S27)) (r1 : List (S27)) (r2 : Int) (w : World) (hr0 : Kd.C k27 w A0 l0.length l0) (hc0 : l0.length ≤ c0) (h : bag_Neg.f k l0 = some (r1, r2)) (hG : Glob w) :
  Calls Tryd.prog 23 #[.slice A0 l0.length c0] w fun e w' => ∃ v0_ : Value, e = .returned (.tuple #[v0_, .int .i64 r2]) ∧ Kd.S k27 27 w' w.heap.size (fun _ => True) v0_ r1 ∧ Below w.heap.size w w' := by
 have hu27 := Tryd.underlying27
 have HG := Aside0.mk hG
 clear hG
 have HR0 := Aside0.mk hr0
 have HC0 := Aside0.mk hc0
 clear hr0 hc0
 have HB := Aside0.mk (Below.refl w.heap.size w)
 have H : ((bag_Right.f k l0).bind fun t373 => (if t373 = true then (bag_Neg.l0 k ([] : List (S27)) l0 (l0.length : Int) 0) else (some (([] : List (S27)), 1)))) = some (r1, r2) := h
 clear h
 replace H := Option.bind_eq_some_iff.mp H
 obtain ⟨t373, A20, H⟩ := H
 replace H : (if t373 = true then (bag_Neg.l0 k ([] : List (S27)) l0 (l0.length : Int) 0) else (some (([] : List (S27)), 1))) = some (r1, r2) := H
 have A2 := Aside0.mk A20
 clear A20
 by_cases c3 : t373 = true
 ·subst c3
  replace H := ifT_ H
  have H' := Aside0.mk H
  clear H
  go_enter Tryd.func23, Tryd.ntmps23
  go_wp2_with (first | ((with_reducible refine gate_callee (f := 12) rfl ?_); refine goesL_ (some 8) rfl rfl Tryd.func12 (by kernel_rfl) rfl #[.slice A0 l0.length c0] rfl q2_ ?_; (with_reducible refine (bag_Right.calls k _ _ l0 true _ ?side1 ?side2 A2.out q1_).mono ?_); (case side1 => repeat (first | exact HR0.out | (with_reducible refine Kd.C_alloc ?_ _) | (with_reducible refine Kd.C_drewN ?_ _) | (with_reducible refine Kd.C_drew ?_))); (case side2 => exact HC0.out); rintro e w4 ⟨rfl, hb⟩; refine ⟨_, rfl, ?_⟩; have n0_ := Aside0.mk (below_step q0_ hb); clear HB; have HB := n0_; clear n0_; (try clear hb); (try clear hb2); (try clear hk); (try clear hi)))
  go_loopg [4, 12] k (fun kq v4 v12 w' => ∃ (x4_1 : List (S27)) (x12_1 : Int), v12 = .int .i64 x12_1 ∧ Aside0 (bag_Neg.l0 kq x4_1 l0 (l0.length : Int) x12_1 = some (r1, r2)) ∧ Aside0 (kq ≤ k) ∧ Aside0 (Kd.S k27 27 w' w.heap.size (fun _ => True) v4 x4_1) ∧ Aside0 (Below w.heap.size w w'))
  case atStart => exact ⟨(([] : List (S27))), (0), q9_, H', ⟨Nat.le_refl _⟩, ⟨q19_⟩, ⟨q0_⟩⟩
  case round =>
   clear H'
   try clear c1
   try clear c2
   try clear p2
   try clear c3
   obtain ⟨x4_1, x12_1, rfl, HA, HK1, HO_4, HB⟩ := hrel
   cases gk with
   | zero => exact absurd HA.out (by simp [bag_Neg.l0])
   | succ k1 =>
    have H := HA.out
    clear HA
    simp only [bag_Neg.l0] at H
    by_cases c5 : x12_1 < (l0.length : Int)
    ·rw [if_pos c5] at H
     have c5b0 : decide (x12_1 < (l0.length : Int)) = true := decide_eq_true c5
     clear c5
     by_cases c6 : 0 ≤ x12_1
     ·rw [if_pos c6] at H
      have c6b0 : decide (0 ≤ x12_1) = true := decide_eq_true c6
      clear c6
      by_cases c7 : x12_1 < (l0.length : Int)
      ·rw [if_pos c7] at H
       have c7b0 : decide (x12_1 < (l0.length : Int)) = true := decide_eq_true c7
       clear c7
       replace H := Option.bind_eq_some_iff.mp H
       obtain ⟨t376, A80, H⟩ := H
       replace H : (if x4_1.length < 4398046511104 then (bag_Neg.l0 k1 (x4_1 ++ [(⟨t376, wrap64 (-((rd_T27 l0 x12_1).f1))⟩ : S27)]) l0 (l0.length : Int) (wrap64 (x12_1 + 1))) else (none)) = some (r1, r2) := H
       have A8 := Aside0.mk A80
       clear A80
       by_cases c9 : x4_1.length < 4398046511104
       ·rw [if_pos c9] at H
        have LMc9 := Aside0.mk c9
        clear c9
        obtain ⟨y379, hy379⟩ : ∃ y_ : List (S27), y_ = (x4_1 ++ [(⟨t376, wrap64 (-((rd_T27 l0 x12_1).f1))⟩ : S27)]) := ⟨_, rfl⟩
        replace H : (bag_Neg.l0 k1 y379 l0 (l0.length : Int) (wrap64 (x12_1 + 1))) = some (r1, r2) := by first | (rw [hy379]; with_reducible exact H) | (have H2_ := (Option.bind_some _ _).symm.trans H; rw [hy379]; with_reducible exact H2_) | (have H2_ := (Option.bind_some _ _).symm.trans H; with_reducible exact H2_) | with_reducible exact H | (rw [hy379]; exact H) | exact H
        have Ny379 := Aside0.mk hy379
        clear hy379
        have H' := Aside0.mk H
        clear H
        have p374 : 0 ≤ (x12_1 : Int) := of_decide_eq_true q5_
        have q374 : x12_1 < (l0.length : Int) := of_decide_eq_true q5_
        obtain ⟨ad374, A374_0, c374_0, e374, hx374_0, hx374_1, hl374_0, hi374_0⟩ := at_T27 HR0.out x12_1 p374 q374
        cases e374
        replace hx374_0 := (HB.out.cell (World.block_lt_of_cell? w _ hx374_0)).trans hx374_0
        replace hx374_1 := (HB.out.cell (World.block_lt_of_cell? w _ hx374_1)).trans hx374_1
        have HR374_0 := Aside0.mk hi374_0
        have HC374_0 := Aside0.mk hl374_0
        clear hi374_0 hl374_0
        replace p374 := eq_true p374
        replace q374 := eq_true q374
        try go_wp2_with (first | ((with_reducible refine gate_dst (N := 6) rfl ?_); refine box_event ?hg (N := 6) ?hd (cs := #[.slice none 0 0, .int .i64 0]) (t := 27) ?hr ?_; (case hd => rfl); (case hg => rfl); (case hr => first | (go_simp; done) | (go_simp; rfl)); intro gb375 hg w10 hbox hb; have n0_ := Aside0.mk (Kd.S_below (Kd.S_elderB (by (with_reducible repeat (first | apply Kd.S_alloc | apply Kd.S_drewN | apply Kd.S_drew)); exact HO_4.out) gb375 (Nat.le_of_eq hg.symm)) hb); have n1_ := Aside0.mk (below_step q0_ hb); have n2_ := Aside0.mk (hbox); have n3_ := Aside0.mk ((q3_ : w.heap.size ≤ gb375)); have n4_ := Aside0.mk ((q3_ : w.heap.size ≤ gb375)); clear HO_4; clear HB; have HO_4 := n0_; have HB := n1_; have BK375 := n2_; have GW375 := n3_; have GE375 := n4_; clear n0_ n1_ n2_ n3_ n4_; clear hb hbox hg; have hcz11_0 : w10.cell? ⟨gb375, 0, none⟩ = some (.slice none 0 0) := (blk_cell BK375.out 0).trans rfl; have hcz11_1 : w10.cell? ⟨gb375, 1, none⟩ = some (.int .i64 0) := (blk_cell BK375.out 1).trans rfl; have hfz11_0 := blk_frozen BK375.out 0; have hfz11_1 := blk_frozen BK375.out 1))
        have n0_ : Aside0 (Kd.S k27 27 ((w10.setCell ⟨gb375, 0, none⟩ (.slice A374_0 ((rd_T27 l0 x12_1).f0).length c374_0)).setCell ⟨gb375, 1, none⟩ (.int .i64 ((rd_T27 l0 x12_1).f1))) w.heap.size (fun k_ => k_ ≠ gb375) u4 x4_1) := ⟨by (with_reducible repeat (first | apply Kd.S_alloc | apply Kd.S_drewN | apply Kd.S_drew)); exact Kd.S_mono (Kd.S_far (p := ⟨gb375, 1, none⟩) (Kd.S_far (p := ⟨gb375, 0, none⟩) (Kd.S_mono HO_4.out (fun k_ hk => (⟨hk, hk.2⟩ : _ ∧ k_ ≠ gb375))) (fun _ hk => hk.2) (.slice A374_0 ((rd_T27 l0 x12_1).f0).length c374_0)) (fun _ hk => hk.2) (.int .i64 ((rd_T27 l0 x12_1).f1))) (fun _ hk => hk.1.2)⟩
        have n1_ : Aside0 (((w10.setCell ⟨gb375, 0, none⟩ (.slice A374_0 ((rd_T27 l0 x12_1).f0).length c374_0)).setCell ⟨gb375, 1, none⟩ (.int .i64 ((rd_T27 l0 x12_1).f1))).heap[gb375]? = some (.cells #[.slice A374_0 ((rd_T27 l0 x12_1).f0).length c374_0, .int .i64 ((rd_T27 l0 x12_1).f1)] 27 (0, 0))) := ⟨by (with_reducible repeat first | apply bN_ | apply bD_ | apply bA_); refine blk_put (cs := #[.slice A374_0 ((rd_T27 l0 x12_1).f0).length c374_0, .int .i64 0]) ?_ 1 _ rfl; (with_reducible repeat first | apply bN_ | apply bD_ | apply bA_); refine blk_put (cs := #[.slice none 0 0, .int .i64 0]) ?_ 0 _ rfl; (with_reducible repeat first | apply bN_ | apply bD_ | apply bA_); exact BK375.out⟩
        have n2_ : Aside0 (Below w.heap.size w ((w10.setCell ⟨gb375, 0, none⟩ (.slice A374_0 ((rd_T27 l0 x12_1).f0).length c374_0)).setCell ⟨gb375, 1, none⟩ (.int .i64 ((rd_T27 l0 x12_1).f1)))) := ⟨q0_⟩
        (try clear HO_4)
        (try clear BK375)
        (try clear HB)
        generalize ((w10.setCell ⟨gb375, 0, none⟩ (.slice A374_0 ((rd_T27 l0 x12_1).f0).length c374_0)).setCell ⟨gb375, 1, none⟩ (.int .i64 ((rd_T27 l0 x12_1).f1))) = w12 at n0_ n1_ n2_ ⊢
        have HO_4 := n0_
        have BK375 := n1_
        have HB := n2_
        clear n0_ n1_ n2_
        have n0_ := Aside0.mk (Kd.S_drew HO_4.out)
        have n1_ := Aside0.mk (blk_drew BK375.out)
        have n2_ := Aside0.mk (below_drew1 HB.out)
        clear HO_4
        clear BK375
        clear HB
        have HO_4 := n0_
        have BK375 := n1_
        have HB := n2_
        clear n0_ n1_ n2_
        refine start_ (n := 11) (S := fun w' => w'.cell? ⟨gb375, 0, none⟩ = some (.slice A374_0 ((rd_T27 l0 x12_1).f0).length c374_0) ∧ w'.cell? ⟨gb375, 1, none⟩ = some (.int .i64 ((rd_T27 l0 x12_1).f1))) (ds := []) b77_0 (by kernel_rfl) rfl rfl ⟨(blk_cell BK375.out 0).trans rfl, (blk_cell BK375.out 1).trans rfl⟩ (fun hHeld => ?_); refine with_tabW bag_Neg.tab7 bag_Neg.bits7 (fun HT_ HW_ => ?_)
        generalize w12.drew = w13 at HO_4 BK375 HB hHeld ⊢
        refine pure_ (i := 0) (N := some 16) (v := ?_) (a' := ?_) b77_1 rfl rfl qh_ qi_ (Or.inl ⟨qr_, ?_⟩) ?_ ?_; rotate_left; (intro w'; go_simp; with_reducible rfl); rotate_left; exact qa_
        refine pure_ (i := 1) (N := some 17) (v := ?_) (a' := ?_) b77_2 rfl rfl qh_ qi_ (Or.inl ⟨qr_, ?_⟩) ?_ ?_; rotate_left; (intro w'; go_simp; with_reducible rfl); rotate_left; exact qa_
        refine pure_ (i := 4) (N := some 20) (v := ?_) (a' := ?_) b77_3 rfl rfl qh_ qi_ (Or.inl ⟨qr_, ?_⟩) ?_ ?_; rotate_left; (intro w'; go_simp; with_reducible rfl); rotate_left; exact qa_
        refine take_ (i := 2) (N := some 18) (v := ?_) (a' := ?_) b77_4 rfl rfl (take_ofW HT_.out HW_.out (by kernel_rfl)) (fun _ _ _ h => h) (Or.inl ⟨by rfl, ?_⟩) hHeld ?_ ?_; rotate_left; (rintro w' ⟨s0, s1⟩; go_simp; with_reducible rfl); rotate_left; exact qa_
        refine take_ (i := 5) (N := some 21) (v := ?_) (a' := ?_) b77_5 rfl rfl (take_ofW HT_.out HW_.out (by kernel_rfl)) (fun _ _ _ h => h) (Or.inl ⟨by rfl, ?_⟩) hHeld ?_ ?_; rotate_left; (rintro w' ⟨s0, s1⟩; go_simp; with_reducible rfl); rotate_left; exact qa_
        refine pure_ (i := 6) (N := some 22) (v := ?_) (a' := ?_) b77_6 rfl rfl qh_ qi_ (Or.inl ⟨qr_, ?_⟩) ?_ ?_; rotate_left; (intro w'; go_simp; with_reducible rfl); rotate_left; exact qa_
        refine one_ (i := 3) (N := some 19) b77_7 rfl rfl (one_of HT_.out (by kernel_rfl)) (by decide) (fun K hK => ?_)
        refine goes_ Tryd.func41 (by kernel_rfl) rfl #[.slice A374_0 ((rd_T27 l0 x12_1).f0).length c374_0] (by rfl) rfl rfl q2_ ?_
        with_reducible refine (api_Value_41.calls _ _ ((rd_T27 l0 x12_1).f0) t376 _ ?side1 ?side2 A8.out).mono ?_
        (case side1 => repeat (first | exact (Kd.C_below HR374_0.out HB.out) | (with_reducible refine Kd.C_alloc ?_ _) | (with_reducible refine Kd.C_drewN ?_ _) | (with_reducible refine Kd.C_drew ?_)))
        (case side2 => exact HC374_0.out)
        rintro e w14 ⟨v377, rfl, ho0, hb⟩
        refine ⟨_, rfl, ?_⟩
        have n0_ := Aside0.mk (Kd.S_elder' (by (with_reducible repeat (first | apply Kd.S_alloc | apply Kd.S_drewN | apply Kd.S_drew)); exact HO_4.out) (Kd.R_base ho0) hb)
        have n1_ := Aside0.mk (Kd.R_lower ho0 (below_size q0_))
        have n2_ := Aside0.mk (blk_below (g := gb375) (o := .cells #[.slice A374_0 ((rd_T27 l0 x12_1).f0).length c374_0, .int .i64 ((rd_T27 l0 x12_1).f1)] 27 (0, 0)) (by (with_reducible repeat first | apply bN_ | apply bD_ | apply bA_); exact BK375.out) hb)
        have n3_ := Aside0.mk (below_step q0_ hb)
        clear HO_4
        clear BK375
        clear HB
        have HO_4 := n0_
        have HO378 := n1_
        have BK375 := n2_
        have HB := n3_
        clear n0_ n1_ n2_ n3_
        (try clear hb)
        (try clear hb2)
        (try clear hk)
        (try clear hi)
        (try clear ho0)
        obtain ⟨Ao15, co15, eo15⟩ := Kd.R_slice HO378.out
        (first | subst eo15 | (injection eo15 with f1_ f2_ f3_; have f4_ := f1_.symm; have f5_ := f3_.symm; clear f1_ f2_ f3_; subst f4_; subst f5_))
        refine hK.out _ _ ⟨(blk_cell BK375.out 0).trans rfl, (blk_cell BK375.out 1).trans rfl⟩ (fun hHeld => ?_)
        clear hK K
        refine norm_ (a' := ?_) ?_ ?_
        rotate_left
        ·show Act.put _ (some 19) _ = _
         simp only [Act.put, List.setIfInBounds_toArray, List.set_cons_zero, List.set_cons_succ, i64_w, i32_w]
         rfl
        refine pure_ (i := 7) (N := some 23) (v := ?_) (a' := ?_) b77_8 rfl rfl qh_ qi_ (Or.inl ⟨qr_, ?_⟩) ?_ ?_; rotate_left; (intro w'; go_simp; with_reducible rfl); rotate_left; exact qa_
        refine one_ (i := 8) (N := some 24) b77_9 rfl rfl (one_of HT_.out (by kernel_rfl)) (by decide) (fun K hK => ?_)
        refine value_ (w1 := ?_) (v := ?_) (by rfl) rfl ?_ ?_
        rotate_left 2
        ·go_simp
         constructor
         ·rfl
         ·rfl
        refine hK.out _ _ ⟨(blk_cell (blk_alloc BK375.out _) 0).trans rfl, (blk_cell (blk_alloc BK375.out _) 1).trans rfl⟩ (fun hHeld => ?_)
        clear hK K
        refine norm_ (a' := ?_) ?_ ?_
        rotate_left
        ·show Act.put _ (some 24) _ = _
         simp only [Act.put, List.setIfInBounds_toArray, List.set_cons_zero, List.set_cons_succ, i64_w, i32_w]
         rfl
        refine one_ (i := 9) (N := some 25) b77_10 rfl rfl (one_of HT_.out (by kernel_rfl)) (by decide) (fun K hK => ?_)
        refine Kd.S_append_step k27 (w0 := w) w.heap.size (by rfl) (.tmp 16) (.tmp 24) 22 27 (.agg #[(.slice none 0 0), (.int .i64 0)]) 32 rfl Tryd.underlying22 info27 rfl (by decide) (by omega) u4 x4_1 (⟨t376, wrap64 (-((rd_T27 l0 x12_1).f1))⟩ : S27) [.slice Ao15 t376.length co15, .int .i64 (wrap64 (-((rd_T27 l0 x12_1).f1)))] (fun k_ => k_ ≠ gb375) (fun k_ => some k_ = (.slice Ao15 t376.length co15 : Value).ownBlock) rfl rfl ?aP (fun k_ hk_ => ((Kd.R_mono (ok' := fun k_ => ((fun k_ => k_ ≠ gb375)) k_ ∧ some k_ ≠ (u4 : Value).ownBlock) (Kd.R_types (Kd.R_apart' (HO378.out) (Kd.S_typed HO_4.out) (by decide)) BK375.out (by decide)) (fun k_ hk => ⟨hk.2, hk.1.2⟩))).1 k_ hk_.symm) ?aF ?aO ?aB ?aS ?aL ?_
        (case aP => exact k27_mkM _ _ _ (⟨t376, wrap64 (-((rd_T27 l0 x12_1).f1))⟩ : S27) (Kd.R_mono (Kd.R_tight rfl (Kd.R_mono (ok' := fun k_ => ((fun k_ => k_ ≠ gb375)) k_ ∧ some k_ ≠ (u4 : Value).ownBlock) (Kd.R_types (Kd.R_apart' (HO378.out) (Kd.S_typed HO_4.out) (by decide)) BK375.out (by decide)) (fun k_ hk => ⟨hk.2, hk.1.2⟩))) (fun _ h_ => h_)))
        (case aB => exact q0_)
        (case aF => exact (fun k_ hk => Kd.freshB (g := gb375) (o := .cells #[.slice A374_0 ((rd_T27 l0 x12_1).f0).length c374_0, .int .i64 ((rd_T27 l0 x12_1).f1)] 27 (0, 0)) (by (with_reducible repeat first | apply bN_ | apply bD_ | apply bA_); exact BK375.out) k_ hk))
        (case aO => exact (by (with_reducible repeat (first | apply Kd.S_alloc | apply Kd.S_drewN | apply Kd.S_drew)); exact Kd.S_mono HO_4.out (fun k_ hk => ⟨hk.1, fun e_ => hk.2 e_⟩)))
        (case aS => exact (below_size q0_))
        (case aL => have := LMc9.out; omega)
        intro v380 w16 ho hb hg hat
        rw [← Ny379.out] at ho
        have n0_ := Aside0.mk (blk_grown (g := gb375) (o := .cells #[.slice A374_0 ((rd_T27 l0 x12_1).f0).length c374_0, .int .i64 ((rd_T27 l0 x12_1).f1)] 27 (0, 0)) (by (with_reducible repeat first | apply bN_ | apply bD_ | apply bA_); exact BK375.out) hg (Kd.S_away HO_4.out (fun _ hk => hk.1)))
        have n1_ := Aside0.mk (hb)
        have n2_ := Aside0.mk (ho)
        clear BK375
        clear HB
        clear HO_4
        clear HO378
        have BK375 := n0_
        have HB := n1_
        have HO381 := n2_
        clear n0_ n1_ n2_
        clear ho hb hg hat
        refine hK.out _ _ ⟨(blk_cell BK375.out 0).trans rfl, (blk_cell BK375.out 1).trans rfl⟩ (fun hHeld => ?_)
        clear hK K
        refine norm_ (a' := ?_) ?_ ?_
        rotate_left
        ·show Act.put _ (some 25) _ = _
         simp only [Act.put, List.setIfInBounds_toArray, List.set_cons_zero, List.set_cons_succ, i64_w, i32_w]
         rfl
        refine pure_ (i := 10) (N := some 4) (v := ?_) (a' := ?_) b77_11 rfl rfl qh_ qi_ (Or.inl ⟨qr_, ?_⟩) ?_ ?_; rotate_left; (intro w'; go_simp; with_reducible rfl); rotate_left; exact qa_
        refine done_ (done_of HT_.out (by kernel_rfl)) ?_
        try go_wp2
        go_roundg k1
        case measure => have := HK1.out; omega
        case rel => exact ⟨(y379), (wrap64 (x12_1 + 1)), q9_, H', ⟨by have := HK1.out; omega⟩, ⟨by (with_reducible repeat (first | apply Kd.S_alloc | apply Kd.S_drewN | apply Kd.S_drew)); exact Kd.S_mono HO381.out (fun _ hk => trivial)⟩, ⟨q0_⟩⟩
       ·rw [if_neg c9] at H
        exact absurd H (by simp)
      ·rw [if_neg c7] at H
       exact absurd H (by simp)
     ·rw [if_neg c6] at H
      exact absurd H (by simp)
    ·rw [if_neg c5] at H
     have c5b0 : decide (x12_1 < (l0.length : Int)) = false := decide_eq_false c5
     clear c5
     simp only [Option.some.injEq, Prod.mk.injEq] at H
     obtain ⟨rfl, rfl⟩ := H
     go_wp2
     go_ret2
     exact ⟨_, q4_, by (with_reducible repeat (first | apply Kd.S_alloc | apply Kd.S_drewN | apply Kd.S_drew)); exact HO_4.out, q0_⟩
 ·replace c3 := Bool.eq_false_iff.mpr c3
  subst c3
  replace H := ifF_ H
  simp only [Option.some.injEq, Prod.mk.injEq] at H
  obtain ⟨rfl, rfl⟩ := H
  go_enter Tryd.func23, Tryd.ntmps23
  go_wp2_with (first | ((with_reducible refine gate_callee (f := 12) rfl ?_); refine goesL_ (some 8) rfl rfl Tryd.func12 (by kernel_rfl) rfl #[.slice A0 l0.length c0] rfl q2_ ?_; (with_reducible refine (bag_Right.calls k _ _ l0 false _ ?side1 ?side2 A2.out q1_).mono ?_); (case side1 => repeat (first | exact HR0.out | (with_reducible refine Kd.C_alloc ?_ _) | (with_reducible refine Kd.C_drewN ?_ _) | (with_reducible refine Kd.C_drew ?_))); (case side2 => exact HC0.out); rintro e w17 ⟨rfl, hb⟩; refine ⟨_, rfl, ?_⟩; have n0_ := Aside0.mk (below_step q0_ hb); clear HB; have HB := n0_; clear n0_; (try clear hb); (try clear hb2); (try clear hk); (try clear hi)))
  go_ret2
  exact ⟨_, q4_, q19_, q0_⟩

end Go.Proofs.YtckligjgnbgdiaaDoor.P
