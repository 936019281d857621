-- Written by our own program (wip/xprint) over the seat's translation. Lean checks it.
import Derived.Test.YtiamgfpeffjcjaaDoorPx0
import Derived.Test.YtiamgfpeffjcjaaDoorPx15
import Derived.Test.YtiamgfpeffjcjaaDoorPx2
import Derived.Test.YtiamgfpeffjcjaaDoorPx37
import Derived.Test.YtiamgfpeffjcjaaDoorPx38
import Derived.Test.YtiamgfpeffjcjaaDoorPx39
namespace Go.Proofs.YtiamgfpeffjcjaaDoor.P
open Go.RowKit Go.Proofs.YtiamgfpeffjcjaaDoorW.PrintWords Go.Proofs.YtiamgfpeffjcjaaDoorW.PrintLast Go.Proofs.YtiamgfpeffjcjaaDoorW.PrintMore
attribute [local go_sem] max2_int min2_int max_two min_two max_three min_three max_four min_four   -- for this text's walks alone
set_option linter.unusedVariables false
set_option linter.unusedSimpArgs false


/-! ### corollarylaw10_ExprSound: function 3 -/
mutual
def corollarylaw10_ExprSound.j0 : Nat → List (S39) → List Int → List (S31) → Bool → Option (Bool)
  | 0, _, _, _, _ => none
  | k + 1, x0, x1, x2, x24 => if x24 = true then ((corollarylaw10_awake.f k).bind fun t306 => (some t306)) else ((expr_Type.f k x0 x1).bind fun bt307 => (if bt307.2 = 0 then (corollarylaw10_ExprSound.l0 k x0 x1 x2 bt307.1 x2 (x2.length : Int) 0) else ((corollarylaw10_awake.f k).bind fun t309 => (some t309))))
def corollarylaw10_ExprSound.l0 : Nat → List (S39) → List Int → List (S31) → Int → List (S31) → Int → Int → Option (Bool)
  | 0, _, _, _, _, _, _, _ => none
  | k + 1, x0, x1, x2, x7, x35, x36, x37 => if x37 < x36 then (if 0 ≤ x37 then (if x37 < (x35.length : Int) then ((corollaryref01_Right.f k ((rd_T31 x35 x37).f0) ((rd_T31 x35 x37).f1) ((rd_T31 x35 x37).f2)).bind fun t312 => (if t312 = true then (if ((rd_T31 x35 x37).f0) = 0 then (corollarylaw10_ExprSound.j2 k x0 x1 x2 x7 x35 x36 x37 false) else (if x37 < (x1.length : Int) then (corollarylaw10_ExprSound.j2 k x0 x1 x2 x7 x35 x36 x37 (((rd_T31 x35 x37).f0) != (rd x1 x37))) else (none))) else (corollarylaw10_ExprSound.j2 k x0 x1 x2 x7 x35 x36 x37 true))) else (none)) else (none)) else ((expr_Eval.f k x0 x2).bind fun bt315 => (if bt315.2.2.2 = 14 then ((corollarylaw10_awake.f k).bind fun t320 => (some t320)) else (if bt315.2.2.2 = 0 then (if bt315.1 = 0 then ((corollaryref01_Right.f k bt315.1 bt315.2.1 bt315.2.2.1).bind fun t321 => (if t321 = true then ((corollarylaw10_awake.f k).bind fun t322 => (some t322)) else (some false))) else (if bt315.1 = x7 then ((corollaryref01_Right.f k bt315.1 bt315.2.1 bt315.2.2.1).bind fun t323 => (if t323 = true then ((corollarylaw10_awake.f k).bind fun t324 => (some t324)) else (some false))) else (some false))) else (some false))))
def corollarylaw10_ExprSound.j2 : Nat → List (S39) → List Int → List (S31) → Int → List (S31) → Int → Int → Bool → Option (Bool)
  | 0, _, _, _, _, _, _, _, _ => none
  | k + 1, x0, x1, x2, x7, x35, x36, x37, x58 => if x58 = true then ((corollarylaw10_awake.f k).bind fun t314 => (some t314)) else (corollarylaw10_ExprSound.l0 k x0 x1 x2 x7 x35 x36 (wrap64 (x37 + 1)))
end
def corollarylaw10_ExprSound.f (k : Nat) (l0 : List (S39)) (l1 : List Int) (l2 : List (S31)) : Option (Bool) := (corollarylaw10_few.f l0 (l2.length : Int)).bind fun t305 => (if t305 = true then (corollarylaw10_ExprSound.j0 k l0 l1 l2 ((l1.length : Int) != (l2.length : Int))) else (corollarylaw10_ExprSound.j0 k l0 l1 l2 true))
theorem corollarylaw10_ExprSound.mono_l : ∀ k, (∀ y0 y1 y2 y3, LeO (corollarylaw10_ExprSound.j0 k y0 y1 y2 y3) (corollarylaw10_ExprSound.j0 (k + 1) y0 y1 y2 y3)) ∧ (∀ y0 y1 y2 y3 y4 y5 y6, LeO (corollarylaw10_ExprSound.l0 k y0 y1 y2 y3 y4 y5 y6) (corollarylaw10_ExprSound.l0 (k + 1) y0 y1 y2 y3 y4 y5 y6)) ∧ (∀ y0 y1 y2 y3 y4 y5 y6 y7, LeO (corollarylaw10_ExprSound.j2 k y0 y1 y2 y3 y4 y5 y6 y7) (corollarylaw10_ExprSound.j2 (k + 1) y0 y1 y2 y3 y4 y5 y6 y7))
  | 0 => ⟨fun _ _ _ _ r h => by simp [corollarylaw10_ExprSound.j0] at h, fun _ _ _ _ _ _ _ r h => by simp [corollarylaw10_ExprSound.l0] at h, fun _ _ _ _ _ _ _ _ r h => by simp [corollarylaw10_ExprSound.j2] at h⟩
  | k + 1 => by
    obtain ⟨ih0, ih1, ih2⟩ := corollarylaw10_ExprSound.mono_l k
    refine ⟨?_, ?_, ?_⟩
    all_goals intros
    all_goals first
      | unfold corollarylaw10_ExprSound.j0
      | unfold corollarylaw10_ExprSound.l0
      | unfold corollarylaw10_ExprSound.j2
    all_goals repeat' first
      | (with_reducible exact ih0 _ _ _ _)
      | (with_reducible exact ih1 _ _ _ _ _ _ _)
      | (with_reducible exact ih2 _ _ _ _ _ _ _ _)
      | (with_reducible exact corollarylaw10_awake.mono _)
      | (with_reducible exact corollaryref01_Right.mono _ _ _ _)
      | (with_reducible exact expr_Eval.mono _ _ _)
      | (with_reducible exact expr_Type.mono _ _ _)
      | (with_reducible exact LeO.refl _)
      | (with_reducible exact LeO.none _)
      | (with_reducible refine LeO.ite ?_ ?_)
      | (with_reducible refine LeO.bind ?_ (fun _ => ?_))
      | exact ih0 _ _ _ _
      | exact ih1 _ _ _ _ _ _ _
      | exact ih2 _ _ _ _ _ _ _ _
      | exact corollarylaw10_awake.mono _
      | exact corollaryref01_Right.mono _ _ _ _
      | exact expr_Eval.mono _ _ _
      | exact expr_Type.mono _ _ _
      | exact LeO.none _
      | refine LeO.ite ?_ ?_
      | refine LeO.bind ?_ (fun _ => ?_)
theorem corollarylaw10_ExprSound.mono : ∀ a0 a1 a2 k, LeO (corollarylaw10_ExprSound.f k a0 a1 a2) (corollarylaw10_ExprSound.f (k + 1) a0 a1 a2) := by
  intro a0 a1 a2 k
  obtain ⟨ih0, ih1, ih2⟩ := corollarylaw10_ExprSound.mono_l k
  unfold corollarylaw10_ExprSound.f
  repeat' first
      | (with_reducible exact ih0 _ _ _ _)
      | (with_reducible exact ih1 _ _ _ _ _ _ _)
      | (with_reducible exact ih2 _ _ _ _ _ _ _ _)
      | (with_reducible exact corollarylaw10_awake.mono _)
      | (with_reducible exact corollaryref01_Right.mono _ _ _ _)
      | (with_reducible exact expr_Eval.mono _ _ _)
      | (with_reducible exact expr_Type.mono _ _ _)
      | (with_reducible exact LeO.refl _)
      | (with_reducible exact LeO.none _)
      | (with_reducible refine LeO.ite ?_ ?_)
      | (with_reducible refine LeO.bind ?_ (fun _ => ?_))
      | exact ih0 _ _ _ _
      | exact ih1 _ _ _ _ _ _ _
      | exact ih2 _ _ _ _ _ _ _ _
      | exact corollarylaw10_awake.mono _
      | exact corollaryref01_Right.mono _ _ _ _
      | exact expr_Eval.mono _ _ _
      | exact expr_Type.mono _ _ _
      | exact LeO.none _
      | refine LeO.ite ?_ ?_
      | refine LeO.bind ?_ (fun _ => ?_)
def corollarylaw10_ExprSound.T9 : Bool × List (List Nat × List Nat) := (true, [([], []), ([0], [0]), ([1], [1]), ([2, 1], [2]), ([3], [3]), ([4, 3], [3, 4]), ([5, 3], [3, 5]), ([6, 3, 3], [3, 6]), ([7], [7]), ([8, 7], [7, 8]), ([7], [7]), ([7], [7]), ([10, 11, 7], [7, 10, 11]), ([12, 7], [7, 12]), ([9, 13, 7], [7, 9, 13]), ([7, 14, 3], [3, 7, 14]), ([3, 15], [3, 15])])
def corollarylaw10_ExprSound.B9 : List Nat := [0, 1, 3, 7, 15, 31, 63, 127, 255, 511, 255, 255, 3327, 7423, 16383, 32767, 65535]
theorem corollarylaw10_ExprSound.tab9 : rtab .any (opsOf Tryd.f3 9) = corollarylaw10_ExprSound.T9 := by kernel_rfl
theorem corollarylaw10_ExprSound.bits9 : waitsOk corollarylaw10_ExprSound.T9.2 corollarylaw10_ExprSound.B9 = true := by kernel_rfl
set_option maxHeartbeats 8000000 in
set_option maxRecDepth 100000 in
theorem corollarylaw10_ExprSound.calls (k : Nat) (A0 : Option Addr) (c0 : Nat) (l0 : List (S39)) (A1 : Option Addr) (c1 : Nat) (l1 : List Int) (A2 : Option Addr) (c2 : Nat) (l2 : List (S31)) (r : Bool) (w : World) (hr0 : Kd.C k39 w A0 l0.length l0) (hc0 : l0.length ≤ c0) (hr1 : Kd.C (Kd.int .i64) w A1 l1.length l1) (hc1 : l1.length ≤ c1) (hr2 : Kd.C k31 w A2 l2.length l2) (hc2 : l2.length ≤ c2) (h : corollarylaw10_ExprSound.f k l0 l1 l2 = some r) (hG : Glob w) :
    Calls Tryd.prog 3 #[.slice A0 l0.length c0, .slice A1 l1.length c1, .slice A2 l2.length c2] w fun e w' => e = .returned (.bool r) ∧ Below w.heap.size w w' := by
  have hu31 := Tryd.underlying31
  have HG := Aside0.mk hG
  clear hG
  have HR0 := Aside0.mk hr0
  have HC0 := Aside0.mk hc0
  clear hr0 hc0
  have HR1 := Aside0.mk hr1
  have HC1 := Aside0.mk hc1
  clear hr1 hc1
  have HR2 := Aside0.mk hr2
  have HC2 := Aside0.mk hc2
  clear hr2 hc2
  have HB := Aside0.mk (Below.refl w.heap.size w)
  have H : ((corollarylaw10_few.f l0 (l2.length : Int)).bind fun t305 => (if t305 = true then (corollarylaw10_ExprSound.j0 k l0 l1 l2 ((l1.length : Int) != (l2.length : Int))) else (corollarylaw10_ExprSound.j0 k l0 l1 l2 true))) = some r := h
  clear h
  have HC4 := Aside0.mk H
  clear H
  go_enter Tryd.func3, Tryd.ntmps3
  go_upto_region 1 with (fail)
  go_cut [24] (fun v24 wc => ∃ (kq : Nat) (x24_3 : Bool), v24 = .bool x24_3 ∧ Aside0 (corollarylaw10_ExprSound.j0 kq l0 l1 l2 x24_3 = some r) ∧ Aside0 (kq ≤ k) ∧ Aside0 (Below w.heap.size w wc))
  case first =>
    have H := HC4.out
    clear HC4
    replace H := Option.bind_eq_some_iff.mp H
    obtain ⟨t305, A50, H⟩ := H
    replace H : (if t305 = true then (corollarylaw10_ExprSound.j0 k l0 l1 l2 ((l1.length : Int) != (l2.length : Int))) else (corollarylaw10_ExprSound.j0 k l0 l1 l2 true)) = some r := H
    have A5 := Aside0.mk A50
    clear A50
    by_cases c6 : t305 = true
    · subst c6
      replace H := ifT_ H
      have H' := Aside0.mk H
      clear H
      go_wp2_with (first | ((with_reducible refine gate_callee (f := 8) rfl ?_); refine goesL_ (some 16) rfl rfl Tryd.func8 (by kernel_rfl) rfl #[.slice A0 l0.length c0, .int .i64 (l2.length : Int)] rfl q2_ ?_; (with_reducible refine (corollarylaw10_few.calls _ _ l0 (l2.length : Int) true _ ?side1 ?side2 A5.out).mono ?_); (case side1 => repeat (first | exact (Kd.C_below HR0.out HB.out) | (with_reducible refine Kd.C_alloc ?_ _) | (with_reducible refine Kd.C_drewN ?_ _) | (with_reducible refine Kd.C_drew ?_))); (case side2 => exact HC0.out); rintro e w' ⟨rfl, ⟨nd, rfl⟩⟩; refine ⟨_, rfl, ?_⟩))
      go_meet
      case rel => exact ⟨_, (((l1.length : Int) != (l2.length : Int))), q7_, H', ⟨by first | omega | exact Nat.le_refl _⟩, ⟨q0_⟩⟩
    · replace c6 := Bool.eq_false_iff.mpr c6
      subst c6
      replace H := ifF_ H
      have H' := Aside0.mk H
      clear H
      go_wp2_with (first | ((with_reducible refine gate_callee (f := 8) rfl ?_); refine goesL_ (some 16) rfl rfl Tryd.func8 (by kernel_rfl) rfl #[.slice A0 l0.length c0, .int .i64 (l2.length : Int)] rfl q2_ ?_; (with_reducible refine (corollarylaw10_few.calls _ _ l0 (l2.length : Int) false _ ?side1 ?side2 A5.out).mono ?_); (case side1 => repeat (first | exact (Kd.C_below HR0.out HB.out) | (with_reducible refine Kd.C_alloc ?_ _) | (with_reducible refine Kd.C_drewN ?_ _) | (with_reducible refine Kd.C_drew ?_))); (case side2 => exact HC0.out); rintro e w' ⟨rfl, ⟨nd, rfl⟩⟩; refine ⟨_, rfl, ?_⟩))
      go_meet
      case rel => exact ⟨_, (true), q7_, H', ⟨by first | omega | exact Nat.le_refl _⟩, ⟨q0_⟩⟩
  case rest =>
    clear HC4
    try clear c1
    try clear c2
    try clear p2
    try clear c3
    try clear c6
    obtain ⟨kq, x24_3, rfl, HA, HJ3, HB⟩ := hcut
    cases kq with
    | zero => exact absurd HA.out (by simp [corollarylaw10_ExprSound.j0])
    | succ kj3 =>
      have H := HA.out
      clear HA
      simp only [corollarylaw10_ExprSound.j0] at H
      by_cases c7 : x24_3 = true
      · subst c7
        replace H := ifT_ H
        replace H := Option.bind_eq_some_iff.mp H
        obtain ⟨t306, A80, H⟩ := H
        replace H : (some t306) = some r := H
        have A8 := Aside0.mk A80
        clear A80
        obtain rfl := Option.some.inj H
        go_wp2_with (first | ((with_reducible refine gate_callee (f := 9) rfl ?_); refine goesL_ (some 25) rfl rfl Tryd.func9 (by kernel_rfl) rfl #[] rfl q2_ ?_; (with_reducible refine (corollarylaw10_awake.calls kj3  t306 _ A8.out q3_).mono ?_); rintro e w9 ⟨rfl, hb⟩; refine ⟨_, rfl, ?_⟩; have n0_ := Aside0.mk (below_step q0_ hb); clear HB; have HB := n0_; clear n0_; (try clear hb); (try clear hb2); (try clear hk); (try clear hi)))
        go_ret
        exact ⟨q4_, q0_⟩
      · replace c7 := Bool.eq_false_iff.mpr c7
        subst c7
        replace H := ifF_ H
        replace H := Option.bind_eq_some_iff.mp H
        obtain ⟨⟨t307, t308⟩, A100, H⟩ := H
        replace H : (if t308 = 0 then (corollarylaw10_ExprSound.l0 kj3 l0 l1 l2 t307 l2 (l2.length : Int) 0) else ((corollarylaw10_awake.f kj3).bind fun t309 => (some t309))) = some r := H
        have A10 := Aside0.mk A100
        clear A100
        by_cases c11 : t308 = 0
        · rw [if_pos c11] at H
          have c11b0 : (t308 == 0) = true := beq_iff_eq.mpr c11
          have c11b1 : (t308 != 0) = false := bne_eq_false_iff_eq.mpr c11
          clear c11
          have H' := Aside0.mk H
          clear H
          go_wp2_with (first | ((with_reducible refine gate_callee (f := 10) rfl ?_); refine goesL_ (some 29) rfl rfl Tryd.func10 (by kernel_rfl) rfl #[.slice A0 l0.length c0, .slice A1 l1.length c1] rfl q2_ ?_; (with_reducible refine (expr_Type.calls kj3 _ _ l0 _ _ l1 t307 t308 _ ?side1 ?side2 ?side3 ?side4 A10.out q3_).mono ?_); (case side1 => repeat (first | exact (Kd.C_below HR0.out HB.out) | (with_reducible refine Kd.C_alloc ?_ _) | (with_reducible refine Kd.C_drewN ?_ _) | (with_reducible refine Kd.C_drew ?_))); (case side2 => exact HC0.out); (case side3 => repeat (first | exact (Kd.C_below HR1.out HB.out) | (with_reducible refine Kd.C_alloc ?_ _) | (with_reducible refine Kd.C_drewN ?_ _) | (with_reducible refine Kd.C_drew ?_))); (case side4 => exact HC1.out); rintro e w12 ⟨rfl, hb⟩; refine ⟨_, rfl, ?_⟩; have n0_ := Aside0.mk (below_step q0_ hb); clear HB; have HB := n0_; clear n0_; (try clear hb); (try clear hb2); (try clear hk); (try clear hi)))
          go_loopg [37] kj3 (fun kq v37 w' => ∃ (x37_2 : Int), v37 = .int .i64 x37_2 ∧ Aside0 (corollarylaw10_ExprSound.l0 kq l0 l1 l2 t307 l2 (l2.length : Int) x37_2 = some r) ∧ Aside0 (kq ≤ kj3) ∧ Aside0 (Below w.heap.size w w'))
          case atStart => exact ⟨(0), q7_, H', ⟨Nat.le_refl _⟩, ⟨q0_⟩⟩
          case round =>
            clear H'
            try clear c1
            try clear c2
            try clear p2
            try clear c3
            try clear c6
            try clear c7
            try clear c8
            try clear c9
            try clear c10
            try clear c11
            try clear c11b0
            try clear c11b1
            try clear p2
            obtain ⟨x37_2, rfl, HA, HK2, HB⟩ := hrel
            cases gk with
            | zero => exact absurd HA.out (by simp [corollarylaw10_ExprSound.l0])
            | succ k2 =>
              have H := HA.out
              clear HA
              simp only [corollarylaw10_ExprSound.l0] at H
              by_cases c13 : x37_2 < (l2.length : Int)
              · rw [if_pos c13] at H
                have c13b0 : decide (x37_2 < (l2.length : Int)) = true := decide_eq_true c13
                clear c13
                by_cases c14 : 0 ≤ x37_2
                · rw [if_pos c14] at H
                  have c14b0 : decide (0 ≤ x37_2) = true := decide_eq_true c14
                  clear c14
                  by_cases c15 : x37_2 < (l2.length : Int)
                  · rw [if_pos c15] at H
                    have c15b0 : decide (x37_2 < (l2.length : Int)) = true := decide_eq_true c15
                    clear c15
                    have HC16 := Aside0.mk H
                    clear H
                    have p310 : 0 ≤ (x37_2 : Int) := of_decide_eq_true q11_
                    have q310 : x37_2 < (l2.length : Int) := of_decide_eq_true q11_
                    obtain ⟨ad310, e310, hx310_0, hx310_1, hx310_2⟩ := at_T31 HR2.out x37_2 p310 q310
                    cases e310
                    replace hx310_0 := (HB.out.cell (World.block_lt_of_cell? w _ hx310_0)).trans hx310_0
                    replace hx310_1 := (HB.out.cell (World.block_lt_of_cell? w _ hx310_1)).trans hx310_1
                    replace hx310_2 := (HB.out.cell (World.block_lt_of_cell? w _ hx310_2)).trans hx310_2
                    replace p310 := eq_true p310
                    replace q310 := eq_true q310
                    go_upto_region 9 with (first | ((with_reducible refine gate_dst (N := 10) rfl ?_); (try (refine gate_guard (by rfl) ?_; dsimp only)); refine box_event ?hg (N := 10) ?hd (cs := #[.int .i64 0, .int .i64 0, .string (⟨#[]⟩ : ByteArray)]) (t := 31) ?hr ?_; (case hd => rfl); (case hg => rfl); (case hr => first | (go_simp; done) | (go_simp; rfl)); intro gb311 hg w17 hbox hb; have n0_ := Aside0.mk (below_step q0_ hb); have n1_ := Aside0.mk (hbox); have n2_ := Aside0.mk ((q1_ : w.heap.size ≤ gb311)); have n3_ := Aside0.mk ((q1_ : w.heap.size ≤ gb311)); clear HB; have HB := n0_; have BK311 := n1_; have GW311 := n2_; have GE311 := n3_; clear n0_ n1_ n2_ n3_; clear hb hbox hg; have hcz18_0 : w17.cell? ⟨gb311, 0, none⟩ = some (.int .i64 0) := (blk_cell BK311.out 0).trans rfl; have hcz18_1 : w17.cell? ⟨gb311, 1, none⟩ = some (.int .i64 0) := (blk_cell BK311.out 1).trans rfl; have hcz18_2 : w17.cell? ⟨gb311, 2, none⟩ = some (.string (⟨#[]⟩ : ByteArray)) := (blk_cell BK311.out 2).trans rfl; have hfz18_0 := blk_frozen BK311.out 0; have hfz18_1 := blk_frozen BK311.out 1; have hfz18_2 := blk_frozen BK311.out 2))
                    (try simp only [Act.put, List.setIfInBounds_toArray, List.set_cons_zero, List.set_cons_succ])
                    go_cut [58] (fun v58 wc => ∃ (kq : Nat) (x58_15 : Bool), v58 = .bool x58_15 ∧ Aside0 (corollarylaw10_ExprSound.j2 kq l0 l1 l2 t307 l2 (l2.length : Int) x37_2 x58_15 = some r) ∧ Aside0 (kq ≤ k2) ∧ Aside0 (wc.heap[gb311]? = some (.cells #[.int .i64 ((rd_T31 l2 x37_2).f0), .int .i64 ((rd_T31 l2 x37_2).f1), .string ((rd_T31 l2 x37_2).f2)] 31 (0, 0))) ∧ Aside0 (Below w.heap.size w wc))
                    case first =>
                      have H := HC16.out
                      clear HC16
                      replace H := Option.bind_eq_some_iff.mp H
                      obtain ⟨t312, A190, H⟩ := H
                      replace H : (if t312 = true then (if ((rd_T31 l2 x37_2).f0) = 0 then (corollarylaw10_ExprSound.j2 k2 l0 l1 l2 t307 l2 (l2.length : Int) x37_2 false) else (if x37_2 < (l1.length : Int) then (corollarylaw10_ExprSound.j2 k2 l0 l1 l2 t307 l2 (l2.length : Int) x37_2 (((rd_T31 l2 x37_2).f0) != (rd l1 x37_2))) else (none))) else (corollarylaw10_ExprSound.j2 k2 l0 l1 l2 t307 l2 (l2.length : Int) x37_2 true)) = some r := H
                      have A19 := Aside0.mk A190
                      clear A190
                      by_cases c20 : t312 = true
                      · subst c20
                        replace H := ifT_ H
                        by_cases c21 : ((rd_T31 l2 x37_2).f0) = 0
                        · rw [if_pos c21] at H
                          have c21b0 : (((rd_T31 l2 x37_2).f0) == 0) = true := beq_iff_eq.mpr c21
                          have c21b1 : (((rd_T31 l2 x37_2).f0) != 0) = false := bne_eq_false_iff_eq.mpr c21
                          clear c21
                          (first | rw [c21b0] | (simp only [i64_w, i32_w]; rw [c21b0]) | skip)
                          have H' := Aside0.mk H
                          clear H
                          try go_wp2
                          have n0_ : Aside0 ((((w17.setCell ⟨gb311, 0, none⟩ (.int .i64 ((rd_T31 l2 x37_2).f0))).setCell ⟨gb311, 1, none⟩ (.int .i64 ((rd_T31 l2 x37_2).f1))).setCell ⟨gb311, 2, none⟩ (.string ((rd_T31 l2 x37_2).f2))).heap[gb311]? = some (.cells #[.int .i64 ((rd_T31 l2 x37_2).f0), .int .i64 ((rd_T31 l2 x37_2).f1), .string ((rd_T31 l2 x37_2).f2)] 31 (0, 0))) := ⟨q50_⟩
                          have n1_ : Aside0 (Below w.heap.size w (((w17.setCell ⟨gb311, 0, none⟩ (.int .i64 ((rd_T31 l2 x37_2).f0))).setCell ⟨gb311, 1, none⟩ (.int .i64 ((rd_T31 l2 x37_2).f1))).setCell ⟨gb311, 2, none⟩ (.string ((rd_T31 l2 x37_2).f2)))) := ⟨q0_⟩
                          (try clear BK311)
                          (try clear HB)
                          generalize (((w17.setCell ⟨gb311, 0, none⟩ (.int .i64 ((rd_T31 l2 x37_2).f0))).setCell ⟨gb311, 1, none⟩ (.int .i64 ((rd_T31 l2 x37_2).f1))).setCell ⟨gb311, 2, none⟩ (.string ((rd_T31 l2 x37_2).f2))) = w22 at n0_ n1_ ⊢
                          have BK311 := n0_
                          have HB := n1_
                          clear n0_ n1_
                          have n0_ := Aside0.mk (blk_drew BK311.out)
                          have n1_ := Aside0.mk (below_drew1 HB.out)
                          clear BK311
                          clear HB
                          have BK311 := n0_
                          have HB := n1_
                          clear n0_ n1_
                          refine start_ (n := 17) (S := fun w' => w'.cell? ⟨gb311, 0, none⟩ = some (.int .i64 ((rd_T31 l2 x37_2).f0)) ∧ w'.cell? ⟨gb311, 1, none⟩ = some (.int .i64 ((rd_T31 l2 x37_2).f1)) ∧ w'.cell? ⟨gb311, 2, none⟩ = some (.string ((rd_T31 l2 x37_2).f2))) (ds := []) #[false, false, false, false, false, false, false, false, false, false, false, false, false, false, false, false, false] (by kernel_rfl) rfl rfl ⟨(blk_cell BK311.out 0).trans rfl, (blk_cell BK311.out 1).trans rfl, (blk_cell BK311.out 2).trans rfl⟩ (fun hHeld => ?_); refine with_tabW corollarylaw10_ExprSound.tab9 corollarylaw10_ExprSound.bits9 (fun HT_ HW_ => ?_)
                          generalize w22.drew = w23 at BK311 HB hHeld ⊢
                          refine take_ (i := 0) (N := some 42) (v := ?_) (a' := ?_) #[true, false, false, false, false, false, false, false, false, false, false, false, false, false, false, false, false] rfl rfl (take_ofW HT_.out HW_.out (by kernel_rfl)) (fun _ _ _ h => h) (Or.inl ⟨by rfl, ?_⟩) hHeld ?_ ?_
                          rotate_left
                          · rintro w' ⟨s0, s1, s2⟩
                            go_simp
                            with_reducible rfl
                          rotate_left
                          · simp only [Act.put, List.setIfInBounds_toArray, List.set_cons_zero, List.set_cons_succ, i64_w, i32_w]
                            rfl
                          refine one_ (i := 1) (N := some 43) #[true, true, false, false, false, false, false, false, false, false, false, false, false, false, false, false, false] rfl rfl (one_of HT_.out (by kernel_rfl)) (by decide) (fun K hK => ?_)
                          refine goes_ Tryd.func11 (by kernel_rfl) rfl #[.agg #[.int .i64 ((rd_T31 l2 x37_2).f0), .int .i64 ((rd_T31 l2 x37_2).f1), .string ((rd_T31 l2 x37_2).f2)]] (by rfl) rfl rfl q2_ ?_
                          with_reducible refine (corollaryref01_Right.calls k2 ((rd_T31 l2 x37_2).f0) ((rd_T31 l2 x37_2).f1) ((rd_T31 l2 x37_2).f2) true _ A19.out).mono ?_
                          rintro e w24 ⟨rfl, hb⟩
                          refine ⟨_, rfl, ?_⟩
                          have n0_ := Aside0.mk (blk_below (g := gb311) (o := .cells #[.int .i64 ((rd_T31 l2 x37_2).f0), .int .i64 ((rd_T31 l2 x37_2).f1), .string ((rd_T31 l2 x37_2).f2)] 31 (0, 0)) q110_ hb)
                          have n1_ := Aside0.mk (below_step q0_ hb)
                          clear BK311
                          clear HB
                          have BK311 := n0_
                          have HB := n1_
                          clear n0_ n1_
                          (try clear hb)
                          (try clear hb2)
                          (try clear hk)
                          (try clear hi)
                          refine hK.out _ _ ⟨(blk_cell BK311.out 0).trans rfl, (blk_cell BK311.out 1).trans rfl, (blk_cell BK311.out 2).trans rfl⟩ (fun hHeld => ?_)
                          clear hK K
                          refine norm_ (a' := ?_) ?_ ?_
                          rotate_left
                          · show Act.put _ (some 43) _ = _
                            simp only [Act.put, List.setIfInBounds_toArray, List.set_cons_zero, List.set_cons_succ, i64_w, i32_w]
                            rfl
                          refine pure_ (i := 2) (N := some 44) (v := ?_) (a' := ?_) #[true, true, true, false, false, false, false, false, false, false, false, false, false, false, false, false, false] rfl rfl (any_of HT_.out (by kernel_rfl)) (fun _ _ _ h => h) (Or.inl ⟨by rfl, ?_⟩) ?_ ?_
                          rotate_left
                          · intro w'
                            go_simp
                            with_reducible rfl
                          rotate_left
                          · simp only [Act.put, List.setIfInBounds_toArray, List.set_cons_zero, List.set_cons_succ, i64_w, i32_w]
                            rfl
                          refine pure_ (i := 3) (N := some 45) (v := ?_) (a' := ?_) #[true, true, true, true, false, false, false, false, false, false, false, false, false, false, false, false, false] rfl rfl (any_of HT_.out (by kernel_rfl)) (fun _ _ _ h => h) (Or.inl ⟨by rfl, ?_⟩) ?_ ?_
                          rotate_left
                          · intro w'
                            go_simp
                            with_reducible rfl
                          rotate_left
                          · simp only [Act.put, List.setIfInBounds_toArray, List.set_cons_zero, List.set_cons_succ, i64_w, i32_w]
                            rfl
                          refine pure_ (i := 4) (N := some 46) (v := ?_) (a' := ?_) #[true, true, true, true, true, false, false, false, false, false, false, false, false, false, false, false, false] rfl rfl (any_of HT_.out (by kernel_rfl)) (fun _ _ _ h => h) (Or.inl ⟨by rfl, ?_⟩) ?_ ?_
                          rotate_left
                          · intro w'
                            go_simp
                            with_reducible rfl
                          rotate_left
                          · simp only [Act.put, List.setIfInBounds_toArray, List.set_cons_zero, List.set_cons_succ, i64_w, i32_w]
                            rfl
                          refine take_ (i := 5) (N := some 47) (v := ?_) (a' := ?_) #[true, true, true, true, true, true, false, false, false, false, false, false, false, false, false, false, false] rfl rfl (take_ofW HT_.out HW_.out (by kernel_rfl)) (fun _ _ _ h => h) (Or.inl ⟨by rfl, ?_⟩) hHeld ?_ ?_
                          rotate_left
                          · rintro w' ⟨s0, s1, s2⟩
                            go_simp
                            with_reducible rfl
                          rotate_left
                          · simp only [Act.put, List.setIfInBounds_toArray, List.set_cons_zero, List.set_cons_succ, i64_w, i32_w]
                            rfl
                          refine pure_ (i := 6) (N := some 48) (v := ?_) (a' := ?_) #[true, true, true, true, true, true, true, false, false, false, false, false, false, false, false, false, false] rfl rfl (any_of HT_.out (by kernel_rfl)) (fun _ _ _ h => h) (Or.inl ⟨by rfl, ?_⟩) ?_ ?_
                          rotate_left
                          · intro w'
                            go_simp
                            with_reducible rfl
                          rotate_left
                          · simp only [Act.put, List.setIfInBounds_toArray, List.set_cons_zero, List.set_cons_succ, i64_w, i32_w]
                            rfl
                          refine pure_ (i := 7) (N := some 49) (v := ?_) (a' := ?_) #[true, true, true, true, true, true, true, true, false, false, false, false, false, false, false, false, false] rfl rfl (any_of HT_.out (by kernel_rfl)) (fun _ _ _ h => h) (Or.inl ⟨by rfl, ?_⟩) ?_ ?_
                          rotate_left
                          · intro w'
                            go_simp
                            with_reducible rfl
                          rotate_left
                          · simp only [Act.put, List.setIfInBounds_toArray, List.set_cons_zero, List.set_cons_succ, i64_w, i32_w]
                            rfl
                          refine pure_ (i := 8) (N := some 50) (v := undef) (a' := ?_) #[true, true, true, true, true, true, true, true, true, false, false, false, false, false, false, false, false] rfl rfl (any_of HT_.out (by kernel_rfl)) (fun _ _ _ h => h) (Or.inr ⟨by rfl, rfl⟩) ?_ ?_
                          rotate_left
                          · simp only [Act.put, List.setIfInBounds_toArray, List.set_cons_zero, List.set_cons_succ, i64_w, i32_w]
                            rfl
                          refine pure_ (i := 9) (N := some 51) (v := undef) (a' := ?_) #[true, true, true, true, true, true, true, true, true, true, false, false, false, false, false, false, false] rfl rfl (any_of HT_.out (by kernel_rfl)) (fun _ _ _ h => h) (Or.inr ⟨by rfl, rfl⟩) ?_ ?_
                          rotate_left
                          · simp only [Act.put, List.setIfInBounds_toArray, List.set_cons_zero, List.set_cons_succ, i64_w, i32_w]
                            rfl
                          refine pure_ (i := 10) (N := some 52) (v := undef) (a' := ?_) #[true, true, true, true, true, true, true, true, true, true, true, false, false, false, false, false, false] rfl rfl (any_of HT_.out (by kernel_rfl)) (fun _ _ _ h => h) (Or.inr ⟨by rfl, rfl⟩) ?_ ?_
                          rotate_left
                          · simp only [Act.put, List.setIfInBounds_toArray, List.set_cons_zero, List.set_cons_succ, i64_w, i32_w]
                            rfl
                          refine pure_ (i := 11) (N := some 53) (v := undef) (a' := ?_) #[true, true, true, true, true, true, true, true, true, true, true, true, false, false, false, false, false] rfl rfl (any_of HT_.out (by kernel_rfl)) (fun _ _ _ h => h) (Or.inr ⟨by rfl, rfl⟩) ?_ ?_
                          rotate_left
                          · simp only [Act.put, List.setIfInBounds_toArray, List.set_cons_zero, List.set_cons_succ, i64_w, i32_w]
                            rfl
                          refine pure_ (i := 12) (N := some 54) (v := undef) (a' := ?_) #[true, true, true, true, true, true, true, true, true, true, true, true, true, false, false, false, false] rfl rfl (any_of HT_.out (by kernel_rfl)) (fun _ _ _ h => h) (Or.inr ⟨by rfl, rfl⟩) ?_ ?_
                          rotate_left
                          · simp only [Act.put, List.setIfInBounds_toArray, List.set_cons_zero, List.set_cons_succ, i64_w, i32_w]
                            rfl
                          refine pure_ (i := 13) (N := some 55) (v := undef) (a' := ?_) #[true, true, true, true, true, true, true, true, true, true, true, true, true, true, false, false, false] rfl rfl (any_of HT_.out (by kernel_rfl)) (fun _ _ _ h => h) (Or.inr ⟨by rfl, rfl⟩) ?_ ?_
                          rotate_left
                          · simp only [Act.put, List.setIfInBounds_toArray, List.set_cons_zero, List.set_cons_succ, i64_w, i32_w]
                            rfl
                          refine pure_ (i := 14) (N := some 56) (v := undef) (a' := ?_) #[true, true, true, true, true, true, true, true, true, true, true, true, true, true, true, false, false] rfl rfl (any_of HT_.out (by kernel_rfl)) (fun _ _ _ h => h) (Or.inr ⟨by rfl, rfl⟩) ?_ ?_
                          rotate_left
                          · simp only [Act.put, List.setIfInBounds_toArray, List.set_cons_zero, List.set_cons_succ, i64_w, i32_w]
                            rfl
                          refine pure_ (i := 15) (N := some 57) (v := ?_) (a' := ?_) #[true, true, true, true, true, true, true, true, true, true, true, true, true, true, true, true, false] rfl rfl (any_of HT_.out (by kernel_rfl)) (fun _ _ _ h => h) (Or.inl ⟨by rfl, ?_⟩) ?_ ?_
                          rotate_left
                          · intro w'
                            go_simp
                            with_reducible rfl
                          rotate_left
                          · simp only [Act.put, List.setIfInBounds_toArray, List.set_cons_zero, List.set_cons_succ, i64_w, i32_w]
                            rfl
                          refine pure_ (i := 16) (N := some 58) (v := ?_) (a' := ?_) #[true, true, true, true, true, true, true, true, true, true, true, true, true, true, true, true, true] rfl rfl (any_of HT_.out (by kernel_rfl)) (fun _ _ _ h => h) (Or.inl ⟨by rfl, ?_⟩) ?_ ?_
                          rotate_left
                          · intro w'
                            go_simp
                            with_reducible rfl
                          rotate_left
                          · simp only [Act.put, List.setIfInBounds_toArray, List.set_cons_zero, List.set_cons_succ, i64_w, i32_w]
                            rfl
                          refine done_ (done_of HT_.out (by kernel_rfl)) ?_
                          try go_wp2
                          go_meet
                          case rel => exact ⟨_, (false), q7_, H', ⟨q112_⟩, ⟨q110_⟩, ⟨q0_⟩⟩
                        · rw [if_neg c21] at H
                          have c21b0 : (((rd_T31 l2 x37_2).f0) == 0) = false := beq_eq_false_iff_ne.mpr c21
                          have c21b1 : (((rd_T31 l2 x37_2).f0) != 0) = true := bne_iff_ne.mpr c21
                          (first | rw [c21b0] | (simp only [i64_w, i32_w]; rw [c21b0]) | skip)
                          by_cases c25 : x37_2 < (l1.length : Int)
                          · rw [if_pos c25] at H
                            have c25b0 : decide (x37_2 < (l1.length : Int)) = true := decide_eq_true c25
                            clear c25
                            have H' := Aside0.mk H
                            clear H
                            try go_wp2
                            have n0_ : Aside0 ((((w17.setCell ⟨gb311, 0, none⟩ (.int .i64 ((rd_T31 l2 x37_2).f0))).setCell ⟨gb311, 1, none⟩ (.int .i64 ((rd_T31 l2 x37_2).f1))).setCell ⟨gb311, 2, none⟩ (.string ((rd_T31 l2 x37_2).f2))).heap[gb311]? = some (.cells #[.int .i64 ((rd_T31 l2 x37_2).f0), .int .i64 ((rd_T31 l2 x37_2).f1), .string ((rd_T31 l2 x37_2).f2)] 31 (0, 0))) := ⟨q50_⟩
                            have n1_ : Aside0 (Below w.heap.size w (((w17.setCell ⟨gb311, 0, none⟩ (.int .i64 ((rd_T31 l2 x37_2).f0))).setCell ⟨gb311, 1, none⟩ (.int .i64 ((rd_T31 l2 x37_2).f1))).setCell ⟨gb311, 2, none⟩ (.string ((rd_T31 l2 x37_2).f2)))) := ⟨q0_⟩
                            (try clear BK311)
                            (try clear HB)
                            generalize (((w17.setCell ⟨gb311, 0, none⟩ (.int .i64 ((rd_T31 l2 x37_2).f0))).setCell ⟨gb311, 1, none⟩ (.int .i64 ((rd_T31 l2 x37_2).f1))).setCell ⟨gb311, 2, none⟩ (.string ((rd_T31 l2 x37_2).f2))) = w26 at n0_ n1_ ⊢
                            have BK311 := n0_
                            have HB := n1_
                            clear n0_ n1_
                            have n0_ := Aside0.mk (blk_drew BK311.out)
                            have n1_ := Aside0.mk (below_drew1 HB.out)
                            clear BK311
                            clear HB
                            have BK311 := n0_
                            have HB := n1_
                            clear n0_ n1_
                            have p313 : 0 ≤ (x37_2 : Int) := of_decide_eq_true q11_
                            have q313 : x37_2 < (l1.length : Int) := of_decide_eq_true q11_
                            obtain ⟨ad313, e313, hx313_0⟩ := Kd.at_int HR1.out x37_2 p313 q313
                            have hw313_0 := hx313_0
                            cases e313
                            replace hx313_0 := (HB.out.cell (World.block_lt_of_cell? w _ hx313_0)).trans hx313_0
                            replace p313 := eq_true p313
                            replace q313 := eq_true q313
                            refine start_ (n := 17) (S := fun w' => w'.cell? ⟨gb311, 0, none⟩ = some (.int .i64 ((rd_T31 l2 x37_2).f0)) ∧ w'.cell? ⟨gb311, 1, none⟩ = some (.int .i64 ((rd_T31 l2 x37_2).f1)) ∧ w'.cell? ⟨gb311, 2, none⟩ = some (.string ((rd_T31 l2 x37_2).f2)) ∧ w'.cell? (ad313.add (x37_2).toNat) = some (.int .i64 (rd l1 x37_2))) (ds := []) #[false, false, false, false, false, false, false, false, false, false, false, false, false, false, false, false, false] (by kernel_rfl) rfl rfl ⟨(blk_cell BK311.out 0).trans rfl, (blk_cell BK311.out 1).trans rfl, (blk_cell BK311.out 2).trans rfl, ((HB.out.cell (World.block_lt_of_cell? w _ hw313_0)).trans hw313_0)⟩ (fun hHeld => ?_); refine with_tabW corollarylaw10_ExprSound.tab9 corollarylaw10_ExprSound.bits9 (fun HT_ HW_ => ?_)
                            generalize w26.drew = w27 at BK311 HB hx313_0 hHeld ⊢
                            refine take_ (i := 0) (N := some 42) (v := ?_) (a' := ?_) #[true, false, false, false, false, false, false, false, false, false, false, false, false, false, false, false, false] rfl rfl (take_ofW HT_.out HW_.out (by kernel_rfl)) (fun _ _ _ h => h) (Or.inl ⟨by rfl, ?_⟩) hHeld ?_ ?_
                            rotate_left
                            · rintro w' ⟨s0, s1, s2, s3⟩
                              go_simp
                              with_reducible rfl
                            rotate_left
                            · simp only [Act.put, List.setIfInBounds_toArray, List.set_cons_zero, List.set_cons_succ, i64_w, i32_w]
                              rfl
                            refine one_ (i := 1) (N := some 43) #[true, true, false, false, false, false, false, false, false, false, false, false, false, false, false, false, false] rfl rfl (one_of HT_.out (by kernel_rfl)) (by decide) (fun K hK => ?_)
                            refine goes_ Tryd.func11 (by kernel_rfl) rfl #[.agg #[.int .i64 ((rd_T31 l2 x37_2).f0), .int .i64 ((rd_T31 l2 x37_2).f1), .string ((rd_T31 l2 x37_2).f2)]] (by rfl) rfl rfl q2_ ?_
                            with_reducible refine (corollaryref01_Right.calls k2 ((rd_T31 l2 x37_2).f0) ((rd_T31 l2 x37_2).f1) ((rd_T31 l2 x37_2).f2) true _ A19.out).mono ?_
                            rintro e w28 ⟨rfl, hb⟩
                            refine ⟨_, rfl, ?_⟩
                            have n0_ := Aside0.mk (blk_below (g := gb311) (o := .cells #[.int .i64 ((rd_T31 l2 x37_2).f0), .int .i64 ((rd_T31 l2 x37_2).f1), .string ((rd_T31 l2 x37_2).f2)] 31 (0, 0)) q110_ hb)
                            have n1_ := Aside0.mk (below_step q0_ hb)
                            clear BK311
                            clear HB
                            have BK311 := n0_
                            have HB := n1_
                            clear n0_ n1_
                            (try clear hb)
                            (try clear hb2)
                            (try clear hk)
                            (try clear hi)
                            refine hK.out _ _ ⟨(blk_cell BK311.out 0).trans rfl, (blk_cell BK311.out 1).trans rfl, (blk_cell BK311.out 2).trans rfl, ((HB.out.cell (World.block_lt_of_cell? w _ hw313_0)).trans hw313_0)⟩ (fun hHeld => ?_)
                            clear hK K
                            refine norm_ (a' := ?_) ?_ ?_
                            rotate_left
                            · show Act.put _ (some 43) _ = _
                              simp only [Act.put, List.setIfInBounds_toArray, List.set_cons_zero, List.set_cons_succ, i64_w, i32_w]
                              rfl
                            refine pure_ (i := 2) (N := some 44) (v := ?_) (a' := ?_) #[true, true, true, false, false, false, false, false, false, false, false, false, false, false, false, false, false] rfl rfl (any_of HT_.out (by kernel_rfl)) (fun _ _ _ h => h) (Or.inl ⟨by rfl, ?_⟩) ?_ ?_
                            rotate_left
                            · intro w'
                              go_simp
                              with_reducible rfl
                            rotate_left
                            · simp only [Act.put, List.setIfInBounds_toArray, List.set_cons_zero, List.set_cons_succ, i64_w, i32_w]
                              rfl
                            refine pure_ (i := 3) (N := some 45) (v := ?_) (a' := ?_) #[true, true, true, true, false, false, false, false, false, false, false, false, false, false, false, false, false] rfl rfl (any_of HT_.out (by kernel_rfl)) (fun _ _ _ h => h) (Or.inl ⟨by rfl, ?_⟩) ?_ ?_
                            rotate_left
                            · intro w'
                              go_simp
                              with_reducible rfl
                            rotate_left
                            · simp only [Act.put, List.setIfInBounds_toArray, List.set_cons_zero, List.set_cons_succ, i64_w, i32_w]
                              rfl
                            refine pure_ (i := 4) (N := some 46) (v := ?_) (a' := ?_) #[true, true, true, true, true, false, false, false, false, false, false, false, false, false, false, false, false] rfl rfl (any_of HT_.out (by kernel_rfl)) (fun _ _ _ h => h) (Or.inl ⟨by rfl, ?_⟩) ?_ ?_
                            rotate_left
                            · intro w'
                              go_simp
                              with_reducible rfl
                            rotate_left
                            · simp only [Act.put, List.setIfInBounds_toArray, List.set_cons_zero, List.set_cons_succ, i64_w, i32_w]
                              rfl
                            refine take_ (i := 5) (N := some 47) (v := ?_) (a' := ?_) #[true, true, true, true, true, true, false, false, false, false, false, false, false, false, false, false, false] rfl rfl (take_ofW HT_.out HW_.out (by kernel_rfl)) (fun _ _ _ h => h) (Or.inl ⟨by rfl, ?_⟩) hHeld ?_ ?_
                            rotate_left
                            · rintro w' ⟨s0, s1, s2, s3⟩
                              go_simp
                              with_reducible rfl
                            rotate_left
                            · simp only [Act.put, List.setIfInBounds_toArray, List.set_cons_zero, List.set_cons_succ, i64_w, i32_w]
                              rfl
                            refine pure_ (i := 6) (N := some 48) (v := ?_) (a' := ?_) #[true, true, true, true, true, true, true, false, false, false, false, false, false, false, false, false, false] rfl rfl (any_of HT_.out (by kernel_rfl)) (fun _ _ _ h => h) (Or.inl ⟨by rfl, ?_⟩) ?_ ?_
                            rotate_left
                            · intro w'
                              go_simp
                              with_reducible rfl
                            rotate_left
                            · simp only [Act.put, List.setIfInBounds_toArray, List.set_cons_zero, List.set_cons_succ, i64_w, i32_w]
                              rfl
                            refine pure_ (i := 7) (N := some 49) (v := ?_) (a' := ?_) #[true, true, true, true, true, true, true, true, false, false, false, false, false, false, false, false, false] rfl rfl (any_of HT_.out (by kernel_rfl)) (fun _ _ _ h => h) (Or.inl ⟨by rfl, ?_⟩) ?_ ?_
                            rotate_left
                            · intro w'
                              go_simp
                              with_reducible rfl
                            rotate_left
                            · simp only [Act.put, List.setIfInBounds_toArray, List.set_cons_zero, List.set_cons_succ, i64_w, i32_w]
                              rfl
                            refine pure_ (i := 8) (N := some 50) (v := ?_) (a' := ?_) #[true, true, true, true, true, true, true, true, true, false, false, false, false, false, false, false, false] rfl rfl (any_of HT_.out (by kernel_rfl)) (fun _ _ _ h => h) (Or.inl ⟨by rfl, ?_⟩) ?_ ?_
                            rotate_left
                            · intro w'
                              go_simp
                              with_reducible rfl
                            rotate_left
                            · simp only [Act.put, List.setIfInBounds_toArray, List.set_cons_zero, List.set_cons_succ, i64_w, i32_w]
                              rfl
                            refine pure_ (i := 10) (N := some 52) (v := ?_) (a' := ?_) #[true, true, true, true, true, true, true, true, true, false, true, false, false, false, false, false, false] rfl rfl (any_of HT_.out (by kernel_rfl)) (fun _ _ _ h => h) (Or.inl ⟨by rfl, ?_⟩) ?_ ?_
                            rotate_left
                            · intro w'
                              go_simp
                              with_reducible rfl
                            rotate_left
                            · simp only [Act.put, List.setIfInBounds_toArray, List.set_cons_zero, List.set_cons_succ, i64_w, i32_w]
                              rfl
                            refine pure_ (i := 11) (N := some 53) (v := ?_) (a' := ?_) #[true, true, true, true, true, true, true, true, true, false, true, true, false, false, false, false, false] rfl rfl (any_of HT_.out (by kernel_rfl)) (fun _ _ _ h => h) (Or.inl ⟨by rfl, ?_⟩) ?_ ?_
                            rotate_left
                            · intro w'
                              go_simp
                              with_reducible rfl
                            rotate_left
                            · simp only [Act.put, List.setIfInBounds_toArray, List.set_cons_zero, List.set_cons_succ, i64_w, i32_w]
                              rfl
                            refine pure_ (i := 12) (N := some 54) (v := ?_) (a' := ?_) #[true, true, true, true, true, true, true, true, true, false, true, true, true, false, false, false, false] rfl rfl (any_of HT_.out (by kernel_rfl)) (fun _ _ _ h => h) (Or.inl ⟨by rfl, ?_⟩) ?_ ?_
                            rotate_left
                            · intro w'
                              go_simp
                              with_reducible rfl
                            rotate_left
                            · simp only [Act.put, List.setIfInBounds_toArray, List.set_cons_zero, List.set_cons_succ, i64_w, i32_w]
                              rfl
                            refine take_ (i := 9) (N := some 51) (v := ?_) (a' := ?_) #[true, true, true, true, true, true, true, true, true, true, true, true, true, false, false, false, false] rfl rfl (take_ofW HT_.out HW_.out (by kernel_rfl)) (fun _ _ _ h => h) (Or.inl ⟨by rfl, ?_⟩) hHeld ?_ ?_
                            rotate_left
                            · rintro w' ⟨s0, s1, s2, s3⟩
                              go_simp
                              with_reducible rfl
                            rotate_left
                            · simp only [Act.put, List.setIfInBounds_toArray, List.set_cons_zero, List.set_cons_succ, i64_w, i32_w]
                              rfl
                            refine take_ (i := 13) (N := some 55) (v := ?_) (a' := ?_) #[true, true, true, true, true, true, true, true, true, true, true, true, true, true, false, false, false] rfl rfl (take_ofW HT_.out HW_.out (by kernel_rfl)) (fun _ _ _ h => h) (Or.inl ⟨by rfl, ?_⟩) hHeld ?_ ?_
                            rotate_left
                            · rintro w' ⟨s0, s1, s2, s3⟩
                              go_simp
                              with_reducible rfl
                            rotate_left
                            · simp only [Act.put, List.setIfInBounds_toArray, List.set_cons_zero, List.set_cons_succ, i64_w, i32_w]
                              rfl
                            refine pure_ (i := 14) (N := some 56) (v := ?_) (a' := ?_) #[true, true, true, true, true, true, true, true, true, true, true, true, true, true, true, false, false] rfl rfl (any_of HT_.out (by kernel_rfl)) (fun _ _ _ h => h) (Or.inl ⟨by rfl, ?_⟩) ?_ ?_
                            rotate_left
                            · intro w'
                              go_simp
                              with_reducible rfl
                            rotate_left
                            · simp only [Act.put, List.setIfInBounds_toArray, List.set_cons_zero, List.set_cons_succ, i64_w, i32_w]
                              rfl
                            refine pure_ (i := 15) (N := some 57) (v := ?_) (a' := ?_) #[true, true, true, true, true, true, true, true, true, true, true, true, true, true, true, true, false] rfl rfl (any_of HT_.out (by kernel_rfl)) (fun _ _ _ h => h) (Or.inl ⟨by rfl, ?_⟩) ?_ ?_
                            rotate_left
                            · intro w'
                              go_simp
                              with_reducible rfl
                            rotate_left
                            · simp only [Act.put, List.setIfInBounds_toArray, List.set_cons_zero, List.set_cons_succ, i64_w, i32_w]
                              rfl
                            refine pure_ (i := 16) (N := some 58) (v := ?_) (a' := ?_) #[true, true, true, true, true, true, true, true, true, true, true, true, true, true, true, true, true] rfl rfl (any_of HT_.out (by kernel_rfl)) (fun _ _ _ h => h) (Or.inl ⟨by rfl, ?_⟩) ?_ ?_
                            rotate_left
                            · intro w'
                              go_simp
                              with_reducible rfl
                            rotate_left
                            · simp only [Act.put, List.setIfInBounds_toArray, List.set_cons_zero, List.set_cons_succ, i64_w, i32_w]
                              rfl
                            refine done_ (done_of HT_.out (by kernel_rfl)) ?_
                            try go_wp2
                            go_meet
                            case rel => exact ⟨_, ((((rd_T31 l2 x37_2).f0) != (rd l1 x37_2))), q7_, H', ⟨q112_⟩, ⟨q110_⟩, ⟨q0_⟩⟩
                          · rw [if_neg c25] at H
                            exact absurd H (by simp)
                      · replace c20 := Bool.eq_false_iff.mpr c20
                        subst c20
                        replace H := ifF_ H
                        have H' := Aside0.mk H
                        clear H
                        try go_wp2
                        have n0_ : Aside0 ((((w17.setCell ⟨gb311, 0, none⟩ (.int .i64 ((rd_T31 l2 x37_2).f0))).setCell ⟨gb311, 1, none⟩ (.int .i64 ((rd_T31 l2 x37_2).f1))).setCell ⟨gb311, 2, none⟩ (.string ((rd_T31 l2 x37_2).f2))).heap[gb311]? = some (.cells #[.int .i64 ((rd_T31 l2 x37_2).f0), .int .i64 ((rd_T31 l2 x37_2).f1), .string ((rd_T31 l2 x37_2).f2)] 31 (0, 0))) := ⟨q50_⟩
                        have n1_ : Aside0 (Below w.heap.size w (((w17.setCell ⟨gb311, 0, none⟩ (.int .i64 ((rd_T31 l2 x37_2).f0))).setCell ⟨gb311, 1, none⟩ (.int .i64 ((rd_T31 l2 x37_2).f1))).setCell ⟨gb311, 2, none⟩ (.string ((rd_T31 l2 x37_2).f2)))) := ⟨q0_⟩
                        (try clear BK311)
                        (try clear HB)
                        generalize (((w17.setCell ⟨gb311, 0, none⟩ (.int .i64 ((rd_T31 l2 x37_2).f0))).setCell ⟨gb311, 1, none⟩ (.int .i64 ((rd_T31 l2 x37_2).f1))).setCell ⟨gb311, 2, none⟩ (.string ((rd_T31 l2 x37_2).f2))) = w29 at n0_ n1_ ⊢
                        have BK311 := n0_
                        have HB := n1_
                        clear n0_ n1_
                        have n0_ := Aside0.mk (blk_drew BK311.out)
                        have n1_ := Aside0.mk (below_drew1 HB.out)
                        clear BK311
                        clear HB
                        have BK311 := n0_
                        have HB := n1_
                        clear n0_ n1_
                        refine start_ (n := 17) (S := fun w' => w'.cell? ⟨gb311, 0, none⟩ = some (.int .i64 ((rd_T31 l2 x37_2).f0)) ∧ w'.cell? ⟨gb311, 1, none⟩ = some (.int .i64 ((rd_T31 l2 x37_2).f1)) ∧ w'.cell? ⟨gb311, 2, none⟩ = some (.string ((rd_T31 l2 x37_2).f2))) (ds := []) #[false, false, false, false, false, false, false, false, false, false, false, false, false, false, false, false, false] (by kernel_rfl) rfl rfl ⟨(blk_cell BK311.out 0).trans rfl, (blk_cell BK311.out 1).trans rfl, (blk_cell BK311.out 2).trans rfl⟩ (fun hHeld => ?_); refine with_tabW corollarylaw10_ExprSound.tab9 corollarylaw10_ExprSound.bits9 (fun HT_ HW_ => ?_)
                        generalize w29.drew = w30 at BK311 HB hHeld ⊢
                        refine take_ (i := 0) (N := some 42) (v := ?_) (a' := ?_) #[true, false, false, false, false, false, false, false, false, false, false, false, false, false, false, false, false] rfl rfl (take_ofW HT_.out HW_.out (by kernel_rfl)) (fun _ _ _ h => h) (Or.inl ⟨by rfl, ?_⟩) hHeld ?_ ?_
                        rotate_left
                        · rintro w' ⟨s0, s1, s2⟩
                          go_simp
                          with_reducible rfl
                        rotate_left
                        · simp only [Act.put, List.setIfInBounds_toArray, List.set_cons_zero, List.set_cons_succ, i64_w, i32_w]
                          rfl
                        refine one_ (i := 1) (N := some 43) #[true, true, false, false, false, false, false, false, false, false, false, false, false, false, false, false, false] rfl rfl (one_of HT_.out (by kernel_rfl)) (by decide) (fun K hK => ?_)
                        refine goes_ Tryd.func11 (by kernel_rfl) rfl #[.agg #[.int .i64 ((rd_T31 l2 x37_2).f0), .int .i64 ((rd_T31 l2 x37_2).f1), .string ((rd_T31 l2 x37_2).f2)]] (by rfl) rfl rfl q2_ ?_
                        with_reducible refine (corollaryref01_Right.calls k2 ((rd_T31 l2 x37_2).f0) ((rd_T31 l2 x37_2).f1) ((rd_T31 l2 x37_2).f2) false _ A19.out).mono ?_
                        rintro e w31 ⟨rfl, hb⟩
                        refine ⟨_, rfl, ?_⟩
                        have n0_ := Aside0.mk (blk_below (g := gb311) (o := .cells #[.int .i64 ((rd_T31 l2 x37_2).f0), .int .i64 ((rd_T31 l2 x37_2).f1), .string ((rd_T31 l2 x37_2).f2)] 31 (0, 0)) q110_ hb)
                        have n1_ := Aside0.mk (below_step q0_ hb)
                        clear BK311
                        clear HB
                        have BK311 := n0_
                        have HB := n1_
                        clear n0_ n1_
                        (try clear hb)
                        (try clear hb2)
                        (try clear hk)
                        (try clear hi)
                        refine hK.out _ _ ⟨(blk_cell BK311.out 0).trans rfl, (blk_cell BK311.out 1).trans rfl, (blk_cell BK311.out 2).trans rfl⟩ (fun hHeld => ?_)
                        clear hK K
                        refine norm_ (a' := ?_) ?_ ?_
                        rotate_left
                        · show Act.put _ (some 43) _ = _
                          simp only [Act.put, List.setIfInBounds_toArray, List.set_cons_zero, List.set_cons_succ, i64_w, i32_w]
                          rfl
                        refine pure_ (i := 2) (N := some 44) (v := ?_) (a' := ?_) #[true, true, true, false, false, false, false, false, false, false, false, false, false, false, false, false, false] rfl rfl (any_of HT_.out (by kernel_rfl)) (fun _ _ _ h => h) (Or.inl ⟨by rfl, ?_⟩) ?_ ?_
                        rotate_left
                        · intro w'
                          go_simp
                          with_reducible rfl
                        rotate_left
                        · simp only [Act.put, List.setIfInBounds_toArray, List.set_cons_zero, List.set_cons_succ, i64_w, i32_w]
                          rfl
                        refine pure_ (i := 3) (N := some 45) (v := ?_) (a' := ?_) #[true, true, true, true, false, false, false, false, false, false, false, false, false, false, false, false, false] rfl rfl (any_of HT_.out (by kernel_rfl)) (fun _ _ _ h => h) (Or.inl ⟨by rfl, ?_⟩) ?_ ?_
                        rotate_left
                        · intro w'
                          go_simp
                          with_reducible rfl
                        rotate_left
                        · simp only [Act.put, List.setIfInBounds_toArray, List.set_cons_zero, List.set_cons_succ, i64_w, i32_w]
                          rfl
                        refine pure_ (i := 4) (N := some 46) (v := undef) (a' := ?_) #[true, true, true, true, true, false, false, false, false, false, false, false, false, false, false, false, false] rfl rfl (any_of HT_.out (by kernel_rfl)) (fun _ _ _ h => h) (Or.inr ⟨by rfl, rfl⟩) ?_ ?_
                        rotate_left
                        · simp only [Act.put, List.setIfInBounds_toArray, List.set_cons_zero, List.set_cons_succ, i64_w, i32_w]
                          rfl
                        refine pure_ (i := 5) (N := some 47) (v := undef) (a' := ?_) #[true, true, true, true, true, true, false, false, false, false, false, false, false, false, false, false, false] rfl rfl (any_of HT_.out (by kernel_rfl)) (fun _ _ _ h => h) (Or.inr ⟨by rfl, rfl⟩) ?_ ?_
                        rotate_left
                        · simp only [Act.put, List.setIfInBounds_toArray, List.set_cons_zero, List.set_cons_succ, i64_w, i32_w]
                          rfl
                        refine pure_ (i := 6) (N := some 48) (v := undef) (a' := ?_) #[true, true, true, true, true, true, true, false, false, false, false, false, false, false, false, false, false] rfl rfl (any_of HT_.out (by kernel_rfl)) (fun _ _ _ h => h) (Or.inr ⟨by rfl, rfl⟩) ?_ ?_
                        rotate_left
                        · simp only [Act.put, List.setIfInBounds_toArray, List.set_cons_zero, List.set_cons_succ, i64_w, i32_w]
                          rfl
                        refine pure_ (i := 7) (N := some 49) (v := undef) (a' := ?_) #[true, true, true, true, true, true, true, true, false, false, false, false, false, false, false, false, false] rfl rfl (any_of HT_.out (by kernel_rfl)) (fun _ _ _ h => h) (Or.inr ⟨by rfl, rfl⟩) ?_ ?_
                        rotate_left
                        · simp only [Act.put, List.setIfInBounds_toArray, List.set_cons_zero, List.set_cons_succ, i64_w, i32_w]
                          rfl
                        refine pure_ (i := 8) (N := some 50) (v := undef) (a' := ?_) #[true, true, true, true, true, true, true, true, true, false, false, false, false, false, false, false, false] rfl rfl (any_of HT_.out (by kernel_rfl)) (fun _ _ _ h => h) (Or.inr ⟨by rfl, rfl⟩) ?_ ?_
                        rotate_left
                        · simp only [Act.put, List.setIfInBounds_toArray, List.set_cons_zero, List.set_cons_succ, i64_w, i32_w]
                          rfl
                        refine pure_ (i := 9) (N := some 51) (v := undef) (a' := ?_) #[true, true, true, true, true, true, true, true, true, true, false, false, false, false, false, false, false] rfl rfl (any_of HT_.out (by kernel_rfl)) (fun _ _ _ h => h) (Or.inr ⟨by rfl, rfl⟩) ?_ ?_
                        rotate_left
                        · simp only [Act.put, List.setIfInBounds_toArray, List.set_cons_zero, List.set_cons_succ, i64_w, i32_w]
                          rfl
                        refine pure_ (i := 10) (N := some 52) (v := undef) (a' := ?_) #[true, true, true, true, true, true, true, true, true, true, true, false, false, false, false, false, false] rfl rfl (any_of HT_.out (by kernel_rfl)) (fun _ _ _ h => h) (Or.inr ⟨by rfl, rfl⟩) ?_ ?_
                        rotate_left
                        · simp only [Act.put, List.setIfInBounds_toArray, List.set_cons_zero, List.set_cons_succ, i64_w, i32_w]
                          rfl
                        refine pure_ (i := 11) (N := some 53) (v := undef) (a' := ?_) #[true, true, true, true, true, true, true, true, true, true, true, true, false, false, false, false, false] rfl rfl (any_of HT_.out (by kernel_rfl)) (fun _ _ _ h => h) (Or.inr ⟨by rfl, rfl⟩) ?_ ?_
                        rotate_left
                        · simp only [Act.put, List.setIfInBounds_toArray, List.set_cons_zero, List.set_cons_succ, i64_w, i32_w]
                          rfl
                        refine pure_ (i := 12) (N := some 54) (v := undef) (a' := ?_) #[true, true, true, true, true, true, true, true, true, true, true, true, true, false, false, false, false] rfl rfl (any_of HT_.out (by kernel_rfl)) (fun _ _ _ h => h) (Or.inr ⟨by rfl, rfl⟩) ?_ ?_
                        rotate_left
                        · simp only [Act.put, List.setIfInBounds_toArray, List.set_cons_zero, List.set_cons_succ, i64_w, i32_w]
                          rfl
                        refine pure_ (i := 13) (N := some 55) (v := undef) (a' := ?_) #[true, true, true, true, true, true, true, true, true, true, true, true, true, true, false, false, false] rfl rfl (any_of HT_.out (by kernel_rfl)) (fun _ _ _ h => h) (Or.inr ⟨by rfl, rfl⟩) ?_ ?_
                        rotate_left
                        · simp only [Act.put, List.setIfInBounds_toArray, List.set_cons_zero, List.set_cons_succ, i64_w, i32_w]
                          rfl
                        refine pure_ (i := 14) (N := some 56) (v := undef) (a' := ?_) #[true, true, true, true, true, true, true, true, true, true, true, true, true, true, true, false, false] rfl rfl (any_of HT_.out (by kernel_rfl)) (fun _ _ _ h => h) (Or.inr ⟨by rfl, rfl⟩) ?_ ?_
                        rotate_left
                        · simp only [Act.put, List.setIfInBounds_toArray, List.set_cons_zero, List.set_cons_succ, i64_w, i32_w]
                          rfl
                        refine pure_ (i := 15) (N := some 57) (v := undef) (a' := ?_) #[true, true, true, true, true, true, true, true, true, true, true, true, true, true, true, true, false] rfl rfl (any_of HT_.out (by kernel_rfl)) (fun _ _ _ h => h) (Or.inr ⟨by rfl, rfl⟩) ?_ ?_
                        rotate_left
                        · simp only [Act.put, List.setIfInBounds_toArray, List.set_cons_zero, List.set_cons_succ, i64_w, i32_w]
                          rfl
                        refine pure_ (i := 16) (N := some 58) (v := ?_) (a' := ?_) #[true, true, true, true, true, true, true, true, true, true, true, true, true, true, true, true, true] rfl rfl (any_of HT_.out (by kernel_rfl)) (fun _ _ _ h => h) (Or.inl ⟨by rfl, ?_⟩) ?_ ?_
                        rotate_left
                        · intro w'
                          go_simp
                          with_reducible rfl
                        rotate_left
                        · simp only [Act.put, List.setIfInBounds_toArray, List.set_cons_zero, List.set_cons_succ, i64_w, i32_w]
                          rfl
                        refine done_ (done_of HT_.out (by kernel_rfl)) ?_
                        try go_wp2
                        go_meet
                        case rel => exact ⟨_, (true), q7_, H', ⟨q112_⟩, ⟨q110_⟩, ⟨q0_⟩⟩
                    case rest =>
                      clear HC16
                      try clear c1
                      try clear c2
                      try clear p2
                      try clear c3
                      try clear p3
                      try clear q3
                      try clear hx3
                      try clear c6
                      try clear c7
                      try clear c8
                      try clear c9
                      try clear c10
                      try clear c11
                      try clear c11b0
                      try clear c11b1
                      try clear c13
                      try clear c13b0
                      try clear c14
                      try clear c14b0
                      try clear c15
                      try clear c15b0
                      try clear c20
                      try clear c21
                      try clear c21b0
                      try clear c21b1
                      try clear c25
                      try clear c25b0
                      try clear p31
                      try clear q31
                      try clear hx31
                      try clear hcz18_0
                      try clear hcz18_1
                      try clear hcz18_2
                      try clear hfz18_0
                      try clear hfz18_1
                      try clear hfz18_2
                      try clear hx310_0
                      try clear hx310_1
                      try clear hx310_2
                      try clear hx313_0
                      try clear p2
                      try clear p310
                      try clear p313
                      try clear q310
                      try clear q313
                      obtain ⟨kq, x58_15, rfl, HA, HJ15, BK311, HB⟩ := hcut
                      cases kq with
                      | zero => exact absurd HA.out (by simp [corollarylaw10_ExprSound.j2])
                      | succ kj15 =>
                        have H := HA.out
                        clear HA
                        simp only [corollarylaw10_ExprSound.j2] at H
                        by_cases c32 : x58_15 = true
                        · subst c32
                          replace H := ifT_ H
                          replace H := Option.bind_eq_some_iff.mp H
                          obtain ⟨t314, A330, H⟩ := H
                          replace H : (some t314) = some r := H
                          have A33 := Aside0.mk A330
                          clear A330
                          obtain rfl := Option.some.inj H
                          go_wp2_with (first | ((with_reducible refine gate_callee (f := 9) rfl ?_); refine goesL_ (some 59) rfl rfl Tryd.func9 (by kernel_rfl) rfl #[] rfl q2_ ?_; (with_reducible refine (corollarylaw10_awake.calls kj15  t314 _ A33.out (by first | exact HG.out | (refine Glob.below HG.out ?_; (repeat (first | (with_reducible first | exact HB.out | apply below_alloc | apply pw_below_drewN | apply below_drew1 | refine below_set ?_ GE311.out) | exact HB.out))) | (repeat (first | exact HG.out | apply Glob.drewN | apply Glob.drew | apply Glob.alloc)))).mono ?_); rintro e w34 ⟨rfl, hb⟩; refine ⟨_, rfl, ?_⟩; have n0_ := Aside0.mk (blk_below (g := gb311) (o := .cells #[.int .i64 ((rd_T31 l2 x37_2).f0), .int .i64 ((rd_T31 l2 x37_2).f1), .string ((rd_T31 l2 x37_2).f2)] 31 (0, 0)) q110_ hb); have n1_ := Aside0.mk (below_step q0_ hb); clear BK311; clear HB; have BK311 := n0_; have HB := n1_; clear n0_ n1_; (try clear hb); (try clear hb2); (try clear hk); (try clear hi)))
                          go_ret
                          exact ⟨q4_, q0_⟩
                        · replace c32 := Bool.eq_false_iff.mpr c32
                          subst c32
                          replace H := ifF_ H
                          have H' := Aside0.mk H
                          clear H
                          go_wp2
                          go_roundg kj15
                          case measure => have := HJ3.out; have := HK2.out; have := HJ15.out; omega
                          case rel => exact ⟨(wrap64 (x37_2 + 1)), q7_, H', ⟨by have := HJ3.out; have := HK2.out; have := HJ15.out; omega⟩, ⟨q0_⟩⟩
                  · rw [if_neg c15] at H
                    exact absurd H (by simp)
                · rw [if_neg c14] at H
                  exact absurd H (by simp)
              · rw [if_neg c13] at H
                have c13b0 : decide (x37_2 < (l2.length : Int)) = false := decide_eq_false c13
                clear c13
                replace H := Option.bind_eq_some_iff.mp H
                obtain ⟨⟨t315, t316, t317, t318⟩, A350, H⟩ := H
                replace H : (if t318 = 14 then ((corollarylaw10_awake.f k2).bind fun t320 => (some t320)) else (if t318 = 0 then (if t315 = 0 then ((corollaryref01_Right.f k2 t315 t316 t317).bind fun t321 => (if t321 = true then ((corollarylaw10_awake.f k2).bind fun t322 => (some t322)) else (some false))) else (if t315 = t307 then ((corollaryref01_Right.f k2 t315 t316 t317).bind fun t323 => (if t323 = true then ((corollarylaw10_awake.f k2).bind fun t324 => (some t324)) else (some false))) else (some false))) else (some false))) = some r := H
                have A35 := Aside0.mk A350
                clear A350
                by_cases c36 : t318 = 14
                · rw [if_pos c36] at H
                  have c36b0 : (t318 == 14) = true := beq_iff_eq.mpr c36
                  have c36b1 : (t318 != 14) = false := bne_eq_false_iff_eq.mpr c36
                  clear c36
                  replace H := Option.bind_eq_some_iff.mp H
                  obtain ⟨t320, A370, H⟩ := H
                  replace H : (some t320) = some r := H
                  have A37 := Aside0.mk A370
                  clear A370
                  obtain rfl := Option.some.inj H
                  go_wp2_with (first | ((with_reducible refine gate_callee (f := 12) rfl ?_); refine goesL_ (some 64) rfl rfl Tryd.func12 (by kernel_rfl) rfl #[.slice A0 l0.length c0, .slice A2 l2.length c2] rfl q2_ ?_; (with_reducible refine (expr_Eval.calls k2 _ _ l0 _ _ l2 t315 t316 t317 t318 _ ?side1 ?side2 ?side3 ?side4 A35.out q3_).mono ?_); (case side1 => repeat (first | exact (Kd.C_below HR0.out HB.out) | (with_reducible refine Kd.C_alloc ?_ _) | (with_reducible refine Kd.C_drewN ?_ _) | (with_reducible refine Kd.C_drew ?_))); (case side2 => exact HC0.out); (case side3 => repeat (first | exact (Kd.C_below HR2.out HB.out) | (with_reducible refine Kd.C_alloc ?_ _) | (with_reducible refine Kd.C_drewN ?_ _) | (with_reducible refine Kd.C_drew ?_))); (case side4 => exact HC2.out); rintro e w38 ⟨rfl, hb⟩; refine ⟨_, rfl, ?_⟩; have n0_ := Aside0.mk (below_step q0_ hb); clear HB; have HB := n0_; clear n0_; (try clear hb); (try clear hb2); (try clear hk); (try clear hi)) | ((with_reducible refine gate_dst (N := 11) rfl ?_); (try (refine gate_guard (by rfl) ?_; dsimp only)); refine box_event ?hg (N := 11) ?hd (cs := #[.int .i64 0, .int .i64 0, .string (⟨#[]⟩ : ByteArray)]) (t := 31) ?hr ?_; (case hd => rfl); (case hg => rfl); (case hr => first | (go_simp; done) | (go_simp; rfl)); intro gb319 hg w39 hbox hb; have n0_ := Aside0.mk (below_step q0_ hb); have n1_ := Aside0.mk (hbox); have n2_ := Aside0.mk ((q1_ : w.heap.size ≤ gb319)); have n3_ := Aside0.mk ((q1_ : w.heap.size ≤ gb319)); clear HB; have HB := n0_; have BK319 := n1_; have GW319 := n2_; have GE319 := n3_; clear n0_ n1_ n2_ n3_; clear hb hbox hg; have hcz40_0 : w39.cell? ⟨gb319, 0, none⟩ = some (.int .i64 0) := (blk_cell BK319.out 0).trans rfl; have hcz40_1 : w39.cell? ⟨gb319, 1, none⟩ = some (.int .i64 0) := (blk_cell BK319.out 1).trans rfl; have hcz40_2 : w39.cell? ⟨gb319, 2, none⟩ = some (.string (⟨#[]⟩ : ByteArray)) := (blk_cell BK319.out 2).trans rfl; have hfz40_0 := blk_frozen BK319.out 0; have hfz40_1 := blk_frozen BK319.out 1; have hfz40_2 := blk_frozen BK319.out 2) | (go_at_call 9; (with_reducible refine (corollarylaw10_awake.calls k2  t320 _ A37.out q101_).mono ?_); rintro e w41 ⟨rfl, hb⟩; have n0_ := Aside0.mk (blk_below (g := gb319) (o := .cells #[.int .i64 t315, .int .i64 t316, .string t317] 31 (0, 0)) q22_ hb); have n1_ := Aside0.mk (below_step q0_ hb); clear BK319; clear HB; have BK319 := n0_; have HB := n1_; clear n0_ n1_; (try clear hb); (try clear hb2); (try clear hk); (try clear hi)))
                  go_ret
                  exact ⟨q4_, q0_⟩
                · rw [if_neg c36] at H
                  have c36b0 : (t318 == 14) = false := beq_eq_false_iff_ne.mpr c36
                  have c36b1 : (t318 != 14) = true := bne_iff_ne.mpr c36
                  by_cases c42 : t318 = 0
                  · rw [if_pos c42] at H
                    have c42b0 : (t318 == 0) = true := beq_iff_eq.mpr c42
                    have c42b1 : (t318 != 0) = false := bne_eq_false_iff_eq.mpr c42
                    clear c42
                    by_cases c43 : t315 = 0
                    · rw [if_pos c43] at H
                      have c43b0 : (t315 == 0) = true := beq_iff_eq.mpr c43
                      have c43b1 : (t315 != 0) = false := bne_eq_false_iff_eq.mpr c43
                      clear c43
                      replace H := Option.bind_eq_some_iff.mp H
                      obtain ⟨t321, A440, H⟩ := H
                      replace H : (if t321 = true then ((corollarylaw10_awake.f k2).bind fun t322 => (some t322)) else (some false)) = some r := H
                      have A44 := Aside0.mk A440
                      clear A440
                      by_cases c45 : t321 = true
                      · subst c45
                        replace H := ifT_ H
                        replace H := Option.bind_eq_some_iff.mp H
                        obtain ⟨t322, A460, H⟩ := H
                        replace H : (some t322) = some r := H
                        have A46 := Aside0.mk A460
                        clear A460
                        obtain rfl := Option.some.inj H
                        go_wp2_with (first | ((with_reducible refine gate_callee (f := 12) rfl ?_); refine goesL_ (some 64) rfl rfl Tryd.func12 (by kernel_rfl) rfl #[.slice A0 l0.length c0, .slice A2 l2.length c2] rfl q2_ ?_; (with_reducible refine (expr_Eval.calls k2 _ _ l0 _ _ l2 t315 t316 t317 t318 _ ?side1 ?side2 ?side3 ?side4 A35.out q3_).mono ?_); (case side1 => repeat (first | exact (Kd.C_below HR0.out HB.out) | (with_reducible refine Kd.C_alloc ?_ _) | (with_reducible refine Kd.C_drewN ?_ _) | (with_reducible refine Kd.C_drew ?_))); (case side2 => exact HC0.out); (case side3 => repeat (first | exact (Kd.C_below HR2.out HB.out) | (with_reducible refine Kd.C_alloc ?_ _) | (with_reducible refine Kd.C_drewN ?_ _) | (with_reducible refine Kd.C_drew ?_))); (case side4 => exact HC2.out); rintro e w47 ⟨rfl, hb⟩; refine ⟨_, rfl, ?_⟩; have n0_ := Aside0.mk (below_step q0_ hb); clear HB; have HB := n0_; clear n0_; (try clear hb); (try clear hb2); (try clear hk); (try clear hi)) | ((with_reducible refine gate_dst (N := 11) rfl ?_); (try (refine gate_guard (by rfl) ?_; dsimp only)); refine box_event ?hg (N := 11) ?hd (cs := #[.int .i64 0, .int .i64 0, .string (⟨#[]⟩ : ByteArray)]) (t := 31) ?hr ?_; (case hd => rfl); (case hg => rfl); (case hr => first | (go_simp; done) | (go_simp; rfl)); intro gb319 hg w48 hbox hb; have n0_ := Aside0.mk (below_step q0_ hb); have n1_ := Aside0.mk (hbox); have n2_ := Aside0.mk ((q1_ : w.heap.size ≤ gb319)); have n3_ := Aside0.mk ((q1_ : w.heap.size ≤ gb319)); clear HB; have HB := n0_; have BK319 := n1_; have GW319 := n2_; have GE319 := n3_; clear n0_ n1_ n2_ n3_; clear hb hbox hg; have hcz49_0 : w48.cell? ⟨gb319, 0, none⟩ = some (.int .i64 0) := (blk_cell BK319.out 0).trans rfl; have hcz49_1 : w48.cell? ⟨gb319, 1, none⟩ = some (.int .i64 0) := (blk_cell BK319.out 1).trans rfl; have hcz49_2 : w48.cell? ⟨gb319, 2, none⟩ = some (.string (⟨#[]⟩ : ByteArray)) := (blk_cell BK319.out 2).trans rfl; have hfz49_0 := blk_frozen BK319.out 0; have hfz49_1 := blk_frozen BK319.out 1; have hfz49_2 := blk_frozen BK319.out 2) | (go_at_call 11; (with_reducible refine (corollaryref01_Right.calls k2 t315 t316 t317 true _ A44.out).mono ?_); rintro e w50 ⟨rfl, hb⟩; have n0_ := Aside0.mk (blk_below (g := gb319) (o := .cells #[.int .i64 t315, .int .i64 t316, .string t317] 31 (0, 0)) q22_ hb); have n1_ := Aside0.mk (below_step q0_ hb); clear BK319; clear HB; have BK319 := n0_; have HB := n1_; clear n0_ n1_; (try clear hb); (try clear hb2); (try clear hk); (try clear hi)) | (go_at_call 9; (with_reducible refine (corollarylaw10_awake.calls k2  t322 _ A46.out q101_).mono ?_); rintro e w51 ⟨rfl, hb⟩; have n0_ := Aside0.mk (blk_below (g := gb319) (o := .cells #[.int .i64 t315, .int .i64 t316, .string t317] 31 (0, 0)) (by (with_reducible repeat first | apply bN_ | apply bD_ | apply bA_); exact BK319.out) hb); have n1_ := Aside0.mk (below_step q0_ hb); clear BK319; clear HB; have BK319 := n0_; have HB := n1_; clear n0_ n1_; (try clear hb); (try clear hb2); (try clear hk); (try clear hi)))
                        go_ret
                        exact ⟨q4_, q0_⟩
                      · replace c45 := Bool.eq_false_iff.mpr c45
                        subst c45
                        replace H := ifF_ H
                        obtain rfl := Option.some.inj H
                        go_wp2_with (first | ((with_reducible refine gate_callee (f := 12) rfl ?_); refine goesL_ (some 64) rfl rfl Tryd.func12 (by kernel_rfl) rfl #[.slice A0 l0.length c0, .slice A2 l2.length c2] rfl q2_ ?_; (with_reducible refine (expr_Eval.calls k2 _ _ l0 _ _ l2 t315 t316 t317 t318 _ ?side1 ?side2 ?side3 ?side4 A35.out q3_).mono ?_); (case side1 => repeat (first | exact (Kd.C_below HR0.out HB.out) | (with_reducible refine Kd.C_alloc ?_ _) | (with_reducible refine Kd.C_drewN ?_ _) | (with_reducible refine Kd.C_drew ?_))); (case side2 => exact HC0.out); (case side3 => repeat (first | exact (Kd.C_below HR2.out HB.out) | (with_reducible refine Kd.C_alloc ?_ _) | (with_reducible refine Kd.C_drewN ?_ _) | (with_reducible refine Kd.C_drew ?_))); (case side4 => exact HC2.out); rintro e w52 ⟨rfl, hb⟩; refine ⟨_, rfl, ?_⟩; have n0_ := Aside0.mk (below_step q0_ hb); clear HB; have HB := n0_; clear n0_; (try clear hb); (try clear hb2); (try clear hk); (try clear hi)) | ((with_reducible refine gate_dst (N := 11) rfl ?_); (try (refine gate_guard (by rfl) ?_; dsimp only)); refine box_event ?hg (N := 11) ?hd (cs := #[.int .i64 0, .int .i64 0, .string (⟨#[]⟩ : ByteArray)]) (t := 31) ?hr ?_; (case hd => rfl); (case hg => rfl); (case hr => first | (go_simp; done) | (go_simp; rfl)); intro gb319 hg w53 hbox hb; have n0_ := Aside0.mk (below_step q0_ hb); have n1_ := Aside0.mk (hbox); have n2_ := Aside0.mk ((q1_ : w.heap.size ≤ gb319)); have n3_ := Aside0.mk ((q1_ : w.heap.size ≤ gb319)); clear HB; have HB := n0_; have BK319 := n1_; have GW319 := n2_; have GE319 := n3_; clear n0_ n1_ n2_ n3_; clear hb hbox hg; have hcz54_0 : w53.cell? ⟨gb319, 0, none⟩ = some (.int .i64 0) := (blk_cell BK319.out 0).trans rfl; have hcz54_1 : w53.cell? ⟨gb319, 1, none⟩ = some (.int .i64 0) := (blk_cell BK319.out 1).trans rfl; have hcz54_2 : w53.cell? ⟨gb319, 2, none⟩ = some (.string (⟨#[]⟩ : ByteArray)) := (blk_cell BK319.out 2).trans rfl; have hfz54_0 := blk_frozen BK319.out 0; have hfz54_1 := blk_frozen BK319.out 1; have hfz54_2 := blk_frozen BK319.out 2) | (go_at_call 11; (with_reducible refine (corollaryref01_Right.calls k2 t315 t316 t317 false _ A44.out).mono ?_); rintro e w55 ⟨rfl, hb⟩; have n0_ := Aside0.mk (blk_below (g := gb319) (o := .cells #[.int .i64 t315, .int .i64 t316, .string t317] 31 (0, 0)) q22_ hb); have n1_ := Aside0.mk (below_step q0_ hb); clear BK319; clear HB; have BK319 := n0_; have HB := n1_; clear n0_ n1_; (try clear hb); (try clear hb2); (try clear hk); (try clear hi)))
                        go_ret
                        exact ⟨q4_, q0_⟩
                    · rw [if_neg c43] at H
                      have c43b0 : (t315 == 0) = false := beq_eq_false_iff_ne.mpr c43
                      have c43b1 : (t315 != 0) = true := bne_iff_ne.mpr c43
                      by_cases c56 : t315 = t307
                      · rw [if_pos c56] at H
                        have c56b0 : (t315 == t307) = true := beq_iff_eq.mpr c56
                        have c56b1 : (t315 != t307) = false := bne_eq_false_iff_eq.mpr c56
                        clear c56
                        replace H := Option.bind_eq_some_iff.mp H
                        obtain ⟨t323, A570, H⟩ := H
                        replace H : (if t323 = true then ((corollarylaw10_awake.f k2).bind fun t324 => (some t324)) else (some false)) = some r := H
                        have A57 := Aside0.mk A570
                        clear A570
                        by_cases c58 : t323 = true
                        · subst c58
                          replace H := ifT_ H
                          replace H := Option.bind_eq_some_iff.mp H
                          obtain ⟨t324, A590, H⟩ := H
                          replace H : (some t324) = some r := H
                          have A59 := Aside0.mk A590
                          clear A590
                          obtain rfl := Option.some.inj H
                          go_wp2_with (first | ((with_reducible refine gate_callee (f := 12) rfl ?_); refine goesL_ (some 64) rfl rfl Tryd.func12 (by kernel_rfl) rfl #[.slice A0 l0.length c0, .slice A2 l2.length c2] rfl q2_ ?_; (with_reducible refine (expr_Eval.calls k2 _ _ l0 _ _ l2 t315 t316 t317 t318 _ ?side1 ?side2 ?side3 ?side4 A35.out q3_).mono ?_); (case side1 => repeat (first | exact (Kd.C_below HR0.out HB.out) | (with_reducible refine Kd.C_alloc ?_ _) | (with_reducible refine Kd.C_drewN ?_ _) | (with_reducible refine Kd.C_drew ?_))); (case side2 => exact HC0.out); (case side3 => repeat (first | exact (Kd.C_below HR2.out HB.out) | (with_reducible refine Kd.C_alloc ?_ _) | (with_reducible refine Kd.C_drewN ?_ _) | (with_reducible refine Kd.C_drew ?_))); (case side4 => exact HC2.out); rintro e w60 ⟨rfl, hb⟩; refine ⟨_, rfl, ?_⟩; have n0_ := Aside0.mk (below_step q0_ hb); clear HB; have HB := n0_; clear n0_; (try clear hb); (try clear hb2); (try clear hk); (try clear hi)) | ((with_reducible refine gate_dst (N := 11) rfl ?_); (try (refine gate_guard (by rfl) ?_; dsimp only)); refine box_event ?hg (N := 11) ?hd (cs := #[.int .i64 0, .int .i64 0, .string (⟨#[]⟩ : ByteArray)]) (t := 31) ?hr ?_; (case hd => rfl); (case hg => rfl); (case hr => first | (go_simp; done) | (go_simp; rfl)); intro gb319 hg w61 hbox hb; have n0_ := Aside0.mk (below_step q0_ hb); have n1_ := Aside0.mk (hbox); have n2_ := Aside0.mk ((q1_ : w.heap.size ≤ gb319)); have n3_ := Aside0.mk ((q1_ : w.heap.size ≤ gb319)); clear HB; have HB := n0_; have BK319 := n1_; have GW319 := n2_; have GE319 := n3_; clear n0_ n1_ n2_ n3_; clear hb hbox hg; have hcz62_0 : w61.cell? ⟨gb319, 0, none⟩ = some (.int .i64 0) := (blk_cell BK319.out 0).trans rfl; have hcz62_1 : w61.cell? ⟨gb319, 1, none⟩ = some (.int .i64 0) := (blk_cell BK319.out 1).trans rfl; have hcz62_2 : w61.cell? ⟨gb319, 2, none⟩ = some (.string (⟨#[]⟩ : ByteArray)) := (blk_cell BK319.out 2).trans rfl; have hfz62_0 := blk_frozen BK319.out 0; have hfz62_1 := blk_frozen BK319.out 1; have hfz62_2 := blk_frozen BK319.out 2) | (go_at_call 11; (with_reducible refine (corollaryref01_Right.calls k2 t315 t316 t317 true _ A57.out).mono ?_); rintro e w63 ⟨rfl, hb⟩; have n0_ := Aside0.mk (blk_below (g := gb319) (o := .cells #[.int .i64 t315, .int .i64 t316, .string t317] 31 (0, 0)) q22_ hb); have n1_ := Aside0.mk (below_step q0_ hb); clear BK319; clear HB; have BK319 := n0_; have HB := n1_; clear n0_ n1_; (try clear hb); (try clear hb2); (try clear hk); (try clear hi)) | (go_at_call 9; (with_reducible refine (corollarylaw10_awake.calls k2  t324 _ A59.out q101_).mono ?_); rintro e w64 ⟨rfl, hb⟩; have n0_ := Aside0.mk (blk_below (g := gb319) (o := .cells #[.int .i64 t315, .int .i64 t316, .string t317] 31 (0, 0)) (by (with_reducible repeat first | apply bN_ | apply bD_ | apply bA_); exact BK319.out) hb); have n1_ := Aside0.mk (below_step q0_ hb); clear BK319; clear HB; have BK319 := n0_; have HB := n1_; clear n0_ n1_; (try clear hb); (try clear hb2); (try clear hk); (try clear hi)))
                          go_ret
                          exact ⟨q4_, q0_⟩
                        · replace c58 := Bool.eq_false_iff.mpr c58
                          subst c58
                          replace H := ifF_ H
                          obtain rfl := Option.some.inj H
                          go_wp2_with (first | ((with_reducible refine gate_callee (f := 12) rfl ?_); refine goesL_ (some 64) rfl rfl Tryd.func12 (by kernel_rfl) rfl #[.slice A0 l0.length c0, .slice A2 l2.length c2] rfl q2_ ?_; (with_reducible refine (expr_Eval.calls k2 _ _ l0 _ _ l2 t315 t316 t317 t318 _ ?side1 ?side2 ?side3 ?side4 A35.out q3_).mono ?_); (case side1 => repeat (first | exact (Kd.C_below HR0.out HB.out) | (with_reducible refine Kd.C_alloc ?_ _) | (with_reducible refine Kd.C_drewN ?_ _) | (with_reducible refine Kd.C_drew ?_))); (case side2 => exact HC0.out); (case side3 => repeat (first | exact (Kd.C_below HR2.out HB.out) | (with_reducible refine Kd.C_alloc ?_ _) | (with_reducible refine Kd.C_drewN ?_ _) | (with_reducible refine Kd.C_drew ?_))); (case side4 => exact HC2.out); rintro e w65 ⟨rfl, hb⟩; refine ⟨_, rfl, ?_⟩; have n0_ := Aside0.mk (below_step q0_ hb); clear HB; have HB := n0_; clear n0_; (try clear hb); (try clear hb2); (try clear hk); (try clear hi)) | ((with_reducible refine gate_dst (N := 11) rfl ?_); (try (refine gate_guard (by rfl) ?_; dsimp only)); refine box_event ?hg (N := 11) ?hd (cs := #[.int .i64 0, .int .i64 0, .string (⟨#[]⟩ : ByteArray)]) (t := 31) ?hr ?_; (case hd => rfl); (case hg => rfl); (case hr => first | (go_simp; done) | (go_simp; rfl)); intro gb319 hg w66 hbox hb; have n0_ := Aside0.mk (below_step q0_ hb); have n1_ := Aside0.mk (hbox); have n2_ := Aside0.mk ((q1_ : w.heap.size ≤ gb319)); have n3_ := Aside0.mk ((q1_ : w.heap.size ≤ gb319)); clear HB; have HB := n0_; have BK319 := n1_; have GW319 := n2_; have GE319 := n3_; clear n0_ n1_ n2_ n3_; clear hb hbox hg; have hcz67_0 : w66.cell? ⟨gb319, 0, none⟩ = some (.int .i64 0) := (blk_cell BK319.out 0).trans rfl; have hcz67_1 : w66.cell? ⟨gb319, 1, none⟩ = some (.int .i64 0) := (blk_cell BK319.out 1).trans rfl; have hcz67_2 : w66.cell? ⟨gb319, 2, none⟩ = some (.string (⟨#[]⟩ : ByteArray)) := (blk_cell BK319.out 2).trans rfl; have hfz67_0 := blk_frozen BK319.out 0; have hfz67_1 := blk_frozen BK319.out 1; have hfz67_2 := blk_frozen BK319.out 2) | (go_at_call 11; (with_reducible refine (corollaryref01_Right.calls k2 t315 t316 t317 false _ A57.out).mono ?_); rintro e w68 ⟨rfl, hb⟩; have n0_ := Aside0.mk (blk_below (g := gb319) (o := .cells #[.int .i64 t315, .int .i64 t316, .string t317] 31 (0, 0)) q22_ hb); have n1_ := Aside0.mk (below_step q0_ hb); clear BK319; clear HB; have BK319 := n0_; have HB := n1_; clear n0_ n1_; (try clear hb); (try clear hb2); (try clear hk); (try clear hi)))
                          go_ret
                          exact ⟨q4_, q0_⟩
                      · rw [if_neg c56] at H
                        have c56b0 : (t315 == t307) = false := beq_eq_false_iff_ne.mpr c56
                        have c56b1 : (t315 != t307) = true := bne_iff_ne.mpr c56
                        obtain rfl := Option.some.inj H
                        go_wp2_with (first | ((with_reducible refine gate_callee (f := 12) rfl ?_); refine goesL_ (some 64) rfl rfl Tryd.func12 (by kernel_rfl) rfl #[.slice A0 l0.length c0, .slice A2 l2.length c2] rfl q2_ ?_; (with_reducible refine (expr_Eval.calls k2 _ _ l0 _ _ l2 t315 t316 t317 t318 _ ?side1 ?side2 ?side3 ?side4 A35.out q3_).mono ?_); (case side1 => repeat (first | exact (Kd.C_below HR0.out HB.out) | (with_reducible refine Kd.C_alloc ?_ _) | (with_reducible refine Kd.C_drewN ?_ _) | (with_reducible refine Kd.C_drew ?_))); (case side2 => exact HC0.out); (case side3 => repeat (first | exact (Kd.C_below HR2.out HB.out) | (with_reducible refine Kd.C_alloc ?_ _) | (with_reducible refine Kd.C_drewN ?_ _) | (with_reducible refine Kd.C_drew ?_))); (case side4 => exact HC2.out); rintro e w69 ⟨rfl, hb⟩; refine ⟨_, rfl, ?_⟩; have n0_ := Aside0.mk (below_step q0_ hb); clear HB; have HB := n0_; clear n0_; (try clear hb); (try clear hb2); (try clear hk); (try clear hi)) | ((with_reducible refine gate_dst (N := 11) rfl ?_); (try (refine gate_guard (by rfl) ?_; dsimp only)); refine box_event ?hg (N := 11) ?hd (cs := #[.int .i64 0, .int .i64 0, .string (⟨#[]⟩ : ByteArray)]) (t := 31) ?hr ?_; (case hd => rfl); (case hg => rfl); (case hr => first | (go_simp; done) | (go_simp; rfl)); intro gb319 hg w70 hbox hb; have n0_ := Aside0.mk (below_step q0_ hb); have n1_ := Aside0.mk (hbox); have n2_ := Aside0.mk ((q1_ : w.heap.size ≤ gb319)); have n3_ := Aside0.mk ((q1_ : w.heap.size ≤ gb319)); clear HB; have HB := n0_; have BK319 := n1_; have GW319 := n2_; have GE319 := n3_; clear n0_ n1_ n2_ n3_; clear hb hbox hg; have hcz71_0 : w70.cell? ⟨gb319, 0, none⟩ = some (.int .i64 0) := (blk_cell BK319.out 0).trans rfl; have hcz71_1 : w70.cell? ⟨gb319, 1, none⟩ = some (.int .i64 0) := (blk_cell BK319.out 1).trans rfl; have hcz71_2 : w70.cell? ⟨gb319, 2, none⟩ = some (.string (⟨#[]⟩ : ByteArray)) := (blk_cell BK319.out 2).trans rfl; have hfz71_0 := blk_frozen BK319.out 0; have hfz71_1 := blk_frozen BK319.out 1; have hfz71_2 := blk_frozen BK319.out 2))
                        go_ret
                        exact ⟨q4_, q0_⟩
                  · rw [if_neg c42] at H
                    have c42b0 : (t318 == 0) = false := beq_eq_false_iff_ne.mpr c42
                    have c42b1 : (t318 != 0) = true := bne_iff_ne.mpr c42
                    obtain rfl := Option.some.inj H
                    go_wp2_with (first | ((with_reducible refine gate_callee (f := 12) rfl ?_); refine goesL_ (some 64) rfl rfl Tryd.func12 (by kernel_rfl) rfl #[.slice A0 l0.length c0, .slice A2 l2.length c2] rfl q2_ ?_; (with_reducible refine (expr_Eval.calls k2 _ _ l0 _ _ l2 t315 t316 t317 t318 _ ?side1 ?side2 ?side3 ?side4 A35.out q3_).mono ?_); (case side1 => repeat (first | exact (Kd.C_below HR0.out HB.out) | (with_reducible refine Kd.C_alloc ?_ _) | (with_reducible refine Kd.C_drewN ?_ _) | (with_reducible refine Kd.C_drew ?_))); (case side2 => exact HC0.out); (case side3 => repeat (first | exact (Kd.C_below HR2.out HB.out) | (with_reducible refine Kd.C_alloc ?_ _) | (with_reducible refine Kd.C_drewN ?_ _) | (with_reducible refine Kd.C_drew ?_))); (case side4 => exact HC2.out); rintro e w72 ⟨rfl, hb⟩; refine ⟨_, rfl, ?_⟩; have n0_ := Aside0.mk (below_step q0_ hb); clear HB; have HB := n0_; clear n0_; (try clear hb); (try clear hb2); (try clear hk); (try clear hi)) | ((with_reducible refine gate_dst (N := 11) rfl ?_); (try (refine gate_guard (by rfl) ?_; dsimp only)); refine box_event ?hg (N := 11) ?hd (cs := #[.int .i64 0, .int .i64 0, .string (⟨#[]⟩ : ByteArray)]) (t := 31) ?hr ?_; (case hd => rfl); (case hg => rfl); (case hr => first | (go_simp; done) | (go_simp; rfl)); intro gb319 hg w73 hbox hb; have n0_ := Aside0.mk (below_step q0_ hb); have n1_ := Aside0.mk (hbox); have n2_ := Aside0.mk ((q1_ : w.heap.size ≤ gb319)); have n3_ := Aside0.mk ((q1_ : w.heap.size ≤ gb319)); clear HB; have HB := n0_; have BK319 := n1_; have GW319 := n2_; have GE319 := n3_; clear n0_ n1_ n2_ n3_; clear hb hbox hg; have hcz74_0 : w73.cell? ⟨gb319, 0, none⟩ = some (.int .i64 0) := (blk_cell BK319.out 0).trans rfl; have hcz74_1 : w73.cell? ⟨gb319, 1, none⟩ = some (.int .i64 0) := (blk_cell BK319.out 1).trans rfl; have hcz74_2 : w73.cell? ⟨gb319, 2, none⟩ = some (.string (⟨#[]⟩ : ByteArray)) := (blk_cell BK319.out 2).trans rfl; have hfz74_0 := blk_frozen BK319.out 0; have hfz74_1 := blk_frozen BK319.out 1; have hfz74_2 := blk_frozen BK319.out 2))
                    go_ret
                    exact ⟨q4_, q0_⟩
        · rw [if_neg c11] at H
          have c11b0 : (t308 == 0) = false := beq_eq_false_iff_ne.mpr c11
          have c11b1 : (t308 != 0) = true := bne_iff_ne.mpr c11
          replace H := Option.bind_eq_some_iff.mp H
          obtain ⟨t309, A750, H⟩ := H
          replace H : (some t309) = some r := H
          have A75 := Aside0.mk A750
          clear A750
          obtain rfl := Option.some.inj H
          go_wp2_with (first | ((with_reducible refine gate_callee (f := 10) rfl ?_); refine goesL_ (some 29) rfl rfl Tryd.func10 (by kernel_rfl) rfl #[.slice A0 l0.length c0, .slice A1 l1.length c1] rfl q2_ ?_; (with_reducible refine (expr_Type.calls kj3 _ _ l0 _ _ l1 t307 t308 _ ?side1 ?side2 ?side3 ?side4 A10.out q3_).mono ?_); (case side1 => repeat (first | exact (Kd.C_below HR0.out HB.out) | (with_reducible refine Kd.C_alloc ?_ _) | (with_reducible refine Kd.C_drewN ?_ _) | (with_reducible refine Kd.C_drew ?_))); (case side2 => exact HC0.out); (case side3 => repeat (first | exact (Kd.C_below HR1.out HB.out) | (with_reducible refine Kd.C_alloc ?_ _) | (with_reducible refine Kd.C_drewN ?_ _) | (with_reducible refine Kd.C_drew ?_))); (case side4 => exact HC1.out); rintro e w76 ⟨rfl, hb⟩; refine ⟨_, rfl, ?_⟩; have n0_ := Aside0.mk (below_step q0_ hb); clear HB; have HB := n0_; clear n0_; (try clear hb); (try clear hb2); (try clear hk); (try clear hi)) | ((with_reducible refine gate_callee (f := 9) rfl ?_); refine goesL_ (some 34) rfl rfl Tryd.func9 (by kernel_rfl) rfl #[] rfl q2_ ?_; (with_reducible refine (corollarylaw10_awake.calls kj3  t309 _ A75.out q3_).mono ?_); rintro e w77 ⟨rfl, hb⟩; refine ⟨_, rfl, ?_⟩; have n0_ := Aside0.mk (below_step q0_ hb); clear HB; have HB := n0_; clear n0_; (try clear hb); (try clear hb2); (try clear hk); (try clear hi)))
          go_ret
          exact ⟨q4_, q0_⟩

end Go.Proofs.YtiamgfpeffjcjaaDoor.P
