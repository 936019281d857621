-- HALVED
-- Written by our own program (wip/xprint) over the seat's translation. Lean checks it.
import Derived.Test.YtckligjgnbgdiaaDoorPx0
import Derived.Test.YtckligjgnbgdiaaDoorPx1
import Derived.Test.YtckligjgnbgdiaaDoorPx19
import Derived.Test.YtckligjgnbgdiaaDoorPx22
import Derived.Test.YtckligjgnbgdiaaDoorPx52
import Derived.Test.YtckligjgnbgdiaaDoorPx59
import Derived.Test.YtckligjgnbgdiaaDoorPx60
namespace Go.Proofs.YtckligjgnbgdiaaDoor.P
open Go.RowKit Go.Proofs.YtckligjgnbgdiaaDoorW.PrintWords Go.Proofs.YtckligjgnbgdiaaDoorW.PrintLast Go.Proofs.YtckligjgnbgdiaaDoorW.PrintMore
attribute [local go_sem] max2_int min2_mn max_two min_two max_three min_three max_four min_four   -- for this text's walks alone
set_option linter.unusedVariables false
set_option linter.unusedSimpArgs false


/-! ### corollarylaw13_BagRights: function 3 -/
mutual
def corollarylaw13_BagRights.j0 : Nat → List (S27) → List (S51) → Bool → Option (Bool)
 | 0, _, _, _ => none
 | k + 1, x0, x1, x17 => if x17 = true then ((corollarylaw13_awake.f k).bind fun t250 => (some t250)) else ((corollaryref13_Right.f k x0).bind fun t251 => (corollarylaw13_BagRights.l0 k x0 x1 t251 t251 0 x0 (x0.length : Int) 0))
def corollarylaw13_BagRights.l0 : Nat → List (S27) → List (S51) → Bool → Bool → Int → List (S27) → Int → Int → Option (Bool)
 | 0, _, _, _, _, _, _, _, _ => none
 | k + 1, x0, x1, x5, x6, x7, x22, x23, x24 => if x24 < x23 then (if 0 ≤ x24 then (if x24 < (x22.length : Int) then (if x6 = true then (corollarylaw13_BagRights.l0 k x0 x1 x5 (decide (((rd_T27 x22 x24).f1) > 0)) (wrap64 (x7 + ((rd_T27 x22 x24).f1))) x22 x23 (wrap64 (x24 + 1))) else (corollarylaw13_BagRights.l0 k x0 x1 x5 false (wrap64 (x7 + ((rd_T27 x22 x24).f1))) x22 x23 (wrap64 (x24 + 1)))) else (none)) else (none)) else (if x5 = true then ((bag_Right.f k x0).bind fun t259 => (if t259 = true then ((bag_Whole.f k x0).bind fun t260 => (if x6 = true then (if t260 = true then ((bag_N.f k x0 x1).bind fun t261 => ((corollaryref13_N.f k x0 x1).bind fun t262 => (if t261 = t262 then ((bag_Size.f k x0).bind fun t263 => (if t263 = x7 then ((corollarylaw13_awake.f k).bind fun t264 => (some t264)) else (some false))) else (some false)))) else (some false)) else (if t260 = true then (some false) else ((bag_N.f k x0 x1).bind fun t265 => ((corollaryref13_N.f k x0 x1).bind fun t266 => (if t265 = t266 then ((bag_Size.f k x0).bind fun t267 => (if t267 = x7 then ((corollarylaw13_awake.f k).bind fun t268 => (some t268)) else (some false))) else (some false))))))) else (some false))) else ((bag_Right.f k x0).bind fun t254 => (if t254 = true then (some false) else ((bag_Whole.f k x0).bind fun t255 => (if t255 = true then (some false) else ((bag_N.f k x0 x1).bind fun t256 => (if t256 = 0 then ((bag_Size.f k x0).bind fun t257 => (if t257 = 0 then ((corollarylaw13_awake.f k).bind fun t258 => (some t258)) else (some false))) else (some false))))))))
end
def corollarylaw13_BagRights.f (k : Nat) (l0 : List (S27)) (l1 : List (S51)) : Option (Bool) := (corollaryref13_Small.f k l0).bind fun t249 => (if t249 = true then (corollarylaw13_BagRights.j0 k l0 l1 (decide ((l1.length : Int) > 40))) else (corollarylaw13_BagRights.j0 k l0 l1 true))
theorem corollarylaw13_BagRights.mono_l : ∀ k, (∀ y0 y1 y2, LeO (corollarylaw13_BagRights.j0 k y0 y1 y2) (corollarylaw13_BagRights.j0 (k + 1) y0 y1 y2)) ∧ (∀ y0 y1 y2 y3 y4 y5 y6 y7, LeO (corollarylaw13_BagRights.l0 k y0 y1 y2 y3 y4 y5 y6 y7) (corollarylaw13_BagRights.l0 (k + 1) y0 y1 y2 y3 y4 y5 y6 y7))
 | 0 => ⟨fun _ _ _ r h => by simp [corollarylaw13_BagRights.j0] at h, fun _ _ _ _ _ _ _ _ r h => by simp [corollarylaw13_BagRights.l0] at h⟩
 | k + 1 => by
  obtain ⟨ih0, ih1⟩ := corollarylaw13_BagRights.mono_l k
  refine ⟨?_, ?_⟩
  all_goals intros
  all_goals first
   | unfold corollarylaw13_BagRights.j0
   | unfold corollarylaw13_BagRights.l0
  all_goals repeat' first
   | (with_reducible exact ih0 _ _ _)
   | (with_reducible exact ih1 _ _ _ _ _ _ _ _)
   | (with_reducible exact bag_N.mono _ _ _)
   | (with_reducible exact bag_Right.mono _ _)
   | (with_reducible exact bag_Size.mono _ _)
   | (with_reducible exact bag_Whole.mono _ _)
   | (with_reducible exact corollarylaw13_awake.mono _)
   | (with_reducible exact corollaryref13_N.mono _ _ _)
   | (with_reducible exact corollaryref13_Right.mono _ _)
   | (with_reducible exact corollaryref13_Small.mono _ _)
   | (with_reducible exact LeO.refl _)
   | (with_reducible exact LeO.none _)
   | (with_reducible refine LeO.ite ?_ ?_)
   | (with_reducible refine LeO.bind ?_ (fun _ => ?_))
   | exact ih0 _ _ _
   | exact ih1 _ _ _ _ _ _ _ _
   | exact bag_N.mono _ _ _
   | exact bag_Right.mono _ _
   | exact bag_Size.mono _ _
   | exact bag_Whole.mono _ _
   | exact corollarylaw13_awake.mono _
   | exact corollaryref13_N.mono _ _ _
   | exact corollaryref13_Right.mono _ _
   | exact corollaryref13_Small.mono _ _
   | exact LeO.none _
   | refine LeO.ite ?_ ?_
   | refine LeO.bind ?_ (fun _ => ?_)
theorem corollarylaw13_BagRights.mono : ∀ a0 a1 k, LeO (corollarylaw13_BagRights.f k a0 a1) (corollarylaw13_BagRights.f (k + 1) a0 a1) := by
 intro a0 a1 k
 obtain ⟨ih0, ih1⟩ := corollarylaw13_BagRights.mono_l k
 unfold corollarylaw13_BagRights.f
 repeat' first
   | (with_reducible exact ih0 _ _ _)
   | (with_reducible exact ih1 _ _ _ _ _ _ _ _)
   | (with_reducible exact bag_N.mono _ _ _)
   | (with_reducible exact bag_Right.mono _ _)
   | (with_reducible exact bag_Size.mono _ _)
   | (with_reducible exact bag_Whole.mono _ _)
   | (with_reducible exact corollarylaw13_awake.mono _)
   | (with_reducible exact corollaryref13_N.mono _ _ _)
   | (with_reducible exact corollaryref13_Right.mono _ _)
   | (with_reducible exact corollaryref13_Small.mono _ _)
   | (with_reducible exact LeO.refl _)
   | (with_reducible exact LeO.none _)
   | (with_reducible refine LeO.ite ?_ ?_)
   | (with_reducible refine LeO.bind ?_ (fun _ => ?_))
   | exact ih0 _ _ _
   | exact ih1 _ _ _ _ _ _ _ _
   | exact bag_N.mono _ _ _
   | exact bag_Right.mono _ _
   | exact bag_Size.mono _ _
   | exact bag_Whole.mono _ _
   | exact corollarylaw13_awake.mono _
   | exact corollaryref13_N.mono _ _ _
   | exact corollaryref13_Right.mono _ _
   | exact corollaryref13_Small.mono _ _
   | exact LeO.none _
   | refine LeO.ite ?_ ?_
   | refine LeO.bind ?_ (fun _ => ?_)
set_option maxHeartbeats 8000000 in
set_option maxRecDepth 100000 in
theorem corollarylaw13_BagRights.calls (k : Nat) (A0 : Option Addr) (c0 : Nat) (l0 : List (S27)) (A1 : Option Addr) (c1 : Nat) (l1 : List (S51)) (r : Bool) (w : World) (hr0 : Kd.C k27 w A0 l0.length l0) (hc0 : l0.length ≤ c0) (hr1 : Kd.C k51 w A1 l1.length l1) (hc1 : l1.length ≤ c1) (h : corollarylaw13_BagRights.f k l0 l1 = some r) (hG : Glob w) :
  Calls Tryd.prog 3 #[.slice A0 l0.length c0, .slice A1 l1.length c1] w fun e w' => e = .returned (.bool r) ∧ Below w.heap.size w w' := by
 have hu27 := Tryd.underlying27
 have HG := Aside0.mk hG
 clear hG
 have HR0 := Aside0.mk hr0
 have HC0 := Aside0.mk hc0
 clear hr0 hc0
 have HR1 := Aside0.mk hr1
 have HC1 := Aside0.mk hc1
 clear hr1 hc1
 have HB := Aside0.mk (Below.refl w.heap.size w)
 have H : ((corollaryref13_Small.f k l0).bind fun t249 => (if t249 = true then (corollarylaw13_BagRights.j0 k l0 l1 (decide ((l1.length : Int) > 40))) else (corollarylaw13_BagRights.j0 k l0 l1 true))) = some r := h
 clear h
 have HC3 := Aside0.mk H
 clear H
 go_enter Tryd.func3, Tryd.ntmps3
 go_upto_region 1 with (fail)
 go_cut [17] (fun v17 wc => ∃ (kq : Nat) (x17_2 : Bool), v17 = .bool x17_2 ∧ Aside0 (corollarylaw13_BagRights.j0 kq l0 l1 x17_2 = some r) ∧ Aside0 (kq ≤ k) ∧ Aside0 (Below w.heap.size w wc))
 case first =>
  have H := HC3.out
  clear HC3
  replace H := Option.bind_eq_some_iff.mp H
  obtain ⟨t249, A40, H⟩ := H
  replace H : (if t249 = true then (corollarylaw13_BagRights.j0 k l0 l1 (decide ((l1.length : Int) > 40))) else (corollarylaw13_BagRights.j0 k l0 l1 true)) = some r := H
  have A4 := Aside0.mk A40
  clear A40
  by_cases c5 : t249 = true
  ·subst c5
   replace H := ifT_ H
   have H' := Aside0.mk H
   clear H
   go_wp2_with (first | ((with_reducible refine gate_callee (f := 9) rfl ?_); refine goesL_ (some 11) rfl rfl Tryd.func9 (by kernel_rfl) rfl #[.slice A0 l0.length c0] rfl q2_ ?_; (with_reducible refine (corollaryref13_Small.calls k _ _ l0 true _ ?side1 ?side2 A4.out).mono ?_); (case side1 => repeat (first | exact (Kd.C_below HR0.out HB.out) | (with_reducible refine Kd.C_alloc ?_ _) | (with_reducible refine Kd.C_drewN ?_ _) | (with_reducible refine Kd.C_drew ?_))); (case side2 => exact HC0.out); rintro e w' ⟨rfl, ⟨nd, rfl⟩⟩; refine ⟨_, rfl, ?_⟩))
   go_meet
   case rel => exact ⟨_, (decide ((l1.length : Int) > 40)), q9_, H', ⟨by first | omega | exact Nat.le_refl _⟩, ⟨q0_⟩⟩
  ·replace c5 := Bool.eq_false_iff.mpr c5
   subst c5
   replace H := ifF_ H
   have H' := Aside0.mk H
   clear H
   go_wp2_with (first | ((with_reducible refine gate_callee (f := 9) rfl ?_); refine goesL_ (some 11) rfl rfl Tryd.func9 (by kernel_rfl) rfl #[.slice A0 l0.length c0] rfl q2_ ?_; (with_reducible refine (corollaryref13_Small.calls k _ _ l0 false _ ?side1 ?side2 A4.out).mono ?_); (case side1 => repeat (first | exact (Kd.C_below HR0.out HB.out) | (with_reducible refine Kd.C_alloc ?_ _) | (with_reducible refine Kd.C_drewN ?_ _) | (with_reducible refine Kd.C_drew ?_))); (case side2 => exact HC0.out); rintro e w' ⟨rfl, ⟨nd, rfl⟩⟩; refine ⟨_, rfl, ?_⟩))
   go_meet
   case rel => exact ⟨_, (true), q9_, H', ⟨by first | omega | exact Nat.le_refl _⟩, ⟨q0_⟩⟩
 case rest =>
  clear HC3
  try clear c1
  try clear p2
  try clear c3
  try clear c5
  obtain ⟨kq, x17_2, rfl, HA, HJ2, HB⟩ := hcut
  cases kq with
  | zero => exact absurd HA.out (by simp [corollarylaw13_BagRights.j0])
  | succ kj2 =>
   have H := HA.out
   clear HA
   simp only [corollarylaw13_BagRights.j0] at H
   by_cases c6 : x17_2 = true
   ·subst c6
    replace H := ifT_ H
    replace H := Option.bind_eq_some_iff.mp H
    obtain ⟨t250, A70, H⟩ := H
    replace H : (some t250) = some r := H
    have A7 := Aside0.mk A70
    clear A70
    obtain rfl := Option.some.inj H
    go_wp2_with (first | ((with_reducible refine gate_callee (f := 10) rfl ?_); refine goesL_ (some 18) rfl rfl Tryd.func10 (by kernel_rfl) rfl #[] rfl q2_ ?_; (with_reducible refine (corollarylaw13_awake.calls kj2  t250 _ A7.out q1_).mono ?_); rintro e w8 ⟨rfl, hb⟩; refine ⟨_, rfl, ?_⟩; have n0_ := Aside0.mk (below_step q0_ hb); clear HB; have HB := n0_; clear n0_; (try clear hb); (try clear hb2); (try clear hk); (try clear hi)))
    go_ret
    exact ⟨q4_, q0_⟩
   ·replace c6 := Bool.eq_false_iff.mpr c6
    subst c6
    replace H := ifF_ H
    replace H := Option.bind_eq_some_iff.mp H
    obtain ⟨t251, A90, H⟩ := H
    replace H : (corollarylaw13_BagRights.l0 kj2 l0 l1 t251 t251 0 l0 (l0.length : Int) 0) = some r := H
    have A9 := Aside0.mk A90
    clear A90
    have H' := Aside0.mk H
    clear H
    go_wp2_with (first | ((with_reducible refine gate_callee (f := 11) rfl ?_); refine goesL_ (some 20) rfl rfl Tryd.func11 (by kernel_rfl) rfl #[.slice A0 l0.length c0] rfl q2_ ?_; (with_reducible refine (corollaryref13_Right.calls kj2 _ _ l0 t251 _ ?side1 ?side2 A9.out).mono ?_); (case side1 => repeat (first | exact (Kd.C_below HR0.out HB.out) | (with_reducible refine Kd.C_alloc ?_ _) | (with_reducible refine Kd.C_drewN ?_ _) | (with_reducible refine Kd.C_drew ?_))); (case side2 => exact HC0.out); rintro e w10 ⟨rfl, hb⟩; refine ⟨_, rfl, ?_⟩; have n0_ := Aside0.mk (below_step q0_ hb); clear HB; have HB := n0_; clear n0_; (try clear hb); (try clear hb2); (try clear hk); (try clear hi)))
    go_loopg [6, 7, 24] kj2 (fun kq v6 v7 v24 w' => ∃ (x6_2 : Bool) (x7_2 : Int) (x24_2 : Int), v6 = .bool x6_2 ∧ v7 = .int .i64 x7_2 ∧ v24 = .int .i64 x24_2 ∧ Aside0 (corollarylaw13_BagRights.l0 kq l0 l1 t251 x6_2 x7_2 l0 (l0.length : Int) x24_2 = some r) ∧ Aside0 (kq ≤ kj2) ∧ Aside0 (Below w.heap.size w w'))
    case atStart => exact ⟨(t251), (0), (0), q9_, q9_, q9_, H', ⟨Nat.le_refl _⟩, ⟨q0_⟩⟩
    case round =>
     clear H'
     try clear c1
     try clear p2
     try clear c3
     try clear c5
     try clear c6
     try clear c9
     try clear c10
     try clear p2
     obtain ⟨x6_2, x7_2, x24_2, rfl, rfl, rfl, HA, HK2, HB⟩ := hrel
     cases gk with
     | zero => exact absurd HA.out (by simp [corollarylaw13_BagRights.l0])
     | succ k2 =>
      have H := HA.out
      clear HA
      simp only [corollarylaw13_BagRights.l0] at H
      by_cases c11 : x24_2 < (l0.length : Int)
      ·rw [if_pos c11] at H
       have c11b0 : decide (x24_2 < (l0.length : Int)) = true := decide_eq_true c11
       clear c11
       by_cases c12 : 0 ≤ x24_2
       ·rw [if_pos c12] at H
        have c12b0 : decide (0 ≤ x24_2) = true := decide_eq_true c12
        clear c12
        by_cases c13 : x24_2 < (l0.length : Int)
        ·rw [if_pos c13] at H
         have c13b0 : decide (x24_2 < (l0.length : Int)) = true := decide_eq_true c13
         clear c13
         by_cases c14 : x6_2 = true
         ·subst c14
          replace H := ifT_ H
          have H' := Aside0.mk H
          clear H
          have p252 : 0 ≤ (x24_2 : Int) := of_decide_eq_true q5_
          have q252 : x24_2 < (l0.length : Int) := of_decide_eq_true q5_
          obtain ⟨ad252, A252_0, c252_0, e252, hx252_0, hx252_1, hl252_0, hi252_0⟩ := at_T27 HR0.out x24_2 p252 q252
          cases e252
          replace hx252_0 := (HB.out.cell (World.block_lt_of_cell? w _ hx252_0)).trans hx252_0
          replace hx252_1 := (HB.out.cell (World.block_lt_of_cell? w _ hx252_1)).trans hx252_1
          have HR252_0 := Aside0.mk hi252_0
          have HC252_0 := Aside0.mk hl252_0
          clear hi252_0 hl252_0
          replace p252 := eq_true p252
          replace q252 := eq_true q252
          go_wp2_with (first | ((with_reducible refine gate_dst (N := 9) rfl ?_); (try (refine gate_guard (by rfl) ?_; dsimp only)); refine box_event ?hg (N := 9) ?hd (cs := #[.slice none 0 0, .int .i64 0]) (t := 27) ?hr ?_; (case hd => rfl); (case hg => rfl); (case hr => first | (go_simp; done) | (go_simp; rfl)); intro gb253 hg w15 hbox hb; have n0_ := Aside0.mk (below_step q0_ hb); have n1_ := Aside0.mk (hbox); have n2_ := Aside0.mk ((q3_ : w.heap.size ≤ gb253)); have n3_ := Aside0.mk ((q3_ : w.heap.size ≤ gb253)); clear HB; have HB := n0_; have BK253 := n1_; have GW253 := n2_; have GE253 := n3_; clear n0_ n1_ n2_ n3_; clear hb hbox hg; have hcz16_0 : w15.cell? ⟨gb253, 0, none⟩ = some (.slice none 0 0) := (blk_cell BK253.out 0).trans rfl; have hcz16_1 : w15.cell? ⟨gb253, 1, none⟩ = some (.int .i64 0) := (blk_cell BK253.out 1).trans rfl; have hfz16_0 := blk_frozen BK253.out 0; have hfz16_1 := blk_frozen BK253.out 1))
          go_roundg k2
          case measure => have := HJ2.out; have := HK2.out; omega
          case rel => exact ⟨(decide (((rd_T27 l0 x24_2).f1) > 0)), (wrap64 (x7_2 + ((rd_T27 l0 x24_2).f1))), (wrap64 (x24_2 + 1)), q9_, q9_, q9_, H', ⟨by have := HJ2.out; have := HK2.out; omega⟩, ⟨q0_⟩⟩
         ·replace c14 := Bool.eq_false_iff.mpr c14
          subst c14
          replace H := ifF_ H
          have H' := Aside0.mk H
          clear H
          have p252 : 0 ≤ (x24_2 : Int) := of_decide_eq_true q5_
          have q252 : x24_2 < (l0.length : Int) := of_decide_eq_true q5_
          obtain ⟨ad252, A252_0, c252_0, e252, hx252_0, hx252_1, hl252_0, hi252_0⟩ := at_T27 HR0.out x24_2 p252 q252
          cases e252
          replace hx252_0 := (HB.out.cell (World.block_lt_of_cell? w _ hx252_0)).trans hx252_0
          replace hx252_1 := (HB.out.cell (World.block_lt_of_cell? w _ hx252_1)).trans hx252_1
          have HR252_0 := Aside0.mk hi252_0
          have HC252_0 := Aside0.mk hl252_0
          clear hi252_0 hl252_0
          replace p252 := eq_true p252
          replace q252 := eq_true q252
          go_wp2_with (first | ((with_reducible refine gate_dst (N := 9) rfl ?_); (try (refine gate_guard (by rfl) ?_; dsimp only)); refine box_event ?hg (N := 9) ?hd (cs := #[.slice none 0 0, .int .i64 0]) (t := 27) ?hr ?_; (case hd => rfl); (case hg => rfl); (case hr => first | (go_simp; done) | (go_simp; rfl)); intro gb253 hg w17 hbox hb; have n0_ := Aside0.mk (below_step q0_ hb); have n1_ := Aside0.mk (hbox); have n2_ := Aside0.mk ((q3_ : w.heap.size ≤ gb253)); have n3_ := Aside0.mk ((q3_ : w.heap.size ≤ gb253)); clear HB; have HB := n0_; have BK253 := n1_; have GW253 := n2_; have GE253 := n3_; clear n0_ n1_ n2_ n3_; clear hb hbox hg; have hcz18_0 : w17.cell? ⟨gb253, 0, none⟩ = some (.slice none 0 0) := (blk_cell BK253.out 0).trans rfl; have hcz18_1 : w17.cell? ⟨gb253, 1, none⟩ = some (.int .i64 0) := (blk_cell BK253.out 1).trans rfl; have hfz18_0 := blk_frozen BK253.out 0; have hfz18_1 := blk_frozen BK253.out 1))
          go_roundg k2
          case measure => have := HJ2.out; have := HK2.out; omega
          case rel => exact ⟨(false), (wrap64 (x7_2 + ((rd_T27 l0 x24_2).f1))), (wrap64 (x24_2 + 1)), q9_, q9_, q9_, H', ⟨by have := HJ2.out; have := HK2.out; omega⟩, ⟨q0_⟩⟩
        ·rw [if_neg c13] at H
         exact absurd H (by simp)
       ·rw [if_neg c12] at H
        exact absurd H (by simp)
      ·rw [if_neg c11] at H
       have c11b0 : decide (x24_2 < (l0.length : Int)) = false := decide_eq_false c11
       clear c11
       by_cases c19 : t251 = true
       ·subst c19
        replace H := ifT_ H
        replace H := Option.bind_eq_some_iff.mp H
        obtain ⟨t259, A200, H⟩ := H
        replace H : (if t259 = true then ((bag_Whole.f k2 l0).bind fun t260 => (if x6_2 = true then (if t260 = true then ((bag_N.f k2 l0 l1).bind fun t261 => ((corollaryref13_N.f k2 l0 l1).bind fun t262 => (if t261 = t262 then ((bag_Size.f k2 l0).bind fun t263 => (if t263 = x7_2 then ((corollarylaw13_awake.f k2).bind fun t264 => (some t264)) else (some false))) else (some false)))) else (some false)) else (if t260 = true then (some false) else ((bag_N.f k2 l0 l1).bind fun t265 => ((corollaryref13_N.f k2 l0 l1).bind fun t266 => (if t265 = t266 then ((bag_Size.f k2 l0).bind fun t267 => (if t267 = x7_2 then ((corollarylaw13_awake.f k2).bind fun t268 => (some t268)) else (some false))) else (some false))))))) else (some false)) = some r := H
        have A20 := Aside0.mk A200
        clear A200
        by_cases c21 : t259 = true
        ·subst c21
         replace H := ifT_ H
         replace H := Option.bind_eq_some_iff.mp H
         obtain ⟨t260, A220, H⟩ := H
         replace H : (if x6_2 = true then (if t260 = true then ((bag_N.f k2 l0 l1).bind fun t261 => ((corollaryref13_N.f k2 l0 l1).bind fun t262 => (if t261 = t262 then ((bag_Size.f k2 l0).bind fun t263 => (if t263 = x7_2 then ((corollarylaw13_awake.f k2).bind fun t264 => (some t264)) else (some false))) else (some false)))) else (some false)) else (if t260 = true then (some false) else ((bag_N.f k2 l0 l1).bind fun t265 => ((corollaryref13_N.f k2 l0 l1).bind fun t266 => (if t265 = t266 then ((bag_Size.f k2 l0).bind fun t267 => (if t267 = x7_2 then ((corollarylaw13_awake.f k2).bind fun t268 => (some t268)) else (some false))) else (some false)))))) = some r := H
         have A22 := Aside0.mk A220
         clear A220
         by_cases c23 : x6_2 = true
         ·subst c23
          replace H := ifT_ H
          by_cases c24 : t260 = true
          ·subst c24
           replace H := ifT_ H
           replace H := Option.bind_eq_some_iff.mp H
           obtain ⟨t261, A250, H⟩ := H
           replace H : ((corollaryref13_N.f k2 l0 l1).bind fun t262 => (if t261 = t262 then ((bag_Size.f k2 l0).bind fun t263 => (if t263 = x7_2 then ((corollarylaw13_awake.f k2).bind fun t264 => (some t264)) else (some false))) else (some false))) = some r := H
           have A25 := Aside0.mk A250
           clear A250
           replace H := Option.bind_eq_some_iff.mp H
           obtain ⟨t262, A260, H⟩ := H
           replace H : (if t261 = t262 then ((bag_Size.f k2 l0).bind fun t263 => (if t263 = x7_2 then ((corollarylaw13_awake.f k2).bind fun t264 => (some t264)) else (some false))) else (some false)) = some r := H
           have A26 := Aside0.mk A260
           clear A260
           by_cases c27 : t261 = t262
           ·rw [if_pos c27] at H
            have c27b0 : (t261 == t262) = true := beq_iff_eq.mpr c27
            have c27b1 : (t261 != t262) = false := bne_eq_false_iff_eq.mpr c27
            clear c27
            replace H := Option.bind_eq_some_iff.mp H
            obtain ⟨t263, A280, H⟩ := H
            replace H : (if t263 = x7_2 then ((corollarylaw13_awake.f k2).bind fun t264 => (some t264)) else (some false)) = some r := H
            have A28 := Aside0.mk A280
            clear A280
            by_cases c29 : t263 = x7_2
            ·rw [if_pos c29] at H
             have c29b0 : (t263 == x7_2) = true := beq_iff_eq.mpr c29
             have c29b1 : (t263 != x7_2) = false := bne_eq_false_iff_eq.mpr c29
             clear c29
             replace H := Option.bind_eq_some_iff.mp H
             obtain ⟨t264, A300, H⟩ := H
             replace H : (some t264) = some r := H
             have A30 := Aside0.mk A300
             clear A300
             obtain rfl := Option.some.inj H
             go_wp2_with (first | ((with_reducible refine gate_callee (f := 12) rfl ?_); refine goesL_ (some 64) rfl rfl Tryd.func12 (by kernel_rfl) rfl #[.slice A0 l0.length c0] rfl q2_ ?_; (with_reducible refine (bag_Right.calls k2 _ _ l0 true _ ?side1 ?side2 A20.out q1_).mono ?_); (case side1 => repeat (first | exact (Kd.C_below HR0.out HB.out) | (with_reducible refine Kd.C_alloc ?_ _) | (with_reducible refine Kd.C_drewN ?_ _) | (with_reducible refine Kd.C_drew ?_))); (case side2 => exact HC0.out); rintro e w31 ⟨rfl, hb⟩; refine ⟨_, rfl, ?_⟩; have n0_ := Aside0.mk (below_step q0_ hb); clear HB; have HB := n0_; clear n0_; (try clear hb); (try clear hb2); (try clear hk); (try clear hi)) | (go_at_call 13; (with_reducible refine (bag_Whole.calls k2 _ _ l0 true _ ?side1 ?side2 A22.out q1_).mono ?_); (case side1 => repeat (first | exact (Kd.C_below HR0.out HB.out) | (with_reducible refine Kd.C_alloc ?_ _) | (with_reducible refine Kd.C_drewN ?_ _) | (with_reducible refine Kd.C_drew ?_))); (case side2 => exact HC0.out); rintro e w32 ⟨rfl, hb⟩; have n0_ := Aside0.mk (below_step q0_ hb); clear HB; have HB := n0_; clear n0_; (try clear hb); (try clear hb2); (try clear hk); (try clear hi)) | (go_at_call 14; (with_reducible refine (bag_N.calls k2 _ _ l0 _ _ l1 t261 _ ?side1 ?side2 ?side3 ?side4 A25.out q1_).mono ?_); (case side1 => repeat (first | exact (Kd.C_below HR0.out HB.out) | (with_reducible refine Kd.C_alloc ?_ _) | (with_reducible refine Kd.C_drewN ?_ _) | (with_reducible refine Kd.C_drew ?_))); (case side2 => exact HC0.out); (case side3 => repeat (first | exact (Kd.C_below HR1.out HB.out) | (with_reducible refine Kd.C_alloc ?_ _) | (with_reducible refine Kd.C_drewN ?_ _) | (with_reducible refine Kd.C_drew ?_))); (case side4 => exact HC1.out); rintro e w33 ⟨rfl, hb⟩; have n0_ := Aside0.mk (below_step q0_ hb); clear HB; have HB := n0_; clear n0_; (try clear hb); (try clear hb2); (try clear hk); (try clear hi)) | (go_at_call 16; (with_reducible refine (corollaryref13_N.calls k2 _ _ l0 _ _ l1 t262 _ ?side1 ?side2 ?side3 ?side4 A26.out).mono ?_); (case side1 => repeat (first | exact (Kd.C_below HR0.out HB.out) | (with_reducible refine Kd.C_alloc ?_ _) | (with_reducible refine Kd.C_drewN ?_ _) | (with_reducible refine Kd.C_drew ?_))); (case side2 => exact HC0.out); (case side3 => repeat (first | exact (Kd.C_below HR1.out HB.out) | (with_reducible refine Kd.C_alloc ?_ _) | (with_reducible refine Kd.C_drewN ?_ _) | (with_reducible refine Kd.C_drew ?_))); (case side4 => exact HC1.out); rintro e w' ⟨rfl, ⟨nd, rfl⟩⟩) | (go_at_call 15; (with_reducible refine (bag_Size.calls k2 _ _ l0 t263 _ ?side1 ?side2 A28.out q1_).mono ?_); (case side1 => repeat (first | exact (Kd.C_below HR0.out q0_) | (with_reducible refine Kd.C_alloc ?_ _) | (with_reducible refine Kd.C_drewN ?_ _) | (with_reducible refine Kd.C_drew ?_))); (case side2 => exact HC0.out); rintro e w34 ⟨rfl, hb⟩; have n0_ := Aside0.mk (below_step q0_ hb); clear HB; have HB := n0_; clear n0_; (try clear hb); (try clear hb2); (try clear hk); (try clear hi)) | (go_at_call 10; (with_reducible refine (corollarylaw13_awake.calls k2  t264 _ A30.out q1_).mono ?_); rintro e w35 ⟨rfl, hb⟩; have n0_ := Aside0.mk (below_step q0_ hb); clear HB; have HB := n0_; clear n0_; (try clear hb); (try clear hb2); (try clear hk); (try clear hi)))
             go_ret
             exact ⟨q4_, q0_⟩
            ·rw [if_neg c29] at H
             have c29b0 : (t263 == x7_2) = false := beq_eq_false_iff_ne.mpr c29
             have c29b1 : (t263 != x7_2) = true := bne_iff_ne.mpr c29
             obtain rfl := Option.some.inj H
             go_wp2_with (first | ((with_reducible refine gate_callee (f := 12) rfl ?_); refine goesL_ (some 64) rfl rfl Tryd.func12 (by kernel_rfl) rfl #[.slice A0 l0.length c0] rfl q2_ ?_; (with_reducible refine (bag_Right.calls k2 _ _ l0 true _ ?side1 ?side2 A20.out q1_).mono ?_); (case side1 => repeat (first | exact (Kd.C_below HR0.out HB.out) | (with_reducible refine Kd.C_alloc ?_ _) | (with_reducible refine Kd.C_drewN ?_ _) | (with_reducible refine Kd.C_drew ?_))); (case side2 => exact HC0.out); rintro e w36 ⟨rfl, hb⟩; refine ⟨_, rfl, ?_⟩; have n0_ := Aside0.mk (below_step q0_ hb); clear HB; have HB := n0_; clear n0_; (try clear hb); (try clear hb2); (try clear hk); (try clear hi)) | (go_at_call 13; (with_reducible refine (bag_Whole.calls k2 _ _ l0 true _ ?side1 ?side2 A22.out q1_).mono ?_); (case side1 => repeat (first | exact (Kd.C_below HR0.out HB.out) | (with_reducible refine Kd.C_alloc ?_ _) | (with_reducible refine Kd.C_drewN ?_ _) | (with_reducible refine Kd.C_drew ?_))); (case side2 => exact HC0.out); rintro e w37 ⟨rfl, hb⟩; have n0_ := Aside0.mk (below_step q0_ hb); clear HB; have HB := n0_; clear n0_; (try clear hb); (try clear hb2); (try clear hk); (try clear hi)) | (go_at_call 14; (with_reducible refine (bag_N.calls k2 _ _ l0 _ _ l1 t261 _ ?side1 ?side2 ?side3 ?side4 A25.out q1_).mono ?_); (case side1 => repeat (first | exact (Kd.C_below HR0.out HB.out) | (with_reducible refine Kd.C_alloc ?_ _) | (with_reducible refine Kd.C_drewN ?_ _) | (with_reducible refine Kd.C_drew ?_))); (case side2 => exact HC0.out); (case side3 => repeat (first | exact (Kd.C_below HR1.out HB.out) | (with_reducible refine Kd.C_alloc ?_ _) | (with_reducible refine Kd.C_drewN ?_ _) | (with_reducible refine Kd.C_drew ?_))); (case side4 => exact HC1.out); rintro e w38 ⟨rfl, hb⟩; have n0_ := Aside0.mk (below_step q0_ hb); clear HB; have HB := n0_; clear n0_; (try clear hb); (try clear hb2); (try clear hk); (try clear hi)) | (go_at_call 16; (with_reducible refine (corollaryref13_N.calls k2 _ _ l0 _ _ l1 t262 _ ?side1 ?side2 ?side3 ?side4 A26.out).mono ?_); (case side1 => repeat (first | exact (Kd.C_below HR0.out HB.out) | (with_reducible refine Kd.C_alloc ?_ _) | (with_reducible refine Kd.C_drewN ?_ _) | (with_reducible refine Kd.C_drew ?_))); (case side2 => exact HC0.out); (case side3 => repeat (first | exact (Kd.C_below HR1.out HB.out) | (with_reducible refine Kd.C_alloc ?_ _) | (with_reducible refine Kd.C_drewN ?_ _) | (with_reducible refine Kd.C_drew ?_))); (case side4 => exact HC1.out); rintro e w' ⟨rfl, ⟨nd, rfl⟩⟩) | (go_at_call 15; (with_reducible refine (bag_Size.calls k2 _ _ l0 t263 _ ?side1 ?side2 A28.out q1_).mono ?_); (case side1 => repeat (first | exact (Kd.C_below HR0.out q0_) | (with_reducible refine Kd.C_alloc ?_ _) | (with_reducible refine Kd.C_drewN ?_ _) | (with_reducible refine Kd.C_drew ?_))); (case side2 => exact HC0.out); rintro e w39 ⟨rfl, hb⟩; have n0_ := Aside0.mk (below_step q0_ hb); clear HB; have HB := n0_; clear n0_; (try clear hb); (try clear hb2); (try clear hk); (try clear hi)))
             go_ret
             exact ⟨q4_, q0_⟩
           ·rw [if_neg c27] at H
            have c27b0 : (t261 == t262) = false := beq_eq_false_iff_ne.mpr c27
            have c27b1 : (t261 != t262) = true := bne_iff_ne.mpr c27
            obtain rfl := Option.some.inj H
            go_wp2_with (first | ((with_reducible refine gate_callee (f := 12) rfl ?_); refine goesL_ (some 64) rfl rfl Tryd.func12 (by kernel_rfl) rfl #[.slice A0 l0.length c0] rfl q2_ ?_; (with_reducible refine (bag_Right.calls k2 _ _ l0 true _ ?side1 ?side2 A20.out q1_).mono ?_); (case side1 => repeat (first | exact (Kd.C_below HR0.out HB.out) | (with_reducible refine Kd.C_alloc ?_ _) | (with_reducible refine Kd.C_drewN ?_ _) | (with_reducible refine Kd.C_drew ?_))); (case side2 => exact HC0.out); rintro e w40 ⟨rfl, hb⟩; refine ⟨_, rfl, ?_⟩; have n0_ := Aside0.mk (below_step q0_ hb); clear HB; have HB := n0_; clear n0_; (try clear hb); (try clear hb2); (try clear hk); (try clear hi)) | (go_at_call 13; (with_reducible refine (bag_Whole.calls k2 _ _ l0 true _ ?side1 ?side2 A22.out q1_).mono ?_); (case side1 => repeat (first | exact (Kd.C_below HR0.out HB.out) | (with_reducible refine Kd.C_alloc ?_ _) | (with_reducible refine Kd.C_drewN ?_ _) | (with_reducible refine Kd.C_drew ?_))); (case side2 => exact HC0.out); rintro e w41 ⟨rfl, hb⟩; have n0_ := Aside0.mk (below_step q0_ hb); clear HB; have HB := n0_; clear n0_; (try clear hb); (try clear hb2); (try clear hk); (try clear hi)) | (go_at_call 14; (with_reducible refine (bag_N.calls k2 _ _ l0 _ _ l1 t261 _ ?side1 ?side2 ?side3 ?side4 A25.out q1_).mono ?_); (case side1 => repeat (first | exact (Kd.C_below HR0.out HB.out) | (with_reducible refine Kd.C_alloc ?_ _) | (with_reducible refine Kd.C_drewN ?_ _) | (with_reducible refine Kd.C_drew ?_))); (case side2 => exact HC0.out); (case side3 => repeat (first | exact (Kd.C_below HR1.out HB.out) | (with_reducible refine Kd.C_alloc ?_ _) | (with_reducible refine Kd.C_drewN ?_ _) | (with_reducible refine Kd.C_drew ?_))); (case side4 => exact HC1.out); rintro e w42 ⟨rfl, hb⟩; have n0_ := Aside0.mk (below_step q0_ hb); clear HB; have HB := n0_; clear n0_; (try clear hb); (try clear hb2); (try clear hk); (try clear hi)) | (go_at_call 16; (with_reducible refine (corollaryref13_N.calls k2 _ _ l0 _ _ l1 t262 _ ?side1 ?side2 ?side3 ?side4 A26.out).mono ?_); (case side1 => repeat (first | exact (Kd.C_below HR0.out HB.out) | (with_reducible refine Kd.C_alloc ?_ _) | (with_reducible refine Kd.C_drewN ?_ _) | (with_reducible refine Kd.C_drew ?_))); (case side2 => exact HC0.out); (case side3 => repeat (first | exact (Kd.C_below HR1.out HB.out) | (with_reducible refine Kd.C_alloc ?_ _) | (with_reducible refine Kd.C_drewN ?_ _) | (with_reducible refine Kd.C_drew ?_))); (case side4 => exact HC1.out); rintro e w' ⟨rfl, ⟨nd, rfl⟩⟩))
            go_ret
            exact ⟨q4_, q0_⟩
          ·replace c24 := Bool.eq_false_iff.mpr c24
           subst c24
           replace H := ifF_ H
           obtain rfl := Option.some.inj H
           go_wp2_with (first | ((with_reducible refine gate_callee (f := 12) rfl ?_); refine goesL_ (some 64) rfl rfl Tryd.func12 (by kernel_rfl) rfl #[.slice A0 l0.length c0] rfl q2_ ?_; (with_reducible refine (bag_Right.calls k2 _ _ l0 true _ ?side1 ?side2 A20.out q1_).mono ?_); (case side1 => repeat (first | exact (Kd.C_below HR0.out HB.out) | (with_reducible refine Kd.C_alloc ?_ _) | (with_reducible refine Kd.C_drewN ?_ _) | (with_reducible refine Kd.C_drew ?_))); (case side2 => exact HC0.out); rintro e w43 ⟨rfl, hb⟩; refine ⟨_, rfl, ?_⟩; have n0_ := Aside0.mk (below_step q0_ hb); clear HB; have HB := n0_; clear n0_; (try clear hb); (try clear hb2); (try clear hk); (try clear hi)) | (go_at_call 13; (with_reducible refine (bag_Whole.calls k2 _ _ l0 false _ ?side1 ?side2 A22.out q1_).mono ?_); (case side1 => repeat (first | exact (Kd.C_below HR0.out HB.out) | (with_reducible refine Kd.C_alloc ?_ _) | (with_reducible refine Kd.C_drewN ?_ _) | (with_reducible refine Kd.C_drew ?_))); (case side2 => exact HC0.out); rintro e w44 ⟨rfl, hb⟩; have n0_ := Aside0.mk (below_step q0_ hb); clear HB; have HB := n0_; clear n0_; (try clear hb); (try clear hb2); (try clear hk); (try clear hi)))
           go_ret
           exact ⟨q4_, q0_⟩
         ·replace c23 := Bool.eq_false_iff.mpr c23
          subst c23
          replace H := ifF_ H
          by_cases c45 : t260 = true
          ·subst c45
           replace H := ifT_ H
           obtain rfl := Option.some.inj H
           go_wp2_with (first | ((with_reducible refine gate_callee (f := 12) rfl ?_); refine goesL_ (some 64) rfl rfl Tryd.func12 (by kernel_rfl) rfl #[.slice A0 l0.length c0] rfl q2_ ?_; (with_reducible refine (bag_Right.calls k2 _ _ l0 true _ ?side1 ?side2 A20.out q1_).mono ?_); (case side1 => repeat (first | exact (Kd.C_below HR0.out HB.out) | (with_reducible refine Kd.C_alloc ?_ _) | (with_reducible refine Kd.C_drewN ?_ _) | (with_reducible refine Kd.C_drew ?_))); (case side2 => exact HC0.out); rintro e w46 ⟨rfl, hb⟩; refine ⟨_, rfl, ?_⟩; have n0_ := Aside0.mk (below_step q0_ hb); clear HB; have HB := n0_; clear n0_; (try clear hb); (try clear hb2); (try clear hk); (try clear hi)) | (go_at_call 13; (with_reducible refine (bag_Whole.calls k2 _ _ l0 true _ ?side1 ?side2 A22.out q1_).mono ?_); (case side1 => repeat (first | exact (Kd.C_below HR0.out HB.out) | (with_reducible refine Kd.C_alloc ?_ _) | (with_reducible refine Kd.C_drewN ?_ _) | (with_reducible refine Kd.C_drew ?_))); (case side2 => exact HC0.out); rintro e w47 ⟨rfl, hb⟩; have n0_ := Aside0.mk (below_step q0_ hb); clear HB; have HB := n0_; clear n0_; (try clear hb); (try clear hb2); (try clear hk); (try clear hi)))
           go_ret
           exact ⟨q4_, q0_⟩
          ·replace c45 := Bool.eq_false_iff.mpr c45
           subst c45
           replace H := ifF_ H
           replace H := Option.bind_eq_some_iff.mp H
           obtain ⟨t265, A480, H⟩ := H
           replace H : ((corollaryref13_N.f k2 l0 l1).bind fun t266 => (if t265 = t266 then ((bag_Size.f k2 l0).bind fun t267 => (if t267 = x7_2 then ((corollarylaw13_awake.f k2).bind fun t268 => (some t268)) else (some false))) else (some false))) = some r := H
           have A48 := Aside0.mk A480
           clear A480
           replace H := Option.bind_eq_some_iff.mp H
           obtain ⟨t266, A490, H⟩ := H
           replace H : (if t265 = t266 then ((bag_Size.f k2 l0).bind fun t267 => (if t267 = x7_2 then ((corollarylaw13_awake.f k2).bind fun t268 => (some t268)) else (some false))) else (some false)) = some r := H
           have A49 := Aside0.mk A490
           clear A490
           by_cases c50 : t265 = t266
           ·rw [if_pos c50] at H
            have c50b0 : (t265 == t266) = true := beq_iff_eq.mpr c50
            have c50b1 : (t265 != t266) = false := bne_eq_false_iff_eq.mpr c50
            clear c50
            replace H := Option.bind_eq_some_iff.mp H
            obtain ⟨t267, A510, H⟩ := H
            replace H : (if t267 = x7_2 then ((corollarylaw13_awake.f k2).bind fun t268 => (some t268)) else (some false)) = some r := H
            have A51 := Aside0.mk A510
            clear A510
            by_cases c52 : t267 = x7_2
            ·rw [if_pos c52] at H
             have c52b0 : (t267 == x7_2) = true := beq_iff_eq.mpr c52
             have c52b1 : (t267 != x7_2) = false := bne_eq_false_iff_eq.mpr c52
             clear c52
             replace H := Option.bind_eq_some_iff.mp H
             obtain ⟨t268, A530, H⟩ := H
             replace H : (some t268) = some r := H
             have A53 := Aside0.mk A530
             clear A530
             obtain rfl := Option.some.inj H
             go_wp2_with (first | ((with_reducible refine gate_callee (f := 12) rfl ?_); refine goesL_ (some 64) rfl rfl Tryd.func12 (by kernel_rfl) rfl #[.slice A0 l0.length c0] rfl q2_ ?_; (with_reducible refine (bag_Right.calls k2 _ _ l0 true _ ?side1 ?side2 A20.out q1_).mono ?_); (case side1 => repeat (first | exact (Kd.C_below HR0.out HB.out) | (with_reducible refine Kd.C_alloc ?_ _) | (with_reducible refine Kd.C_drewN ?_ _) | (with_reducible refine Kd.C_drew ?_))); (case side2 => exact HC0.out); rintro e w54 ⟨rfl, hb⟩; refine ⟨_, rfl, ?_⟩; have n0_ := Aside0.mk (below_step q0_ hb); clear HB; have HB := n0_; clear n0_; (try clear hb); (try clear hb2); (try clear hk); (try clear hi)) | (go_at_call 13; (with_reducible refine (bag_Whole.calls k2 _ _ l0 false _ ?side1 ?side2 A22.out q1_).mono ?_); (case side1 => repeat (first | exact (Kd.C_below HR0.out HB.out) | (with_reducible refine Kd.C_alloc ?_ _) | (with_reducible refine Kd.C_drewN ?_ _) | (with_reducible refine Kd.C_drew ?_))); (case side2 => exact HC0.out); rintro e w55 ⟨rfl, hb⟩; have n0_ := Aside0.mk (below_step q0_ hb); clear HB; have HB := n0_; clear n0_; (try clear hb); (try clear hb2); (try clear hk); (try clear hi)) | (go_at_call 14; (with_reducible refine (bag_N.calls k2 _ _ l0 _ _ l1 t265 _ ?side1 ?side2 ?side3 ?side4 A48.out q1_).mono ?_); (case side1 => repeat (first | exact (Kd.C_below HR0.out HB.out) | (with_reducible refine Kd.C_alloc ?_ _) | (with_reducible refine Kd.C_drewN ?_ _) | (with_reducible refine Kd.C_drew ?_))); (case side2 => exact HC0.out); (case side3 => repeat (first | exact (Kd.C_below HR1.out HB.out) | (with_reducible refine Kd.C_alloc ?_ _) | (with_reducible refine Kd.C_drewN ?_ _) | (with_reducible refine Kd.C_drew ?_))); (case side4 => exact HC1.out); rintro e w56 ⟨rfl, hb⟩; have n0_ := Aside0.mk (below_step q0_ hb); clear HB; have HB := n0_; clear n0_; (try clear hb); (try clear hb2); (try clear hk); (try clear hi)) | (go_at_call 16; (with_reducible refine (corollaryref13_N.calls k2 _ _ l0 _ _ l1 t266 _ ?side1 ?side2 ?side3 ?side4 A49.out).mono ?_); (case side1 => repeat (first | exact (Kd.C_below HR0.out HB.out) | (with_reducible refine Kd.C_alloc ?_ _) | (with_reducible refine Kd.C_drewN ?_ _) | (with_reducible refine Kd.C_drew ?_))); (case side2 => exact HC0.out); (case side3 => repeat (first | exact (Kd.C_below HR1.out HB.out) | (with_reducible refine Kd.C_alloc ?_ _) | (with_reducible refine Kd.C_drewN ?_ _) | (with_reducible refine Kd.C_drew ?_))); (case side4 => exact HC1.out); rintro e w' ⟨rfl, ⟨nd, rfl⟩⟩) | (go_at_call 15; (with_reducible refine (bag_Size.calls k2 _ _ l0 t267 _ ?side1 ?side2 A51.out q1_).mono ?_); (case side1 => repeat (first | exact (Kd.C_below HR0.out q0_) | (with_reducible refine Kd.C_alloc ?_ _) | (with_reducible refine Kd.C_drewN ?_ _) | (with_reducible refine Kd.C_drew ?_))); (case side2 => exact HC0.out); rintro e w57 ⟨rfl, hb⟩; have n0_ := Aside0.mk (below_step q0_ hb); clear HB; have HB := n0_; clear n0_; (try clear hb); (try clear hb2); (try clear hk); (try clear hi)) | (go_at_call 10; (with_reducible refine (corollarylaw13_awake.calls k2  t268 _ A53.out q1_).mono ?_); rintro e w58 ⟨rfl, hb⟩; have n0_ := Aside0.mk (below_step q0_ hb); clear HB; have HB := n0_; clear n0_; (try clear hb); (try clear hb2); (try clear hk); (try clear hi)))
             go_ret
             exact ⟨q4_, q0_⟩
            ·rw [if_neg c52] at H
             have c52b0 : (t267 == x7_2) = false := beq_eq_false_iff_ne.mpr c52
             have c52b1 : (t267 != x7_2) = true := bne_iff_ne.mpr c52
             obtain rfl := Option.some.inj H
             go_wp2_with (first | ((with_reducible refine gate_callee (f := 12) rfl ?_); refine goesL_ (some 64) rfl rfl Tryd.func12 (by kernel_rfl) rfl #[.slice A0 l0.length c0] rfl q2_ ?_; (with_reducible refine (bag_Right.calls k2 _ _ l0 true _ ?side1 ?side2 A20.out q1_).mono ?_); (case side1 => repeat (first | exact (Kd.C_below HR0.out HB.out) | (with_reducible refine Kd.C_alloc ?_ _) | (with_reducible refine Kd.C_drewN ?_ _) | (with_reducible refine Kd.C_drew ?_))); (case side2 => exact HC0.out); rintro e w59 ⟨rfl, hb⟩; refine ⟨_, rfl, ?_⟩; have n0_ := Aside0.mk (below_step q0_ hb); clear HB; have HB := n0_; clear n0_; (try clear hb); (try clear hb2); (try clear hk); (try clear hi)) | (go_at_call 13; (with_reducible refine (bag_Whole.calls k2 _ _ l0 false _ ?side1 ?side2 A22.out q1_).mono ?_); (case side1 => repeat (first | exact (Kd.C_below HR0.out HB.out) | (with_reducible refine Kd.C_alloc ?_ _) | (with_reducible refine Kd.C_drewN ?_ _) | (with_reducible refine Kd.C_drew ?_))); (case side2 => exact HC0.out); rintro e w60 ⟨rfl, hb⟩; have n0_ := Aside0.mk (below_step q0_ hb); clear HB; have HB := n0_; clear n0_; (try clear hb); (try clear hb2); (try clear hk); (try clear hi)) | (go_at_call 14; (with_reducible refine (bag_N.calls k2 _ _ l0 _ _ l1 t265 _ ?side1 ?side2 ?side3 ?side4 A48.out q1_).mono ?_); (case side1 => repeat (first | exact (Kd.C_below HR0.out HB.out) | (with_reducible refine Kd.C_alloc ?_ _) | (with_reducible refine Kd.C_drewN ?_ _) | (with_reducible refine Kd.C_drew ?_))); (case side2 => exact HC0.out); (case side3 => repeat (first | exact (Kd.C_below HR1.out HB.out) | (with_reducible refine Kd.C_alloc ?_ _) | (with_reducible refine Kd.C_drewN ?_ _) | (with_reducible refine Kd.C_drew ?_))); (case side4 => exact HC1.out); rintro e w61 ⟨rfl, hb⟩; have n0_ := Aside0.mk (below_step q0_ hb); clear HB; have HB := n0_; clear n0_; (try clear hb); (try clear hb2); (try clear hk); (try clear hi)) | (go_at_call 16; (with_reducible refine (corollaryref13_N.calls k2 _ _ l0 _ _ l1 t266 _ ?side1 ?side2 ?side3 ?side4 A49.out).mono ?_); (case side1 => repeat (first | exact (Kd.C_below HR0.out HB.out) | (with_reducible refine Kd.C_alloc ?_ _) | (with_reducible refine Kd.C_drewN ?_ _) | (with_reducible refine Kd.C_drew ?_))); (case side2 => exact HC0.out); (case side3 => repeat (first | exact (Kd.C_below HR1.out HB.out) | (with_reducible refine Kd.C_alloc ?_ _) | (with_reducible refine Kd.C_drewN ?_ _) | (with_reducible refine Kd.C_drew ?_))); (case side4 => exact HC1.out); rintro e w' ⟨rfl, ⟨nd, rfl⟩⟩) | (go_at_call 15; (with_reducible refine (bag_Size.calls k2 _ _ l0 t267 _ ?side1 ?side2 A51.out q1_).mono ?_); (case side1 => repeat (first | exact (Kd.C_below HR0.out q0_) | (with_reducible refine Kd.C_alloc ?_ _) | (with_reducible refine Kd.C_drewN ?_ _) | (with_reducible refine Kd.C_drew ?_))); (case side2 => exact HC0.out); rintro e w62 ⟨rfl, hb⟩; have n0_ := Aside0.mk (below_step q0_ hb); clear HB; have HB := n0_; clear n0_; (try clear hb); (try clear hb2); (try clear hk); (try clear hi)))
             go_ret
             exact ⟨q4_, q0_⟩
           ·rw [if_neg c50] at H
            have c50b0 : (t265 == t266) = false := beq_eq_false_iff_ne.mpr c50
            have c50b1 : (t265 != t266) = true := bne_iff_ne.mpr c50
            obtain rfl := Option.some.inj H
            go_wp2_with (first | ((with_reducible refine gate_callee (f := 12) rfl ?_); refine goesL_ (some 64) rfl rfl Tryd.func12 (by kernel_rfl) rfl #[.slice A0 l0.length c0] rfl q2_ ?_; (with_reducible refine (bag_Right.calls k2 _ _ l0 true _ ?side1 ?side2 A20.out q1_).mono ?_); (case side1 => repeat (first | exact (Kd.C_below HR0.out HB.out) | (with_reducible refine Kd.C_alloc ?_ _) | (with_reducible refine Kd.C_drewN ?_ _) | (with_reducible refine Kd.C_drew ?_))); (case side2 => exact HC0.out); rintro e w63 ⟨rfl, hb⟩; refine ⟨_, rfl, ?_⟩; have n0_ := Aside0.mk (below_step q0_ hb); clear HB; have HB := n0_; clear n0_; (try clear hb); (try clear hb2); (try clear hk); (try clear hi)) | (go_at_call 13; (with_reducible refine (bag_Whole.calls k2 _ _ l0 false _ ?side1 ?side2 A22.out q1_).mono ?_); (case side1 => repeat (first | exact (Kd.C_below HR0.out HB.out) | (with_reducible refine Kd.C_alloc ?_ _) | (with_reducible refine Kd.C_drewN ?_ _) | (with_reducible refine Kd.C_drew ?_))); (case side2 => exact HC0.out); rintro e w64 ⟨rfl, hb⟩; have n0_ := Aside0.mk (below_step q0_ hb); clear HB; have HB := n0_; clear n0_; (try clear hb); (try clear hb2); (try clear hk); (try clear hi)) | (go_at_call 14; (with_reducible refine (bag_N.calls k2 _ _ l0 _ _ l1 t265 _ ?side1 ?side2 ?side3 ?side4 A48.out q1_).mono ?_); (case side1 => repeat (first | exact (Kd.C_below HR0.out HB.out) | (with_reducible refine Kd.C_alloc ?_ _) | (with_reducible refine Kd.C_drewN ?_ _) | (with_reducible refine Kd.C_drew ?_))); (case side2 => exact HC0.out); (case side3 => repeat (first | exact (Kd.C_below HR1.out HB.out) | (with_reducible refine Kd.C_alloc ?_ _) | (with_reducible refine Kd.C_drewN ?_ _) | (with_reducible refine Kd.C_drew ?_))); (case side4 => exact HC1.out); rintro e w65 ⟨rfl, hb⟩; have n0_ := Aside0.mk (below_step q0_ hb); clear HB; have HB := n0_; clear n0_; (try clear hb); (try clear hb2); (try clear hk); (try clear hi)) | (go_at_call 16; (with_reducible refine (corollaryref13_N.calls k2 _ _ l0 _ _ l1 t266 _ ?side1 ?side2 ?side3 ?side4 A49.out).mono ?_); (case side1 => repeat (first | exact (Kd.C_below HR0.out HB.out) | (with_reducible refine Kd.C_alloc ?_ _) | (with_reducible refine Kd.C_drewN ?_ _) | (with_reducible refine Kd.C_drew ?_))); (case side2 => exact HC0.out); (case side3 => repeat (first | exact (Kd.C_below HR1.out HB.out) | (with_reducible refine Kd.C_alloc ?_ _) | (with_reducible refine Kd.C_drewN ?_ _) | (with_reducible refine Kd.C_drew ?_))); (case side4 => exact HC1.out); rintro e w' ⟨rfl, ⟨nd, rfl⟩⟩))
            go_ret
            exact ⟨q4_, q0_⟩
        ·replace c21 := Bool.eq_false_iff.mpr c21
         subst c21
         replace H := ifF_ H
         obtain rfl := Option.some.inj H
         go_wp2_with (first | ((with_reducible refine gate_callee (f := 12) rfl ?_); refine goesL_ (some 64) rfl rfl Tryd.func12 (by kernel_rfl) rfl #[.slice A0 l0.length c0] rfl q2_ ?_; (with_reducible refine (bag_Right.calls k2 _ _ l0 false _ ?side1 ?side2 A20.out q1_).mono ?_); (case side1 => repeat (first | exact (Kd.C_below HR0.out HB.out) | (with_reducible refine Kd.C_alloc ?_ _) | (with_reducible refine Kd.C_drewN ?_ _) | (with_reducible refine Kd.C_drew ?_))); (case side2 => exact HC0.out); rintro e w66 ⟨rfl, hb⟩; refine ⟨_, rfl, ?_⟩; have n0_ := Aside0.mk (below_step q0_ hb); clear HB; have HB := n0_; clear n0_; (try clear hb); (try clear hb2); (try clear hk); (try clear hi)))
         go_ret
         exact ⟨q4_, q0_⟩
       ·replace c19 := Bool.eq_false_iff.mpr c19
        subst c19
        replace H := ifF_ H
        replace H := Option.bind_eq_some_iff.mp H
        obtain ⟨t254, A670, H⟩ := H
        replace H : (if t254 = true then (some false) else ((bag_Whole.f k2 l0).bind fun t255 => (if t255 = true then (some false) else ((bag_N.f k2 l0 l1).bind fun t256 => (if t256 = 0 then ((bag_Size.f k2 l0).bind fun t257 => (if t257 = 0 then ((corollarylaw13_awake.f k2).bind fun t258 => (some t258)) else (some false))) else (some false)))))) = some r := H
        have A67 := Aside0.mk A670
        clear A670
        by_cases c68 : t254 = true
        ·subst c68
         replace H := ifT_ H
         obtain rfl := Option.some.inj H
         go_wp2_with (first | ((with_reducible refine gate_callee (f := 12) rfl ?_); refine goesL_ (some 42) rfl rfl Tryd.func12 (by kernel_rfl) rfl #[.slice A0 l0.length c0] rfl q2_ ?_; (with_reducible refine (bag_Right.calls k2 _ _ l0 true _ ?side1 ?side2 A67.out q1_).mono ?_); (case side1 => repeat (first | exact (Kd.C_below HR0.out HB.out) | (with_reducible refine Kd.C_alloc ?_ _) | (with_reducible refine Kd.C_drewN ?_ _) | (with_reducible refine Kd.C_drew ?_))); (case side2 => exact HC0.out); rintro e w69 ⟨rfl, hb⟩; refine ⟨_, rfl, ?_⟩; have n0_ := Aside0.mk (below_step q0_ hb); clear HB; have HB := n0_; clear n0_; (try clear hb); (try clear hb2); (try clear hk); (try clear hi)))
         go_ret
         exact ⟨q4_, q0_⟩
        ·replace c68 := Bool.eq_false_iff.mpr c68
         subst c68
         replace H := ifF_ H
         replace H := Option.bind_eq_some_iff.mp H
         obtain ⟨t255, A700, H⟩ := H
         replace H : (if t255 = true then (some false) else ((bag_N.f k2 l0 l1).bind fun t256 => (if t256 = 0 then ((bag_Size.f k2 l0).bind fun t257 => (if t257 = 0 then ((corollarylaw13_awake.f k2).bind fun t258 => (some t258)) else (some false))) else (some false)))) = some r := H
         have A70 := Aside0.mk A700
         clear A700
         by_cases c71 : t255 = true
         ·subst c71
          replace H := ifT_ H
          obtain rfl := Option.some.inj H
          go_wp2_with (first | ((with_reducible refine gate_callee (f := 12) rfl ?_); refine goesL_ (some 42) rfl rfl Tryd.func12 (by kernel_rfl) rfl #[.slice A0 l0.length c0] rfl q2_ ?_; (with_reducible refine (bag_Right.calls k2 _ _ l0 false _ ?side1 ?side2 A67.out q1_).mono ?_); (case side1 => repeat (first | exact (Kd.C_below HR0.out HB.out) | (with_reducible refine Kd.C_alloc ?_ _) | (with_reducible refine Kd.C_drewN ?_ _) | (with_reducible refine Kd.C_drew ?_))); (case side2 => exact HC0.out); rintro e w72 ⟨rfl, hb⟩; refine ⟨_, rfl, ?_⟩; have n0_ := Aside0.mk (below_step q0_ hb); clear HB; have HB := n0_; clear n0_; (try clear hb); (try clear hb2); (try clear hk); (try clear hi)) | (go_at_call 13; (with_reducible refine (bag_Whole.calls k2 _ _ l0 true _ ?side1 ?side2 A70.out q1_).mono ?_); (case side1 => repeat (first | exact (Kd.C_below HR0.out HB.out) | (with_reducible refine Kd.C_alloc ?_ _) | (with_reducible refine Kd.C_drewN ?_ _) | (with_reducible refine Kd.C_drew ?_))); (case side2 => exact HC0.out); rintro e w73 ⟨rfl, hb⟩; have n0_ := Aside0.mk (below_step q0_ hb); clear HB; have HB := n0_; clear n0_; (try clear hb); (try clear hb2); (try clear hk); (try clear hi)))
          go_ret
          exact ⟨q4_, q0_⟩
         ·replace c71 := Bool.eq_false_iff.mpr c71
          subst c71
          replace H := ifF_ H
          replace H := Option.bind_eq_some_iff.mp H
          obtain ⟨t256, A740, H⟩ := H
          replace H : (if t256 = 0 then ((bag_Size.f k2 l0).bind fun t257 => (if t257 = 0 then ((corollarylaw13_awake.f k2).bind fun t258 => (some t258)) else (some false))) else (some false)) = some r := H
          have A74 := Aside0.mk A740
          clear A740
          by_cases c75 : t256 = 0
          ·rw [if_pos c75] at H
           have c75b0 : (t256 == 0) = true := beq_iff_eq.mpr c75
           have c75b1 : (t256 != 0) = false := bne_eq_false_iff_eq.mpr c75
           clear c75
           replace H := Option.bind_eq_some_iff.mp H
           obtain ⟨t257, A760, H⟩ := H
           replace H : (if t257 = 0 then ((corollarylaw13_awake.f k2).bind fun t258 => (some t258)) else (some false)) = some r := H
           have A76 := Aside0.mk A760
           clear A760
           by_cases c77 : t257 = 0
           ·rw [if_pos c77] at H
            have c77b0 : (t257 == 0) = true := beq_iff_eq.mpr c77
            have c77b1 : (t257 != 0) = false := bne_eq_false_iff_eq.mpr c77
            clear c77
            replace H := Option.bind_eq_some_iff.mp H
            obtain ⟨t258, A780, H⟩ := H
            replace H : (some t258) = some r := H
            have A78 := Aside0.mk A780
            clear A780
            obtain rfl := Option.some.inj H
            go_wp2_with (first | ((with_reducible refine gate_callee (f := 12) rfl ?_); refine goesL_ (some 42) rfl rfl Tryd.func12 (by kernel_rfl) rfl #[.slice A0 l0.length c0] rfl q2_ ?_; (with_reducible refine (bag_Right.calls k2 _ _ l0 false _ ?side1 ?side2 A67.out q1_).mono ?_); (case side1 => repeat (first | exact (Kd.C_below HR0.out HB.out) | (with_reducible refine Kd.C_alloc ?_ _) | (with_reducible refine Kd.C_drewN ?_ _) | (with_reducible refine Kd.C_drew ?_))); (case side2 => exact HC0.out); rintro e w79 ⟨rfl, hb⟩; refine ⟨_, rfl, ?_⟩; have n0_ := Aside0.mk (below_step q0_ hb); clear HB; have HB := n0_; clear n0_; (try clear hb); (try clear hb2); (try clear hk); (try clear hi)) | (go_at_call 13; (with_reducible refine (bag_Whole.calls k2 _ _ l0 false _ ?side1 ?side2 A70.out q1_).mono ?_); (case side1 => repeat (first | exact (Kd.C_below HR0.out HB.out) | (with_reducible refine Kd.C_alloc ?_ _) | (with_reducible refine Kd.C_drewN ?_ _) | (with_reducible refine Kd.C_drew ?_))); (case side2 => exact HC0.out); rintro e w80 ⟨rfl, hb⟩; have n0_ := Aside0.mk (below_step q0_ hb); clear HB; have HB := n0_; clear n0_; (try clear hb); (try clear hb2); (try clear hk); (try clear hi)) | (go_at_call 14; (with_reducible refine (bag_N.calls k2 _ _ l0 _ _ l1 t256 _ ?side1 ?side2 ?side3 ?side4 A74.out q1_).mono ?_); (case side1 => repeat (first | exact (Kd.C_below HR0.out HB.out) | (with_reducible refine Kd.C_alloc ?_ _) | (with_reducible refine Kd.C_drewN ?_ _) | (with_reducible refine Kd.C_drew ?_))); (case side2 => exact HC0.out); (case side3 => repeat (first | exact (Kd.C_below HR1.out HB.out) | (with_reducible refine Kd.C_alloc ?_ _) | (with_reducible refine Kd.C_drewN ?_ _) | (with_reducible refine Kd.C_drew ?_))); (case side4 => exact HC1.out); rintro e w81 ⟨rfl, hb⟩; have n0_ := Aside0.mk (below_step q0_ hb); clear HB; have HB := n0_; clear n0_; (try clear hb); (try clear hb2); (try clear hk); (try clear hi)) | (go_at_call 15; (with_reducible refine (bag_Size.calls k2 _ _ l0 t257 _ ?side1 ?side2 A76.out q1_).mono ?_); (case side1 => repeat (first | exact (Kd.C_below HR0.out HB.out) | (with_reducible refine Kd.C_alloc ?_ _) | (with_reducible refine Kd.C_drewN ?_ _) | (with_reducible refine Kd.C_drew ?_))); (case side2 => exact HC0.out); rintro e w82 ⟨rfl, hb⟩; have n0_ := Aside0.mk (below_step q0_ hb); clear HB; have HB := n0_; clear n0_; (try clear hb); (try clear hb2); (try clear hk); (try clear hi)) | (go_at_call 10; (with_reducible refine (corollarylaw13_awake.calls k2  t258 _ A78.out q1_).mono ?_); rintro e w83 ⟨rfl, hb⟩; have n0_ := Aside0.mk (below_step q0_ hb); clear HB; have HB := n0_; clear n0_; (try clear hb); (try clear hb2); (try clear hk); (try clear hi)))
            go_ret
            exact ⟨q4_, q0_⟩
           ·rw [if_neg c77] at H
            have c77b0 : (t257 == 0) = false := beq_eq_false_iff_ne.mpr c77
            have c77b1 : (t257 != 0) = true := bne_iff_ne.mpr c77
            obtain rfl := Option.some.inj H
            go_wp2_with (first | ((with_reducible refine gate_callee (f := 12) rfl ?_); refine goesL_ (some 42) rfl rfl Tryd.func12 (by kernel_rfl) rfl #[.slice A0 l0.length c0] rfl q2_ ?_; (with_reducible refine (bag_Right.calls k2 _ _ l0 false _ ?side1 ?side2 A67.out q1_).mono ?_); (case side1 => repeat (first | exact (Kd.C_below HR0.out HB.out) | (with_reducible refine Kd.C_alloc ?_ _) | (with_reducible refine Kd.C_drewN ?_ _) | (with_reducible refine Kd.C_drew ?_))); (case side2 => exact HC0.out); rintro e w84 ⟨rfl, hb⟩; refine ⟨_, rfl, ?_⟩; have n0_ := Aside0.mk (below_step q0_ hb); clear HB; have HB := n0_; clear n0_; (try clear hb); (try clear hb2); (try clear hk); (try clear hi)) | (go_at_call 13; (with_reducible refine (bag_Whole.calls k2 _ _ l0 false _ ?side1 ?side2 A70.out q1_).mono ?_); (case side1 => repeat (first | exact (Kd.C_below HR0.out HB.out) | (with_reducible refine Kd.C_alloc ?_ _) | (with_reducible refine Kd.C_drewN ?_ _) | (with_reducible refine Kd.C_drew ?_))); (case side2 => exact HC0.out); rintro e w85 ⟨rfl, hb⟩; have n0_ := Aside0.mk (below_step q0_ hb); clear HB; have HB := n0_; clear n0_; (try clear hb); (try clear hb2); (try clear hk); (try clear hi)) | (go_at_call 14; (with_reducible refine (bag_N.calls k2 _ _ l0 _ _ l1 t256 _ ?side1 ?side2 ?side3 ?side4 A74.out q1_).mono ?_); (case side1 => repeat (first | exact (Kd.C_below HR0.out HB.out) | (with_reducible refine Kd.C_alloc ?_ _) | (with_reducible refine Kd.C_drewN ?_ _) | (with_reducible refine Kd.C_drew ?_))); (case side2 => exact HC0.out); (case side3 => repeat (first | exact (Kd.C_below HR1.out HB.out) | (with_reducible refine Kd.C_alloc ?_ _) | (with_reducible refine Kd.C_drewN ?_ _) | (with_reducible refine Kd.C_drew ?_))); (case side4 => exact HC1.out); rintro e w86 ⟨rfl, hb⟩; have n0_ := Aside0.mk (below_step q0_ hb); clear HB; have HB := n0_; clear n0_; (try clear hb); (try clear hb2); (try clear hk); (try clear hi)) | (go_at_call 15; (with_reducible refine (bag_Size.calls k2 _ _ l0 t257 _ ?side1 ?side2 A76.out q1_).mono ?_); (case side1 => repeat (first | exact (Kd.C_below HR0.out HB.out) | (with_reducible refine Kd.C_alloc ?_ _) | (with_reducible refine Kd.C_drewN ?_ _) | (with_reducible refine Kd.C_drew ?_))); (case side2 => exact HC0.out); rintro e w87 ⟨rfl, hb⟩; have n0_ := Aside0.mk (below_step q0_ hb); clear HB; have HB := n0_; clear n0_; (try clear hb); (try clear hb2); (try clear hk); (try clear hi)))
            go_ret
            exact ⟨q4_, q0_⟩
          ·rw [if_neg c75] at H
           have c75b0 : (t256 == 0) = false := beq_eq_false_iff_ne.mpr c75
           have c75b1 : (t256 != 0) = true := bne_iff_ne.mpr c75
           obtain rfl := Option.some.inj H
           go_wp2_with (first | ((with_reducible refine gate_callee (f := 12) rfl ?_); refine goesL_ (some 42) rfl rfl Tryd.func12 (by kernel_rfl) rfl #[.slice A0 l0.length c0] rfl q2_ ?_; (with_reducible refine (bag_Right.calls k2 _ _ l0 false _ ?side1 ?side2 A67.out q1_).mono ?_); (case side1 => repeat (first | exact (Kd.C_below HR0.out HB.out) | (with_reducible refine Kd.C_alloc ?_ _) | (with_reducible refine Kd.C_drewN ?_ _) | (with_reducible refine Kd.C_drew ?_))); (case side2 => exact HC0.out); rintro e w88 ⟨rfl, hb⟩; refine ⟨_, rfl, ?_⟩; have n0_ := Aside0.mk (below_step q0_ hb); clear HB; have HB := n0_; clear n0_; (try clear hb); (try clear hb2); (try clear hk); (try clear hi)) | (go_at_call 13; (with_reducible refine (bag_Whole.calls k2 _ _ l0 false _ ?side1 ?side2 A70.out q1_).mono ?_); (case side1 => repeat (first | exact (Kd.C_below HR0.out HB.out) | (with_reducible refine Kd.C_alloc ?_ _) | (with_reducible refine Kd.C_drewN ?_ _) | (with_reducible refine Kd.C_drew ?_))); (case side2 => exact HC0.out); rintro e w89 ⟨rfl, hb⟩; have n0_ := Aside0.mk (below_step q0_ hb); clear HB; have HB := n0_; clear n0_; (try clear hb); (try clear hb2); (try clear hk); (try clear hi)) | (go_at_call 14; (with_reducible refine (bag_N.calls k2 _ _ l0 _ _ l1 t256 _ ?side1 ?side2 ?side3 ?side4 A74.out q1_).mono ?_); (case side1 => repeat (first | exact (Kd.C_below HR0.out HB.out) | (with_reducible refine Kd.C_alloc ?_ _) | (with_reducible refine Kd.C_drewN ?_ _) | (with_reducible refine Kd.C_drew ?_))); (case side2 => exact HC0.out); (case side3 => repeat (first | exact (Kd.C_below HR1.out HB.out) | (with_reducible refine Kd.C_alloc ?_ _) | (with_reducible refine Kd.C_drewN ?_ _) | (with_reducible refine Kd.C_drew ?_))); (case side4 => exact HC1.out); rintro e w90 ⟨rfl, hb⟩; have n0_ := Aside0.mk (below_step q0_ hb); clear HB; have HB := n0_; clear n0_; (try clear hb); (try clear hb2); (try clear hk); (try clear hi)))
           go_ret
           exact ⟨q4_, q0_⟩

end Go.Proofs.YtckligjgnbgdiaaDoor.P
