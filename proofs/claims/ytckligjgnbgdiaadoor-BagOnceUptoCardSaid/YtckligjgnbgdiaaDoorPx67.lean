-- HALVED
-- Written by our own program (wip/xprint) over the seat's translation. Lean checks it.
import Derived.Test.YtckligjgnbgdiaaDoorPx0
import Derived.Test.YtckligjgnbgdiaaDoorPx1
import Derived.Test.YtckligjgnbgdiaaDoorPx22
import Derived.Test.YtckligjgnbgdiaaDoorPx49
import Derived.Test.YtckligjgnbgdiaaDoorPx52
import Derived.Test.YtckligjgnbgdiaaDoorPx60
import Derived.Test.YtckligjgnbgdiaaDoorPx63
namespace Go.Proofs.YtckligjgnbgdiaaDoor.P
open Go.RowKit Go.Proofs.YtckligjgnbgdiaaDoorW.PrintWords Go.Proofs.YtckligjgnbgdiaaDoorW.PrintLast Go.Proofs.YtckligjgnbgdiaaDoorW.PrintMore
attribute [local go_sem] max2_int min2_mn max_two min_two max_three min_three max_four min_four   -- for this text's walks alone
set_option linter.unusedVariables false
set_option linter.unusedSimpArgs false


/-! ### corollarylaw13_BagOnce: function 5 -/
def corollarylaw13_BagOnce.l0 : Nat → List (List (S51)) → List (S27) → List (List (S51)) → Int → Int → Option (Bool)
 | 0, _, _, _, _, _ => none
 | k + 1, x0, x3, x25, x26, x27 => if x27 < x26 then (if 0 ≤ x27 then (if x27 < (x25.length : Int) then ((bag_N.f k x3 (rd_L3 x25 x27)).bind fun t335 => ((corollaryref13_Of.f k x0).bind fun t336 => ((corollaryref13_N.f k t336 (rd_L3 x25 x27)).bind fun t339 => (if t335 = t339 then (corollarylaw13_BagOnce.l0 k x0 x3 x25 x26 (wrap64 (x27 + 1))) else (some false))))) else (none)) else (none)) else ((bag_Size.f k x3).bind fun t340 => (if t340 = (x0.length : Int) then ((bag_Whole.f k x3).bind fun t341 => (if t341 = true then ((corollarylaw13_awake.f k).bind fun t342 => (some t342)) else (some false))) else (some false)))
def corollarylaw13_BagOnce.f (k : Nat) (l0 : List (List (S51))) : Option (Bool) := (corollaryref13_Of.f k l0).bind fun t324 => ((corollaryref13_Small.f k t324).bind fun t327 => (if t327 = true then ((bag_Of.f k l0).bind fun bt329 => (if bt329.2 = 0 then (corollarylaw13_BagOnce.l0 k l0 bt329.1 l0 (l0.length : Int) 0) else (if (bt329.1.length : Int) = 0 then ((corollarylaw13_awake.f k).bind fun t333 => (some t333)) else (some false)))) else ((corollarylaw13_awake.f k).bind fun t328 => (some t328))))
theorem corollarylaw13_BagOnce.mono_l : ∀ k, (∀ y0 y1 y2 y3 y4, LeO (corollarylaw13_BagOnce.l0 k y0 y1 y2 y3 y4) (corollarylaw13_BagOnce.l0 (k + 1) y0 y1 y2 y3 y4))
 | 0 => fun _ _ _ _ _ r h => by simp [corollarylaw13_BagOnce.l0] at h
 | k + 1 => by
  have ih0 := corollarylaw13_BagOnce.mono_l k
  ·intro y0 y1 y2 y3 y4
   unfold corollarylaw13_BagOnce.l0
   repeat' first
   | (with_reducible exact ih0 _ _ _ _ _)
   | (with_reducible exact bag_N.mono _ _ _)
   | (with_reducible exact bag_Of.mono _ _)
   | (with_reducible exact bag_Size.mono _ _)
   | (with_reducible exact bag_Whole.mono _ _)
   | (with_reducible exact corollarylaw13_awake.mono _)
   | (with_reducible exact corollaryref13_N.mono _ _ _)
   | (with_reducible exact corollaryref13_Of.mono _ _)
   | (with_reducible exact corollaryref13_Small.mono _ _)
   | (with_reducible exact LeO.refl _)
   | (with_reducible exact LeO.none _)
   | (with_reducible refine LeO.ite ?_ ?_)
   | (with_reducible refine LeO.bind ?_ (fun _ => ?_))
   | exact ih0 _ _ _ _ _
   | exact bag_N.mono _ _ _
   | exact bag_Of.mono _ _
   | exact bag_Size.mono _ _
   | exact bag_Whole.mono _ _
   | exact corollarylaw13_awake.mono _
   | exact corollaryref13_N.mono _ _ _
   | exact corollaryref13_Of.mono _ _
   | exact corollaryref13_Small.mono _ _
   | exact LeO.none _
   | refine LeO.ite ?_ ?_
   | refine LeO.bind ?_ (fun _ => ?_)
theorem corollarylaw13_BagOnce.mono : ∀ a0 k, LeO (corollarylaw13_BagOnce.f k a0) (corollarylaw13_BagOnce.f (k + 1) a0) := by
 intro a0 k
 have ih0 := corollarylaw13_BagOnce.mono_l k
 unfold corollarylaw13_BagOnce.f
 repeat' first
   | (with_reducible exact ih0 _ _ _ _ _)
   | (with_reducible exact bag_N.mono _ _ _)
   | (with_reducible exact bag_Of.mono _ _)
   | (with_reducible exact bag_Size.mono _ _)
   | (with_reducible exact bag_Whole.mono _ _)
   | (with_reducible exact corollarylaw13_awake.mono _)
   | (with_reducible exact corollaryref13_N.mono _ _ _)
   | (with_reducible exact corollaryref13_Of.mono _ _)
   | (with_reducible exact corollaryref13_Small.mono _ _)
   | (with_reducible exact LeO.refl _)
   | (with_reducible exact LeO.none _)
   | (with_reducible refine LeO.ite ?_ ?_)
   | (with_reducible refine LeO.bind ?_ (fun _ => ?_))
   | exact ih0 _ _ _ _ _
   | exact bag_N.mono _ _ _
   | exact bag_Of.mono _ _
   | exact bag_Size.mono _ _
   | exact bag_Whole.mono _ _
   | exact corollarylaw13_awake.mono _
   | exact corollaryref13_N.mono _ _ _
   | exact corollaryref13_Of.mono _ _
   | exact corollaryref13_Small.mono _ _
   | exact LeO.none _
   | refine LeO.ite ?_ ?_
   | refine LeO.bind ?_ (fun _ => ?_)
set_option maxHeartbeats 8000000 in
set_option maxRecDepth 100000 in
theorem corollarylaw13_BagOnce.calls (k : Nat) (A0 : Option Addr) (c0 : Nat) (l0 : List (List (S51))) (r : Bool) (w : World) (hr0 : Kd.C (Kd.slice 51 k51) w A0 l0.length l0) (hc0 : l0.length ≤ c0) (h : corollarylaw13_BagOnce.f k l0 = some r) (hG : Glob w) :
  Calls Tryd.prog 5 #[.slice A0 l0.length c0] w fun e w' => e = .returned (.bool r) ∧ Below w.heap.size w w' := by
 have HG := Aside0.mk hG
 clear hG
 have HR0 := Aside0.mk hr0
 have HC0 := Aside0.mk hc0
 clear hr0 hc0
 have HB := Aside0.mk (Below.refl w.heap.size w)
 have H : ((corollaryref13_Of.f k l0).bind fun t324 => ((corollaryref13_Small.f k t324).bind fun t327 => (if t327 = true then ((bag_Of.f k l0).bind fun bt329 => (if bt329.2 = 0 then (corollarylaw13_BagOnce.l0 k l0 bt329.1 l0 (l0.length : Int) 0) else (if (bt329.1.length : Int) = 0 then ((corollarylaw13_awake.f k).bind fun t333 => (some t333)) else (some false)))) else ((corollarylaw13_awake.f k).bind fun t328 => (some t328))))) = some r := h
 clear h
 replace H := Option.bind_eq_some_iff.mp H
 obtain ⟨t324, A20, H⟩ := H
 replace H : ((corollaryref13_Small.f k t324).bind fun t327 => (if t327 = true then ((bag_Of.f k l0).bind fun bt329 => (if bt329.2 = 0 then (corollarylaw13_BagOnce.l0 k l0 bt329.1 l0 (l0.length : Int) 0) else (if (bt329.1.length : Int) = 0 then ((corollarylaw13_awake.f k).bind fun t333 => (some t333)) else (some false)))) else ((corollarylaw13_awake.f k).bind fun t328 => (some t328)))) = some r := H
 have A2 := Aside0.mk A20
 clear A20
 replace H := Option.bind_eq_some_iff.mp H
 obtain ⟨t327, A30, H⟩ := H
 replace H : (if t327 = true then ((bag_Of.f k l0).bind fun bt329 => (if bt329.2 = 0 then (corollarylaw13_BagOnce.l0 k l0 bt329.1 l0 (l0.length : Int) 0) else (if (bt329.1.length : Int) = 0 then ((corollarylaw13_awake.f k).bind fun t333 => (some t333)) else (some false)))) else ((corollarylaw13_awake.f k).bind fun t328 => (some t328))) = some r := H
 have A3 := Aside0.mk A30
 clear A30
 by_cases c4 : t327 = true
 ·subst c4
  replace H := ifT_ H
  replace H := Option.bind_eq_some_iff.mp H
  obtain ⟨⟨t329, t332⟩, A50, H⟩ := H
  replace H : (if t332 = 0 then (corollarylaw13_BagOnce.l0 k l0 t329 l0 (l0.length : Int) 0) else (if (t329.length : Int) = 0 then ((corollarylaw13_awake.f k).bind fun t333 => (some t333)) else (some false))) = some r := H
  have A5 := Aside0.mk A50
  clear A50
  by_cases c6 : t332 = 0
  ·rw [if_pos c6] at H
   have c6b0 : (t332 == 0) = true := beq_iff_eq.mpr c6
   have c6b1 : (t332 != 0) = false := bne_eq_false_iff_eq.mpr c6
   clear c6
   have H' := Aside0.mk H
   clear H
   go_enter Tryd.func5, Tryd.ntmps5
   go_wp2_with (first | ((with_reducible refine gate_callee (f := 17) rfl ?_); refine goesL_ (some 8) rfl rfl Tryd.func17 (by kernel_rfl) rfl #[.slice A0 l0.length c0] rfl q2_ ?_; (with_reducible refine (corollaryref13_Of.calls k (fun k_ => k_ < w.heap.size) _ _ l0 t324 _ ?side1 A2.out).mono ?_); (case side1 => exact Kd.V_mk HC0.out (Kd.F_below (Kd.C_F (Kd.heap_slice 51 k51_heap) HR0.out) q0_)); rintro e w7 ⟨v325, rfl, ho0, hb⟩; refine ⟨_, rfl, ?_⟩; have n0_ := Aside0.mk (Kd.N_lower (Kd.N_mono (ok' := fun k_ => True) ho0 (fun k_ hk_ => trivial)) (below_size q0_)); have n1_ := Aside0.mk (below_step q0_ hb); clear HB; have HO326 := n0_; have HB := n1_; clear n0_ n1_; (try clear hb); (try clear hb2); (try clear hk); (try clear hi); (try clear ho0); obtain ⟨Ao8, co8, eo8⟩ := Kd.N_slice HO326.out; subst eo8) | ((with_reducible refine gate_callee (f := 9) rfl ?_); refine goesL_ (some 9) rfl rfl Tryd.func9 (by kernel_rfl) rfl #[.slice Ao8 t324.length co8] rfl q2_ ?_; (with_reducible refine (corollaryref13_Small.calls k _ _ t324 true _ ?side1 ?side2 A3.out).mono ?_); (case side1 => repeat (first | exact (Kd.N_reads' HO326.out).2.2 | (with_reducible refine Kd.C_alloc ?_ _) | (with_reducible refine Kd.C_drewN ?_ _) | (with_reducible refine Kd.C_drew ?_))); (case side2 => exact (Kd.N_reads' HO326.out).2.1); rintro e w' ⟨rfl, ⟨nd, rfl⟩⟩; refine ⟨_, rfl, ?_⟩) | ((with_reducible refine gate_callee (f := 20) rfl ?_); refine goesL_ (some 14) rfl rfl Tryd.func20 (by kernel_rfl) rfl #[.slice A0 l0.length c0] rfl q2_ ?_; (with_reducible refine (bag_Of.calls k (fun k_ => k_ < w.heap.size) _ _ l0 t329 t332 _ ?side1 A5.out q1_).mono ?_); (case side1 => exact Kd.V_mk HC0.out (Kd.F_below (Kd.C_F (Kd.heap_slice 51 k51_heap) HR0.out) q0_)); rintro e w9 ⟨v330, rfl, ho0, hb⟩; refine ⟨_, rfl, ?_⟩; have n0_ := Aside0.mk (Kd.N_elder' q34_ (Kd.N_base ho0) hb); have n1_ := Aside0.mk (Kd.N_lower (Kd.N_mono (ok' := fun k_ => some k_ ≠ (.slice Ao8 t324.length co8 : Value).ownBlock) ho0 (fun k_ hk_ => Or.elim hk_ (fun hs_ => fun e_ => Nat.not_le.2 hs_ (Kd.N_base HO326.out k_ e_.symm)) (fun hn_ => (Kd.fresh' (Kd.N_lt q34_) k_ hn_)))) (below_size q0_)); have n2_ := Aside0.mk (below_step q0_ hb); clear HO326; clear HB; have HO326 := n0_; have HO331 := n1_; have HB := n2_; clear n0_ n1_ n2_; (try clear hb); (try clear hb2); (try clear hk); (try clear hi); (try clear ho0)))
   go_loopg [27] k (fun kq v27 w' => ∃ (x27_1 : Int), v27 = .int .i64 x27_1 ∧ Aside0 (corollarylaw13_BagOnce.l0 kq l0 t329 l0 (l0.length : Int) x27_1 = some r) ∧ Aside0 (kq ≤ k) ∧ Aside0 (Kd.N k27 27 w' w.heap.size (fun _ => True) v330 t329) ∧ Aside0 (Below w.heap.size w w'))
   case atStart => exact ⟨(0), q9_, H', ⟨Nat.le_refl _⟩, ⟨by (with_reducible repeat (first | apply Kd.N_alloc | apply Kd.N_drewN | apply Kd.N_drew)); exact Kd.N_mono HO331.out (fun _ hk => trivial)⟩, ⟨q0_⟩⟩
   case round =>
    clear H'
    try clear c1
    try clear c2
    try clear p2
    try clear c4
    try clear c5
    try clear c6
    try clear c6b0
    try clear c6b1
    try clear c9
    obtain ⟨x27_1, rfl, HA, HK1, HO_3, HB⟩ := hrel
    cases gk with
    | zero => exact absurd HA.out (by simp [corollarylaw13_BagOnce.l0])
    | succ k1 =>
     have H := HA.out
     clear HA
     simp only [corollarylaw13_BagOnce.l0] at H
     by_cases c10 : x27_1 < (l0.length : Int)
     ·rw [if_pos c10] at H
      have c10b0 : decide (x27_1 < (l0.length : Int)) = true := decide_eq_true c10
      clear c10
      by_cases c11 : 0 ≤ x27_1
      ·rw [if_pos c11] at H
       have c11b0 : decide (0 ≤ x27_1) = true := decide_eq_true c11
       clear c11
       by_cases c12 : x27_1 < (l0.length : Int)
       ·rw [if_pos c12] at H
        have c12b0 : decide (x27_1 < (l0.length : Int)) = true := decide_eq_true c12
        clear c12
        replace H := Option.bind_eq_some_iff.mp H
        obtain ⟨t335, A130, H⟩ := H
        replace H : ((corollaryref13_Of.f k1 l0).bind fun t336 => ((corollaryref13_N.f k1 t336 (rd_L3 l0 x27_1)).bind fun t339 => (if t335 = t339 then (corollarylaw13_BagOnce.l0 k1 l0 t329 l0 (l0.length : Int) (wrap64 (x27_1 + 1))) else (some false)))) = some r := H
        have A13 := Aside0.mk A130
        clear A130
        replace H := Option.bind_eq_some_iff.mp H
        obtain ⟨t336, A140, H⟩ := H
        replace H : ((corollaryref13_N.f k1 t336 (rd_L3 l0 x27_1)).bind fun t339 => (if t335 = t339 then (corollarylaw13_BagOnce.l0 k1 l0 t329 l0 (l0.length : Int) (wrap64 (x27_1 + 1))) else (some false))) = some r := H
        have A14 := Aside0.mk A140
        clear A140
        replace H := Option.bind_eq_some_iff.mp H
        obtain ⟨t339, A150, H⟩ := H
        replace H : (if t335 = t339 then (corollarylaw13_BagOnce.l0 k1 l0 t329 l0 (l0.length : Int) (wrap64 (x27_1 + 1))) else (some false)) = some r := H
        have A15 := Aside0.mk A150
        clear A150
        by_cases c16 : t335 = t339
        ·rw [if_pos c16] at H
         have c16b0 : (t335 == t339) = true := beq_iff_eq.mpr c16
         have c16b1 : (t335 != t339) = false := bne_eq_false_iff_eq.mpr c16
         clear c16
         have H' := Aside0.mk H
         clear H
         have p334 : 0 ≤ (x27_1 : Int) := of_decide_eq_true q5_
         have q334 : x27_1 < (l0.length : Int) := of_decide_eq_true q5_
         obtain ⟨ad334, A334_0, c334_0, e334, hx334_0, hl334_0, hi334_0⟩ := at_L3 HR0.out x27_1 p334 q334
         cases e334
         replace hx334_0 := (HB.out.cell (World.block_lt_of_cell? w _ hx334_0)).trans hx334_0
         have HR334_0 := Aside0.mk hi334_0
         have HC334_0 := Aside0.mk hl334_0
         clear hi334_0 hl334_0
         replace p334 := eq_true p334
         replace q334 := eq_true q334
         obtain ⟨Ao17, co17, eo17⟩ := Kd.N_slice HO_3.out
         subst eo17
         go_wp2_with (first | ((with_reducible refine gate_callee (f := 14) rfl ?_); refine goesL_ (some 33) rfl rfl Tryd.func14 (by kernel_rfl) rfl #[.slice Ao17 t329.length co17, .slice A334_0 (rd_L3 l0 x27_1).length c334_0] rfl q2_ ?_; (with_reducible refine (bag_N.calls k1 _ _ t329 _ _ (rd_L3 l0 x27_1) t335 _ ?side1 ?side2 ?side3 ?side4 A13.out q1_).mono ?_); (case side1 => repeat (first | exact (Kd.N_reads' HO_3.out).2.2 | (with_reducible refine Kd.C_alloc ?_ _) | (with_reducible refine Kd.C_drewN ?_ _) | (with_reducible refine Kd.C_drew ?_))); (case side2 => exact (Kd.N_reads' HO_3.out).2.1); (case side3 => repeat (first | exact (Kd.C_below HR334_0.out HB.out) | (with_reducible refine Kd.C_alloc ?_ _) | (with_reducible refine Kd.C_drewN ?_ _) | (with_reducible refine Kd.C_drew ?_))); (case side4 => exact HC334_0.out); rintro e w18 ⟨rfl, hb⟩; refine ⟨_, rfl, ?_⟩; have n0_ := Aside0.mk (Kd.N_below q26_ hb); have n1_ := Aside0.mk (below_step q0_ hb); clear HO_3; clear HB; have HO_3 := n0_; have HB := n1_; clear n0_ n1_; (try clear hb); (try clear hb2); (try clear hk); (try clear hi)) | ((with_reducible refine gate_callee (f := 17) rfl ?_); refine goesL_ (some 35) rfl rfl Tryd.func17 (by kernel_rfl) rfl #[.slice (some ad334) l0.length c0] rfl q2_ ?_; (with_reducible refine (corollaryref13_Of.calls k1 (fun k_ => k_ < w.heap.size) _ _ l0 t336 _ ?side1 A14.out).mono ?_); (case side1 => exact Kd.V_mk HC0.out (Kd.F_below (Kd.C_F (Kd.heap_slice 51 k51_heap) HR0.out) q0_)); rintro e w19 ⟨v337, rfl, ho0, hb⟩; refine ⟨_, rfl, ?_⟩; have n0_ := Aside0.mk (Kd.N_elder' q26_ (Kd.N_base ho0) hb); have n1_ := Aside0.mk (Kd.N_lower (Kd.N_mono (ok' := fun k_ => some k_ ≠ (.slice Ao17 t329.length co17 : Value).ownBlock) ho0 (fun k_ hk_ => Or.elim hk_ (fun hs_ => fun e_ => Nat.not_le.2 hs_ (Kd.N_base HO_3.out k_ e_.symm)) (fun hn_ => (Kd.fresh' (Kd.N_lt q26_) k_ hn_)))) (below_size q0_)); have n2_ := Aside0.mk (below_step q0_ hb); clear HO_3; clear HB; have HO_3 := n0_; have HO338 := n1_; have HB := n2_; clear n0_ n1_ n2_; (try clear hb); (try clear hb2); (try clear hk); (try clear hi); (try clear ho0); obtain ⟨Ao20, co20, eo20⟩ := Kd.N_slice HO338.out; subst eo20) | ((with_reducible refine gate_callee (f := 16) rfl ?_); refine goesL_ (some 37) rfl rfl Tryd.func16 (by kernel_rfl) rfl #[.slice Ao20 t336.length co20, .slice A334_0 (rd_L3 l0 x27_1).length c334_0] rfl q2_ ?_; (with_reducible refine (corollaryref13_N.calls k1 _ _ t336 _ _ (rd_L3 l0 x27_1) t339 _ ?side1 ?side2 ?side3 ?side4 A15.out).mono ?_); (case side1 => repeat (first | exact (Kd.N_reads' HO338.out).2.2 | (with_reducible refine Kd.C_alloc ?_ _) | (with_reducible refine Kd.C_drewN ?_ _) | (with_reducible refine Kd.C_drew ?_))); (case side2 => exact (Kd.N_reads' HO338.out).2.1); (case side3 => repeat (first | exact (Kd.C_below HR334_0.out HB.out) | (with_reducible refine Kd.C_alloc ?_ _) | (with_reducible refine Kd.C_drewN ?_ _) | (with_reducible refine Kd.C_drew ?_))); (case side4 => exact HC334_0.out); rintro e w' ⟨rfl, ⟨nd, rfl⟩⟩; refine ⟨_, rfl, ?_⟩))
         go_roundg k1
         case measure => have := HK1.out; omega
         case rel => exact ⟨(wrap64 (x27_1 + 1)), q9_, H', ⟨by have := HK1.out; omega⟩, ⟨by (with_reducible repeat (first | apply Kd.N_alloc | apply Kd.N_drewN | apply Kd.N_drew)); exact Kd.N_mono HO_3.out (fun _ hk => trivial)⟩, ⟨q0_⟩⟩
        ·rw [if_neg c16] at H
         have c16b0 : (t335 == t339) = false := beq_eq_false_iff_ne.mpr c16
         have c16b1 : (t335 != t339) = true := bne_iff_ne.mpr c16
         obtain rfl := Option.some.inj H
         have p334 : 0 ≤ (x27_1 : Int) := of_decide_eq_true q5_
         have q334 : x27_1 < (l0.length : Int) := of_decide_eq_true q5_
         obtain ⟨ad334, A334_0, c334_0, e334, hx334_0, hl334_0, hi334_0⟩ := at_L3 HR0.out x27_1 p334 q334
         cases e334
         replace hx334_0 := (HB.out.cell (World.block_lt_of_cell? w _ hx334_0)).trans hx334_0
         have HR334_0 := Aside0.mk hi334_0
         have HC334_0 := Aside0.mk hl334_0
         clear hi334_0 hl334_0
         replace p334 := eq_true p334
         replace q334 := eq_true q334
         obtain ⟨Ao21, co21, eo21⟩ := Kd.N_slice HO_3.out
         subst eo21
         go_wp2_with (first | ((with_reducible refine gate_callee (f := 14) rfl ?_); refine goesL_ (some 33) rfl rfl Tryd.func14 (by kernel_rfl) rfl #[.slice Ao21 t329.length co21, .slice A334_0 (rd_L3 l0 x27_1).length c334_0] rfl q2_ ?_; (with_reducible refine (bag_N.calls k1 _ _ t329 _ _ (rd_L3 l0 x27_1) t335 _ ?side1 ?side2 ?side3 ?side4 A13.out q1_).mono ?_); (case side1 => repeat (first | exact (Kd.N_reads' HO_3.out).2.2 | (with_reducible refine Kd.C_alloc ?_ _) | (with_reducible refine Kd.C_drewN ?_ _) | (with_reducible refine Kd.C_drew ?_))); (case side2 => exact (Kd.N_reads' HO_3.out).2.1); (case side3 => repeat (first | exact (Kd.C_below HR334_0.out HB.out) | (with_reducible refine Kd.C_alloc ?_ _) | (with_reducible refine Kd.C_drewN ?_ _) | (with_reducible refine Kd.C_drew ?_))); (case side4 => exact HC334_0.out); rintro e w22 ⟨rfl, hb⟩; refine ⟨_, rfl, ?_⟩; have n0_ := Aside0.mk (Kd.N_below q26_ hb); have n1_ := Aside0.mk (below_step q0_ hb); clear HO_3; clear HB; have HO_3 := n0_; have HB := n1_; clear n0_ n1_; (try clear hb); (try clear hb2); (try clear hk); (try clear hi)) | ((with_reducible refine gate_callee (f := 17) rfl ?_); refine goesL_ (some 35) rfl rfl Tryd.func17 (by kernel_rfl) rfl #[.slice (some ad334) l0.length c0] rfl q2_ ?_; (with_reducible refine (corollaryref13_Of.calls k1 (fun k_ => k_ < w.heap.size) _ _ l0 t336 _ ?side1 A14.out).mono ?_); (case side1 => exact Kd.V_mk HC0.out (Kd.F_below (Kd.C_F (Kd.heap_slice 51 k51_heap) HR0.out) q0_)); rintro e w23 ⟨v337, rfl, ho0, hb⟩; refine ⟨_, rfl, ?_⟩; have n0_ := Aside0.mk (Kd.N_elder' q26_ (Kd.N_base ho0) hb); have n1_ := Aside0.mk (Kd.N_lower (Kd.N_mono (ok' := fun k_ => some k_ ≠ (.slice Ao21 t329.length co21 : Value).ownBlock) ho0 (fun k_ hk_ => Or.elim hk_ (fun hs_ => fun e_ => Nat.not_le.2 hs_ (Kd.N_base HO_3.out k_ e_.symm)) (fun hn_ => (Kd.fresh' (Kd.N_lt q26_) k_ hn_)))) (below_size q0_)); have n2_ := Aside0.mk (below_step q0_ hb); clear HO_3; clear HB; have HO_3 := n0_; have HO338 := n1_; have HB := n2_; clear n0_ n1_ n2_; (try clear hb); (try clear hb2); (try clear hk); (try clear hi); (try clear ho0); obtain ⟨Ao24, co24, eo24⟩ := Kd.N_slice HO338.out; subst eo24) | ((with_reducible refine gate_callee (f := 16) rfl ?_); refine goesL_ (some 37) rfl rfl Tryd.func16 (by kernel_rfl) rfl #[.slice Ao24 t336.length co24, .slice A334_0 (rd_L3 l0 x27_1).length c334_0] rfl q2_ ?_; (with_reducible refine (corollaryref13_N.calls k1 _ _ t336 _ _ (rd_L3 l0 x27_1) t339 _ ?side1 ?side2 ?side3 ?side4 A15.out).mono ?_); (case side1 => repeat (first | exact (Kd.N_reads' HO338.out).2.2 | (with_reducible refine Kd.C_alloc ?_ _) | (with_reducible refine Kd.C_drewN ?_ _) | (with_reducible refine Kd.C_drew ?_))); (case side2 => exact (Kd.N_reads' HO338.out).2.1); (case side3 => repeat (first | exact (Kd.C_below HR334_0.out HB.out) | (with_reducible refine Kd.C_alloc ?_ _) | (with_reducible refine Kd.C_drewN ?_ _) | (with_reducible refine Kd.C_drew ?_))); (case side4 => exact HC334_0.out); rintro e w' ⟨rfl, ⟨nd, rfl⟩⟩; refine ⟨_, rfl, ?_⟩))
         go_ret
         exact ⟨q4_, q0_⟩
       ·rw [if_neg c12] at H
        exact absurd H (by simp)
      ·rw [if_neg c11] at H
       exact absurd H (by simp)
     ·rw [if_neg c10] at H
      have c10b0 : decide (x27_1 < (l0.length : Int)) = false := decide_eq_false c10
      clear c10
      replace H := Option.bind_eq_some_iff.mp H
      obtain ⟨t340, A250, H⟩ := H
      replace H : (if t340 = (l0.length : Int) then ((bag_Whole.f k1 t329).bind fun t341 => (if t341 = true then ((corollarylaw13_awake.f k1).bind fun t342 => (some t342)) else (some false))) else (some false)) = some r := H
      have A25 := Aside0.mk A250
      clear A250
      by_cases c26 : t340 = (l0.length : Int)
      ·rw [if_pos c26] at H
       have c26b0 : (t340 == (l0.length : Int)) = true := beq_iff_eq.mpr c26
       have c26b1 : (t340 != (l0.length : Int)) = false := bne_eq_false_iff_eq.mpr c26
       clear c26
       replace H := Option.bind_eq_some_iff.mp H
       obtain ⟨t341, A270, H⟩ := H
       replace H : (if t341 = true then ((corollarylaw13_awake.f k1).bind fun t342 => (some t342)) else (some false)) = some r := H
       have A27 := Aside0.mk A270
       clear A270
       by_cases c28 : t341 = true
       ·subst c28
        replace H := ifT_ H
        replace H := Option.bind_eq_some_iff.mp H
        obtain ⟨t342, A290, H⟩ := H
        replace H : (some t342) = some r := H
        have A29 := Aside0.mk A290
        clear A290
        obtain rfl := Option.some.inj H
        obtain ⟨Ao30, co30, eo30⟩ := Kd.N_slice HO_3.out
        subst eo30
        go_wp2_with (first | ((with_reducible refine gate_callee (f := 15) rfl ?_); refine goesL_ (some 41) rfl rfl Tryd.func15 (by kernel_rfl) rfl #[.slice Ao30 t329.length co30] rfl q2_ ?_; (with_reducible refine (bag_Size.calls k1 _ _ t329 t340 _ ?side1 ?side2 A25.out q1_).mono ?_); (case side1 => repeat (first | exact (Kd.N_reads' HO_3.out).2.2 | (with_reducible refine Kd.C_alloc ?_ _) | (with_reducible refine Kd.C_drewN ?_ _) | (with_reducible refine Kd.C_drew ?_))); (case side2 => exact (Kd.N_reads' HO_3.out).2.1); rintro e w31 ⟨rfl, hb⟩; refine ⟨_, rfl, ?_⟩; have n0_ := Aside0.mk (Kd.N_below q26_ hb); have n1_ := Aside0.mk (below_step q0_ hb); clear HO_3; clear HB; have HO_3 := n0_; have HB := n1_; clear n0_ n1_; (try clear hb); (try clear hb2); (try clear hk); (try clear hi)) | (go_at_call 13; (with_reducible refine (bag_Whole.calls k1 _ _ t329 true _ ?side1 ?side2 A27.out q1_).mono ?_); (case side1 => repeat (first | exact (Kd.N_reads' HO_3.out).2.2 | (with_reducible refine Kd.C_alloc ?_ _) | (with_reducible refine Kd.C_drewN ?_ _) | (with_reducible refine Kd.C_drew ?_))); (case side2 => exact (Kd.N_reads' HO_3.out).2.1); rintro e w32 ⟨rfl, hb⟩; have n0_ := Aside0.mk (Kd.N_below q26_ hb); have n1_ := Aside0.mk (below_step q0_ hb); clear HO_3; clear HB; have HO_3 := n0_; have HB := n1_; clear n0_ n1_; (try clear hb); (try clear hb2); (try clear hk); (try clear hi)) | (go_at_call 10; (with_reducible refine (corollarylaw13_awake.calls k1  t342 _ A29.out q1_).mono ?_); rintro e w33 ⟨rfl, hb⟩; have n0_ := Aside0.mk (Kd.N_below q26_ hb); have n1_ := Aside0.mk (below_step q0_ hb); clear HO_3; clear HB; have HO_3 := n0_; have HB := n1_; clear n0_ n1_; (try clear hb); (try clear hb2); (try clear hk); (try clear hi)))
        go_ret
        exact ⟨q4_, q0_⟩
       ·replace c28 := Bool.eq_false_iff.mpr c28
        subst c28
        replace H := ifF_ H
        obtain rfl := Option.some.inj H
        obtain ⟨Ao34, co34, eo34⟩ := Kd.N_slice HO_3.out
        subst eo34
        go_wp2_with (first | ((with_reducible refine gate_callee (f := 15) rfl ?_); refine goesL_ (some 41) rfl rfl Tryd.func15 (by kernel_rfl) rfl #[.slice Ao34 t329.length co34] rfl q2_ ?_; (with_reducible refine (bag_Size.calls k1 _ _ t329 t340 _ ?side1 ?side2 A25.out q1_).mono ?_); (case side1 => repeat (first | exact (Kd.N_reads' HO_3.out).2.2 | (with_reducible refine Kd.C_alloc ?_ _) | (with_reducible refine Kd.C_drewN ?_ _) | (with_reducible refine Kd.C_drew ?_))); (case side2 => exact (Kd.N_reads' HO_3.out).2.1); rintro e w35 ⟨rfl, hb⟩; refine ⟨_, rfl, ?_⟩; have n0_ := Aside0.mk (Kd.N_below q26_ hb); have n1_ := Aside0.mk (below_step q0_ hb); clear HO_3; clear HB; have HO_3 := n0_; have HB := n1_; clear n0_ n1_; (try clear hb); (try clear hb2); (try clear hk); (try clear hi)) | (go_at_call 13; (with_reducible refine (bag_Whole.calls k1 _ _ t329 false _ ?side1 ?side2 A27.out q1_).mono ?_); (case side1 => repeat (first | exact (Kd.N_reads' HO_3.out).2.2 | (with_reducible refine Kd.C_alloc ?_ _) | (with_reducible refine Kd.C_drewN ?_ _) | (with_reducible refine Kd.C_drew ?_))); (case side2 => exact (Kd.N_reads' HO_3.out).2.1); rintro e w36 ⟨rfl, hb⟩; have n0_ := Aside0.mk (Kd.N_below q26_ hb); have n1_ := Aside0.mk (below_step q0_ hb); clear HO_3; clear HB; have HO_3 := n0_; have HB := n1_; clear n0_ n1_; (try clear hb); (try clear hb2); (try clear hk); (try clear hi)))
        go_ret
        exact ⟨q4_, q0_⟩
      ·rw [if_neg c26] at H
       have c26b0 : (t340 == (l0.length : Int)) = false := beq_eq_false_iff_ne.mpr c26
       have c26b1 : (t340 != (l0.length : Int)) = true := bne_iff_ne.mpr c26
       obtain rfl := Option.some.inj H
       obtain ⟨Ao37, co37, eo37⟩ := Kd.N_slice HO_3.out
       subst eo37
       go_wp2_with (first | ((with_reducible refine gate_callee (f := 15) rfl ?_); refine goesL_ (some 41) rfl rfl Tryd.func15 (by kernel_rfl) rfl #[.slice Ao37 t329.length co37] rfl q2_ ?_; (with_reducible refine (bag_Size.calls k1 _ _ t329 t340 _ ?side1 ?side2 A25.out q1_).mono ?_); (case side1 => repeat (first | exact (Kd.N_reads' HO_3.out).2.2 | (with_reducible refine Kd.C_alloc ?_ _) | (with_reducible refine Kd.C_drewN ?_ _) | (with_reducible refine Kd.C_drew ?_))); (case side2 => exact (Kd.N_reads' HO_3.out).2.1); rintro e w38 ⟨rfl, hb⟩; refine ⟨_, rfl, ?_⟩; have n0_ := Aside0.mk (Kd.N_below q26_ hb); have n1_ := Aside0.mk (below_step q0_ hb); clear HO_3; clear HB; have HO_3 := n0_; have HB := n1_; clear n0_ n1_; (try clear hb); (try clear hb2); (try clear hk); (try clear hi)))
       go_ret
       exact ⟨q4_, q0_⟩
  ·rw [if_neg c6] at H
   have c6b0 : (t332 == 0) = false := beq_eq_false_iff_ne.mpr c6
   have c6b1 : (t332 != 0) = true := bne_iff_ne.mpr c6
   by_cases c39 : (t329.length : Int) = 0
   ·rw [if_pos c39] at H
    have c39b0 : ((t329.length : Int) == 0) = true := beq_iff_eq.mpr c39
    have c39b1 : ((t329.length : Int) != 0) = false := bne_eq_false_iff_eq.mpr c39
    clear c39
    replace H := Option.bind_eq_some_iff.mp H
    obtain ⟨t333, A400, H⟩ := H
    replace H : (some t333) = some r := H
    have A40 := Aside0.mk A400
    clear A400
    obtain rfl := Option.some.inj H
    go_enter Tryd.func5, Tryd.ntmps5
    go_wp2_with (first | ((with_reducible refine gate_callee (f := 17) rfl ?_); refine goesL_ (some 8) rfl rfl Tryd.func17 (by kernel_rfl) rfl #[.slice A0 l0.length c0] rfl q2_ ?_; (with_reducible refine (corollaryref13_Of.calls k (fun k_ => k_ < w.heap.size) _ _ l0 t324 _ ?side1 A2.out).mono ?_); (case side1 => exact Kd.V_mk HC0.out (Kd.F_below (Kd.C_F (Kd.heap_slice 51 k51_heap) HR0.out) q0_)); rintro e w41 ⟨v325, rfl, ho0, hb⟩; refine ⟨_, rfl, ?_⟩; have n0_ := Aside0.mk (Kd.N_lower (Kd.N_mono (ok' := fun k_ => True) ho0 (fun k_ hk_ => trivial)) (below_size q0_)); have n1_ := Aside0.mk (below_step q0_ hb); clear HB; have HO326 := n0_; have HB := n1_; clear n0_ n1_; (try clear hb); (try clear hb2); (try clear hk); (try clear hi); (try clear ho0); obtain ⟨Ao42, co42, eo42⟩ := Kd.N_slice HO326.out; subst eo42) | ((with_reducible refine gate_callee (f := 9) rfl ?_); refine goesL_ (some 9) rfl rfl Tryd.func9 (by kernel_rfl) rfl #[.slice Ao42 t324.length co42] rfl q2_ ?_; (with_reducible refine (corollaryref13_Small.calls k _ _ t324 true _ ?side1 ?side2 A3.out).mono ?_); (case side1 => repeat (first | exact (Kd.N_reads' HO326.out).2.2 | (with_reducible refine Kd.C_alloc ?_ _) | (with_reducible refine Kd.C_drewN ?_ _) | (with_reducible refine Kd.C_drew ?_))); (case side2 => exact (Kd.N_reads' HO326.out).2.1); rintro e w' ⟨rfl, ⟨nd, rfl⟩⟩; refine ⟨_, rfl, ?_⟩) | ((with_reducible refine gate_callee (f := 20) rfl ?_); refine goesL_ (some 14) rfl rfl Tryd.func20 (by kernel_rfl) rfl #[.slice A0 l0.length c0] rfl q2_ ?_; (with_reducible refine (bag_Of.calls k (fun k_ => k_ < w.heap.size) _ _ l0 t329 t332 _ ?side1 A5.out q1_).mono ?_); (case side1 => exact Kd.V_mk HC0.out (Kd.F_below (Kd.C_F (Kd.heap_slice 51 k51_heap) HR0.out) q0_)); rintro e w43 ⟨v330, rfl, ho0, hb⟩; refine ⟨_, rfl, ?_⟩; have n0_ := Aside0.mk (Kd.N_elder' q34_ (Kd.N_base ho0) hb); have n1_ := Aside0.mk (Kd.N_lower (Kd.N_mono (ok' := fun k_ => some k_ ≠ (.slice Ao42 t324.length co42 : Value).ownBlock) ho0 (fun k_ hk_ => Or.elim hk_ (fun hs_ => fun e_ => Nat.not_le.2 hs_ (Kd.N_base HO326.out k_ e_.symm)) (fun hn_ => (Kd.fresh' (Kd.N_lt q34_) k_ hn_)))) (below_size q0_)); have n2_ := Aside0.mk (below_step q0_ hb); clear HO326; clear HB; have HO326 := n0_; have HO331 := n1_; have HB := n2_; clear n0_ n1_ n2_; (try clear hb); (try clear hb2); (try clear hk); (try clear hi); (try clear ho0); obtain ⟨Ao44, co44, eo44⟩ := Kd.N_slice HO331.out; subst eo44) | (go_at_call 10; (with_reducible refine (corollarylaw13_awake.calls k  t333 _ A40.out q1_).mono ?_); rintro e w45 ⟨rfl, hb⟩; have n0_ := Aside0.mk (Kd.N_below q34_ hb); have n1_ := Aside0.mk (Kd.N_below (by (with_reducible repeat (first | apply Kd.N_alloc | apply Kd.N_drewN | apply Kd.N_drew)); exact HO331.out) hb); have n2_ := Aside0.mk (below_step q0_ hb); clear HO326; clear HO331; clear HB; have HO326 := n0_; have HO331 := n1_; have HB := n2_; clear n0_ n1_ n2_; (try clear hb); (try clear hb2); (try clear hk); (try clear hi)))
    go_ret
    exact ⟨q4_, q0_⟩
   ·rw [if_neg c39] at H
    have c39b0 : ((t329.length : Int) == 0) = false := beq_eq_false_iff_ne.mpr c39
    have c39b1 : ((t329.length : Int) != 0) = true := bne_iff_ne.mpr c39
    have c39b2 : ¬ (t329 = []) := fun h_ => c39 (by rw [h_]; rfl)
    obtain rfl := Option.some.inj H
    go_enter Tryd.func5, Tryd.ntmps5
    go_wp2_with (first | ((with_reducible refine gate_callee (f := 17) rfl ?_); refine goesL_ (some 8) rfl rfl Tryd.func17 (by kernel_rfl) rfl #[.slice A0 l0.length c0] rfl q2_ ?_; (with_reducible refine (corollaryref13_Of.calls k (fun k_ => k_ < w.heap.size) _ _ l0 t324 _ ?side1 A2.out).mono ?_); (case side1 => exact Kd.V_mk HC0.out (Kd.F_below (Kd.C_F (Kd.heap_slice 51 k51_heap) HR0.out) q0_)); rintro e w46 ⟨v325, rfl, ho0, hb⟩; refine ⟨_, rfl, ?_⟩; have n0_ := Aside0.mk (Kd.N_lower (Kd.N_mono (ok' := fun k_ => True) ho0 (fun k_ hk_ => trivial)) (below_size q0_)); have n1_ := Aside0.mk (below_step q0_ hb); clear HB; have HO326 := n0_; have HB := n1_; clear n0_ n1_; (try clear hb); (try clear hb2); (try clear hk); (try clear hi); (try clear ho0); obtain ⟨Ao47, co47, eo47⟩ := Kd.N_slice HO326.out; subst eo47) | ((with_reducible refine gate_callee (f := 9) rfl ?_); refine goesL_ (some 9) rfl rfl Tryd.func9 (by kernel_rfl) rfl #[.slice Ao47 t324.length co47] rfl q2_ ?_; (with_reducible refine (corollaryref13_Small.calls k _ _ t324 true _ ?side1 ?side2 A3.out).mono ?_); (case side1 => repeat (first | exact (Kd.N_reads' HO326.out).2.2 | (with_reducible refine Kd.C_alloc ?_ _) | (with_reducible refine Kd.C_drewN ?_ _) | (with_reducible refine Kd.C_drew ?_))); (case side2 => exact (Kd.N_reads' HO326.out).2.1); rintro e w' ⟨rfl, ⟨nd, rfl⟩⟩; refine ⟨_, rfl, ?_⟩) | ((with_reducible refine gate_callee (f := 20) rfl ?_); refine goesL_ (some 14) rfl rfl Tryd.func20 (by kernel_rfl) rfl #[.slice A0 l0.length c0] rfl q2_ ?_; (with_reducible refine (bag_Of.calls k (fun k_ => k_ < w.heap.size) _ _ l0 t329 t332 _ ?side1 A5.out q1_).mono ?_); (case side1 => exact Kd.V_mk HC0.out (Kd.F_below (Kd.C_F (Kd.heap_slice 51 k51_heap) HR0.out) q0_)); rintro e w48 ⟨v330, rfl, ho0, hb⟩; refine ⟨_, rfl, ?_⟩; have n0_ := Aside0.mk (Kd.N_elder' q34_ (Kd.N_base ho0) hb); have n1_ := Aside0.mk (Kd.N_lower (Kd.N_mono (ok' := fun k_ => some k_ ≠ (.slice Ao47 t324.length co47 : Value).ownBlock) ho0 (fun k_ hk_ => Or.elim hk_ (fun hs_ => fun e_ => Nat.not_le.2 hs_ (Kd.N_base HO326.out k_ e_.symm)) (fun hn_ => (Kd.fresh' (Kd.N_lt q34_) k_ hn_)))) (below_size q0_)); have n2_ := Aside0.mk (below_step q0_ hb); clear HO326; clear HB; have HO326 := n0_; have HO331 := n1_; have HB := n2_; clear n0_ n1_ n2_; (try clear hb); (try clear hb2); (try clear hk); (try clear hi); (try clear ho0); obtain ⟨Ao49, co49, eo49⟩ := Kd.N_slice HO331.out; subst eo49))
    go_ret
    exact ⟨q4_, q0_⟩
 ·replace c4 := Bool.eq_false_iff.mpr c4
  subst c4
  replace H := ifF_ H
  replace H := Option.bind_eq_some_iff.mp H
  obtain ⟨t328, A500, H⟩ := H
  replace H : (some t328) = some r := H
  have A50 := Aside0.mk A500
  clear A500
  obtain rfl := Option.some.inj H
  go_enter Tryd.func5, Tryd.ntmps5
  go_wp2_with (first | ((with_reducible refine gate_callee (f := 17) rfl ?_); refine goesL_ (some 8) rfl rfl Tryd.func17 (by kernel_rfl) rfl #[.slice A0 l0.length c0] rfl q2_ ?_; (with_reducible refine (corollaryref13_Of.calls k (fun k_ => k_ < w.heap.size) _ _ l0 t324 _ ?side1 A2.out).mono ?_); (case side1 => exact Kd.V_mk HC0.out (Kd.F_below (Kd.C_F (Kd.heap_slice 51 k51_heap) HR0.out) q0_)); rintro e w51 ⟨v325, rfl, ho0, hb⟩; refine ⟨_, rfl, ?_⟩; have n0_ := Aside0.mk (Kd.N_lower (Kd.N_mono (ok' := fun k_ => True) ho0 (fun k_ hk_ => trivial)) (below_size q0_)); have n1_ := Aside0.mk (below_step q0_ hb); clear HB; have HO326 := n0_; have HB := n1_; clear n0_ n1_; (try clear hb); (try clear hb2); (try clear hk); (try clear hi); (try clear ho0); obtain ⟨Ao52, co52, eo52⟩ := Kd.N_slice HO326.out; subst eo52) | ((with_reducible refine gate_callee (f := 9) rfl ?_); refine goesL_ (some 9) rfl rfl Tryd.func9 (by kernel_rfl) rfl #[.slice Ao52 t324.length co52] rfl q2_ ?_; (with_reducible refine (corollaryref13_Small.calls k _ _ t324 false _ ?side1 ?side2 A3.out).mono ?_); (case side1 => repeat (first | exact (Kd.N_reads' HO326.out).2.2 | (with_reducible refine Kd.C_alloc ?_ _) | (with_reducible refine Kd.C_drewN ?_ _) | (with_reducible refine Kd.C_drew ?_))); (case side2 => exact (Kd.N_reads' HO326.out).2.1); rintro e w' ⟨rfl, ⟨nd, rfl⟩⟩; refine ⟨_, rfl, ?_⟩) | ((with_reducible refine gate_callee (f := 10) rfl ?_); refine goesL_ (some 11) rfl rfl Tryd.func10 (by kernel_rfl) rfl #[] rfl q2_ ?_; (with_reducible refine (corollarylaw13_awake.calls k  t328 _ A50.out q1_).mono ?_); rintro e w53 ⟨rfl, hb⟩; refine ⟨_, rfl, ?_⟩; have n0_ := Aside0.mk (Kd.N_below q34_ hb); have n1_ := Aside0.mk (below_step q0_ hb); clear HO326; clear HB; have HO326 := n0_; have HB := n1_; clear n0_ n1_; (try clear hb); (try clear hb2); (try clear hk); (try clear hi)))
  go_ret
  exact ⟨q4_, q0_⟩

end Go.Proofs.YtckligjgnbgdiaaDoor.P
