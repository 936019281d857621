-- HALVED
import Derived.Test.YtckligjgnbgdiaaDoorPx0
import Derived.Test.YtckligjgnbgdiaaDoorPx1
import Derived.Test.YtckligjgnbgdiaaDoorPx17
import Derived.Test.YtckligjgnbgdiaaDoorPx19
namespace Go.Proofs.YtckligjgnbgdiaaDoor.P
open Go.RowKit Go.Proofs.YtckligjgnbgdiaaDoorW.PrintWords Go.Proofs.YtckligjgnbgdiaaDoorW.PrintLast Go.Proofs.YtckligjgnbgdiaaDoorW.PrintMore
attribute [local go_sem] max2_int min2_mn max_two min_two max_three min_three max_four min_four   -- for this text's walks alone
set_option linter.unusedVariables false
set_option linter.unusedSimpArgs false
def bag_Whole_1.f (l0_0 : List (S51)) (a0_1 : Int) : Option (Bool) := some (decide (a0_1 < 0))
set_option maxHeartbeats 8000000 in
set_option maxRecDepth 100000 in
theorem bag_Whole_1.calls (A0_0 : Option Addr) (c0_0 : Nat) (l0_0 : List (S51)) (a0_1 : Int) (r : Bool) (w : World) (hr0_0 : Kd.C k51 w A0_0 l0_0.length l0_0) (hc0_0 : l0_0.length ≤ c0_0) (h : bag_Whole_1.f l0_0 a0_1 = some r) :
  Calls Tryd.prog 33 #[.agg #[.slice A0_0 l0_0.length c0_0, .int .i64 a0_1]] w fun e w' => e = .returned (.bool r) ∧ Below w.heap.size w w' := by
 have hu27 := Tryd.underlying27
 have HR0_0 := Aside0.mk hr0_0
 have HC0_0 := Aside0.mk hc0_0
 clear hr0_0 hc0_0
 have HB := Aside0.mk (Below.refl w.heap.size w)
 have H : (some (decide (a0_1 < 0))) = some r := h
 clear h
 obtain rfl := Option.some.inj H
 go_enter Tryd.func33, Tryd.ntmps33
 go_wp2_with (first | ((with_reducible refine gate_dst (N := 1) rfl ?_); refine box_event ?hg (N := 1) ?hd (cs := #[.slice A0_0 l0_0.length c0_0, .int .i64 a0_1]) (t := 27) ?hr ?_; (case hd => rfl); (case hg => rfl); (case hr => first | (go_simp; done) | (go_simp; rfl)); intro gb133 hg w2 hbox hb; have n0_ := Aside0.mk (below_step q0_ hb); have n1_ := Aside0.mk (hbox); have n2_ := Aside0.mk ((q3_ : w.heap.size ≤ gb133)); have n3_ := Aside0.mk ((q3_ : w.heap.size ≤ gb133)); clear HB; have HB := n0_; have BK133 := n1_; have GW133 := n2_; have GE133 := n3_; clear n0_ n1_ n2_ n3_; clear hb hbox hg; have hcz3_0 : w2.cell? ⟨gb133, 0, none⟩ = some (.slice A0_0 l0_0.length c0_0) := (blk_cell BK133.out 0).trans rfl; have hcz3_1 : w2.cell? ⟨gb133, 1, none⟩ = some (.int .i64 a0_1) := (blk_cell BK133.out 1).trans rfl; have hfz3_0 := blk_frozen BK133.out 0; have hfz3_1 := blk_frozen BK133.out 1))
 go_ret
 exact ⟨q4_, q0_⟩
def api_Count_51_at_bag_Whole_1.l0 : Nat → List (S27) → Int → Int → Option (Int)
 | 0, _, _, _ => none
 | k + 1, x0, x7, x8 => if x8 < x7 then (if 0 ≤ x8 then (if x8 < (x0.length : Int) then ((bag_Whole_1.f ((rd_T27 x0 x8).f0) ((rd_T27 x0 x8).f1)).bind fun t135 => (if t135 = true then (some x8) else (api_Count_51_at_bag_Whole_1.l0 k x0 x7 (wrap64 (x8 + 1))))) else (none)) else (none)) else (some (-1))
def api_Count_51_at_bag_Whole_1.f (k : Nat) (l0 : List (S27))  : Option (Int) := api_Count_51_at_bag_Whole_1.l0 k l0 (l0.length : Int) 0
theorem api_Count_51_at_bag_Whole_1.mono_l : ∀ k, (∀ y0 y1 y2, LeO (api_Count_51_at_bag_Whole_1.l0 k y0 y1 y2) (api_Count_51_at_bag_Whole_1.l0 (k + 1) y0 y1 y2))
 | 0 => fun _ _ _ r h => by simp [api_Count_51_at_bag_Whole_1.l0] at h
 | k + 1 => by
  have ih0 := api_Count_51_at_bag_Whole_1.mono_l k
  ·intro y0 y1 y2
   unfold api_Count_51_at_bag_Whole_1.l0
   repeat' first
   | (with_reducible exact ih0 _ _ _)
   | (with_reducible exact LeO.refl _)
   | (with_reducible exact LeO.none _)
   | (with_reducible refine LeO.ite ?_ ?_)
   | (with_reducible refine LeO.bind ?_ (fun _ => ?_))
   | exact ih0 _ _ _
   | exact LeO.none _
   | refine LeO.ite ?_ ?_
   | refine LeO.bind ?_ (fun _ => ?_)
theorem api_Count_51_at_bag_Whole_1.mono : ∀ a0 k, LeO (api_Count_51_at_bag_Whole_1.f k a0) (api_Count_51_at_bag_Whole_1.f (k + 1) a0) := by
 intro a0 k
 have ih0 := api_Count_51_at_bag_Whole_1.mono_l k
 unfold api_Count_51_at_bag_Whole_1.f
 repeat' first
   | (with_reducible exact ih0 _ _ _)
   | (with_reducible exact LeO.refl _)
   | (with_reducible exact LeO.none _)
   | (with_reducible refine LeO.ite ?_ ?_)
   | (with_reducible refine LeO.bind ?_ (fun _ => ?_))
   | exact ih0 _ _ _
   | exact LeO.none _
   | refine LeO.ite ?_ ?_
   | refine LeO.bind ?_ (fun _ => ?_)
set_option maxHeartbeats 8000000 in
set_option maxRecDepth 100000 in
theorem api_Count_51_at_bag_Whole_1.calls (k : Nat) (A0 : Option Addr) (c0 : Nat) (l0 : List (S27))  (r : Int) (w : World) (hr0 : Kd.C k27 w A0 l0.length l0) (hc0 : l0.length ≤ c0) (h : api_Count_51_at_bag_Whole_1.f k l0 = some r) :
  Calls Tryd.prog 51 #[.slice A0 l0.length c0, (.func (.func 33) #[] #[])] w fun e w' => e = .returned (.int .i64 r) ∧ Below w.heap.size w w' := by
 have hu27 := Tryd.underlying27
 have HR0 := Aside0.mk hr0
 have HC0 := Aside0.mk hc0
 clear hr0 hc0
 have HB := Aside0.mk (Below.refl w.heap.size w)
 have H : (api_Count_51_at_bag_Whole_1.l0 k l0 (l0.length : Int) 0) = some r := h
 clear h
 have H' := Aside0.mk H
 clear H
 go_enter Tryd.func51, Tryd.ntmps51
 go_wp2
 go_loopg [8] k (fun kq v8 w' => ∃ (x8_1 : Int), v8 = .int .i64 x8_1 ∧ Aside0 (api_Count_51_at_bag_Whole_1.l0 kq l0 (l0.length : Int) x8_1 = some r) ∧ Aside0 (kq ≤ k) ∧ Aside0 (Below w.heap.size w w'))
 case atStart => exact ⟨(0), q9_, H', ⟨Nat.le_refl _⟩, ⟨q0_⟩⟩
 case round =>
  clear H'
  try clear p2
  obtain ⟨x8_1, rfl, HA, HK1, HB⟩ := hrel
  cases gk with
  | zero => exact absurd HA.out (by simp [api_Count_51_at_bag_Whole_1.l0])
  | succ k1 =>
   have H := HA.out
   clear HA
   simp only [api_Count_51_at_bag_Whole_1.l0] at H
   by_cases c3 : x8_1 < (l0.length : Int)
   ·rw [if_pos c3] at H
    have c3b0 : decide (x8_1 < (l0.length : Int)) = true := decide_eq_true c3
    clear c3
    by_cases c4 : 0 ≤ x8_1
    ·rw [if_pos c4] at H
     have c4b0 : decide (0 ≤ x8_1) = true := decide_eq_true c4
     clear c4
     by_cases c5 : x8_1 < (l0.length : Int)
     ·rw [if_pos c5] at H
      have c5b0 : decide (x8_1 < (l0.length : Int)) = true := decide_eq_true c5
      clear c5
      replace H := Option.bind_eq_some_iff.mp H
      obtain ⟨t135, A60, H⟩ := H
      replace H : (if t135 = true then (some x8_1) else (api_Count_51_at_bag_Whole_1.l0 k1 l0 (l0.length : Int) (wrap64 (x8_1 + 1)))) = some r := H
      have A6 := Aside0.mk A60
      clear A60
      by_cases c7 : t135 = true
      ·subst c7
       replace H := ifT_ H
       obtain rfl := Option.some.inj H
       have p134 : 0 ≤ (x8_1 : Int) := of_decide_eq_true q5_
       have q134 : x8_1 < (l0.length : Int) := of_decide_eq_true q5_
       obtain ⟨ad134, A134_0, c134_0, e134, hx134_0, hx134_1, hl134_0, hi134_0⟩ := at_T27 HR0.out x8_1 p134 q134
       cases e134
       replace hx134_0 := (HB.out.cell (World.block_lt_of_cell? w _ hx134_0)).trans hx134_0
       replace hx134_1 := (HB.out.cell (World.block_lt_of_cell? w _ hx134_1)).trans hx134_1
       have HR134_0 := Aside0.mk hi134_0
       have HC134_0 := Aside0.mk hl134_0
       clear hi134_0 hl134_0
       replace p134 := eq_true p134
       replace q134 := eq_true q134
       go_wp2_with (first | ((with_reducible refine gate_calleeT (t := 11) rfl ?_); refine goesTL_ (some 16) rfl rfl Tryd.func33 (by kernel_rfl) rfl #[.agg #[.slice A134_0 ((rd_T27 l0 x8_1).f0).length c134_0, .int .i64 ((rd_T27 l0 x8_1).f1)]] rfl (by rfl) q2_ ?_; (with_reducible refine (bag_Whole_1.calls _ _ ((rd_T27 l0 x8_1).f0) ((rd_T27 l0 x8_1).f1) true _ ?side1 ?side2 A6.out).mono ?_); (case side1 => repeat (first | exact (Kd.C_below HR134_0.out HB.out) | (with_reducible refine Kd.C_alloc ?_ _) | (with_reducible refine Kd.C_drewN ?_ _) | (with_reducible refine Kd.C_drew ?_))); (case side2 => exact HC134_0.out); rintro e w8 ⟨rfl, hb⟩; refine ⟨_, rfl, ?_⟩; have n0_ := Aside0.mk (below_step q0_ hb); clear HB; have HB := n0_; clear n0_; (try clear hb); (try clear hb2); (try clear hk); (try clear hi)))
       go_ret
       exact ⟨q4_, q0_⟩
      ·replace c7 := Bool.eq_false_iff.mpr c7
       subst c7
       replace H := ifF_ H
       have H' := Aside0.mk H
       clear H
       have p134 : 0 ≤ (x8_1 : Int) := of_decide_eq_true q5_
       have q134 : x8_1 < (l0.length : Int) := of_decide_eq_true q5_
       obtain ⟨ad134, A134_0, c134_0, e134, hx134_0, hx134_1, hl134_0, hi134_0⟩ := at_T27 HR0.out x8_1 p134 q134
       cases e134
       replace hx134_0 := (HB.out.cell (World.block_lt_of_cell? w _ hx134_0)).trans hx134_0
       replace hx134_1 := (HB.out.cell (World.block_lt_of_cell? w _ hx134_1)).trans hx134_1
       have HR134_0 := Aside0.mk hi134_0
       have HC134_0 := Aside0.mk hl134_0
       clear hi134_0 hl134_0
       replace p134 := eq_true p134
       replace q134 := eq_true q134
       go_wp2_with (first | ((with_reducible refine gate_calleeT (t := 11) rfl ?_); refine goesTL_ (some 16) rfl rfl Tryd.func33 (by kernel_rfl) rfl #[.agg #[.slice A134_0 ((rd_T27 l0 x8_1).f0).length c134_0, .int .i64 ((rd_T27 l0 x8_1).f1)]] rfl (by rfl) q2_ ?_; (with_reducible refine (bag_Whole_1.calls _ _ ((rd_T27 l0 x8_1).f0) ((rd_T27 l0 x8_1).f1) false _ ?side1 ?side2 A6.out).mono ?_); (case side1 => repeat (first | exact (Kd.C_below HR134_0.out HB.out) | (with_reducible refine Kd.C_alloc ?_ _) | (with_reducible refine Kd.C_drewN ?_ _) | (with_reducible refine Kd.C_drew ?_))); (case side2 => exact HC134_0.out); rintro e w9 ⟨rfl, hb⟩; refine ⟨_, rfl, ?_⟩; have n0_ := Aside0.mk (below_step q0_ hb); clear HB; have HB := n0_; clear n0_; (try clear hb); (try clear hb2); (try clear hk); (try clear hi)))
       go_roundg k1
       case measure => have := HK1.out; omega
       case rel => exact ⟨(wrap64 (x8_1 + 1)), q9_, H', ⟨by have := HK1.out; omega⟩, ⟨q0_⟩⟩
     ·rw [if_neg c5] at H
      exact absurd H (by simp)
    ·rw [if_neg c4] at H
     exact absurd H (by simp)
   ·rw [if_neg c3] at H
    have c3b0 : decide (x8_1 < (l0.length : Int)) = false := decide_eq_false c3
    clear c3
    obtain rfl := Option.some.inj H
    go_wp2
    go_ret
    exact ⟨q4_, q0_⟩
def api_Count_32_at_bag_Whole_1.f (k : Nat) (l0 : List (S27))  : Option (Bool) := (api_Count_51_at_bag_Whole_1.f k l0).bind fun t136 => (some (decide (t136 ≥ 0)))
theorem api_Count_32_at_bag_Whole_1.mono : ∀ a0 k, LeO (api_Count_32_at_bag_Whole_1.f k a0) (api_Count_32_at_bag_Whole_1.f (k + 1) a0) := by
 intro a0 k
 unfold api_Count_32_at_bag_Whole_1.f
 repeat' first
   | (with_reducible exact api_Count_51_at_bag_Whole_1.mono _ _)
   | (with_reducible exact LeO.refl _)
   | (with_reducible exact LeO.none _)
   | (with_reducible refine LeO.ite ?_ ?_)
   | (with_reducible refine LeO.bind ?_ (fun _ => ?_))
   | exact api_Count_51_at_bag_Whole_1.mono _ _
   | exact LeO.none _
   | refine LeO.ite ?_ ?_
   | refine LeO.bind ?_ (fun _ => ?_)
set_option maxHeartbeats 8000000 in
set_option maxRecDepth 100000 in
theorem api_Count_32_at_bag_Whole_1.calls (k : Nat) (A0 : Option Addr) (c0 : Nat) (l0 : List (S27))  (r : Bool) (w : World) (hr0 : Kd.C k27 w A0 l0.length l0) (hc0 : l0.length ≤ c0) (h : api_Count_32_at_bag_Whole_1.f k l0 = some r) :
  Calls Tryd.prog 32 #[.slice A0 l0.length c0, (.func (.func 33) #[] #[])] w fun e w' => e = .returned (.bool r) ∧ Below w.heap.size w w' := by
 have HR0 := Aside0.mk hr0
 have HC0 := Aside0.mk hc0
 clear hr0 hc0
 have HB := Aside0.mk (Below.refl w.heap.size w)
 have H : ((api_Count_51_at_bag_Whole_1.f k l0).bind fun t136 => (some (decide (t136 ≥ 0)))) = some r := h
 clear h
 replace H := Option.bind_eq_some_iff.mp H
 obtain ⟨t136, A30, H⟩ := H
 replace H : (some (decide (t136 ≥ 0))) = some r := H
 have A3 := Aside0.mk A30
 clear A30
 obtain rfl := Option.some.inj H
 go_enter Tryd.func32, Tryd.ntmps32
 go_wp2_with (first | ((with_reducible refine gate_callee (f := 51) rfl ?_); refine goesL_ (some 7) rfl rfl Tryd.func51 (by kernel_rfl) rfl #[.slice A0 l0.length c0, (.func (.func 33) #[] #[])] rfl q2_ ?_; (with_reducible refine (api_Count_51_at_bag_Whole_1.calls k _ _ l0  t136 _ ?side1 ?side2 A3.out).mono ?_); (case side1 => repeat (first | exact HR0.out | (with_reducible refine Kd.C_alloc ?_ _) | (with_reducible refine Kd.C_drewN ?_ _) | (with_reducible refine Kd.C_drew ?_))); (case side2 => exact HC0.out); rintro e w4 ⟨rfl, hb⟩; refine ⟨_, rfl, ?_⟩; have n0_ := Aside0.mk (below_step q0_ hb); clear HB; have HB := n0_; clear n0_; (try clear hb); (try clear hb2); (try clear hk); (try clear hi)))
 go_ret
 exact ⟨q4_, q0_⟩
def bag_Whole.f (k : Nat) (l0 : List (S27)) : Option (Bool) := (bag_Right.f k l0).bind fun t137 => (if t137 = true then ((api_Count_32_at_bag_Whole_1.f k l0).bind fun t138 => (some (!t138))) else (some false))
theorem bag_Whole.mono : ∀ a0 k, LeO (bag_Whole.f k a0) (bag_Whole.f (k + 1) a0) := by
 intro a0 k
 unfold bag_Whole.f
 repeat' first
   | (with_reducible exact api_Count_32_at_bag_Whole_1.mono _ _)
   | (with_reducible exact bag_Right.mono _ _)
   | (with_reducible exact LeO.refl _)
   | (with_reducible exact LeO.none _)
   | (with_reducible refine LeO.ite ?_ ?_)
   | (with_reducible refine LeO.bind ?_ (fun _ => ?_))
   | exact api_Count_32_at_bag_Whole_1.mono _ _
   | exact bag_Right.mono _ _
   | exact LeO.none _
   | refine LeO.ite ?_ ?_
   | refine LeO.bind ?_ (fun _ => ?_)
set_option maxHeartbeats 8000000 in
set_option maxRecDepth 100000 in
theorem bag_Whole.calls (k : Nat) (A0 : Option Addr) (c0 : Nat) (l0 : List (S27)) (r : Bool) (w : World) (hr0 : Kd.C k27 w A0 l0.length l0) (hc0 : l0.length ≤ c0) (h : bag_Whole.f k l0 = some r) (hG : Glob w) :
  Calls Tryd.prog 13 #[.slice A0 l0.length c0] w fun e w' => e = .returned (.bool r) ∧ Below w.heap.size w w' := by
 have HG := Aside0.mk hG
 clear hG
 have HR0 := Aside0.mk hr0
 have HC0 := Aside0.mk hc0
 clear hr0 hc0
 have HB := Aside0.mk (Below.refl w.heap.size w)
 have H : ((bag_Right.f k l0).bind fun t137 => (if t137 = true then ((api_Count_32_at_bag_Whole_1.f k l0).bind fun t138 => (some (!t138))) else (some false))) = some r := h
 clear h
 replace H := Option.bind_eq_some_iff.mp H
 obtain ⟨t137, A20, H⟩ := H
 replace H : (if t137 = true then ((api_Count_32_at_bag_Whole_1.f k l0).bind fun t138 => (some (!t138))) else (some false)) = some r := H
 have A2 := Aside0.mk A20
 clear A20
 by_cases c3 : t137 = true
 ·subst c3
  replace H := ifT_ H
  replace H := Option.bind_eq_some_iff.mp H
  obtain ⟨t138, A40, H⟩ := H
  replace H : (some (!t138)) = some r := H
  have A4 := Aside0.mk A40
  clear A40
  obtain rfl := Option.some.inj H
  go_enter Tryd.func13, Tryd.ntmps13
  go_wp2_with (first | ((with_reducible refine gate_callee (f := 12) rfl ?_); refine goesL_ (some 4) rfl rfl Tryd.func12 (by kernel_rfl) rfl #[.slice A0 l0.length c0] rfl q2_ ?_; (with_reducible refine (bag_Right.calls k _ _ l0 true _ ?side1 ?side2 A2.out q1_).mono ?_); (case side1 => repeat (first | exact HR0.out | (with_reducible refine Kd.C_alloc ?_ _) | (with_reducible refine Kd.C_drewN ?_ _) | (with_reducible refine Kd.C_drew ?_))); (case side2 => exact HC0.out); rintro e w5 ⟨rfl, hb⟩; refine ⟨_, rfl, ?_⟩; have n0_ := Aside0.mk (below_step q0_ hb); clear HB; have HB := n0_; clear n0_; (try clear hb); (try clear hb2); (try clear hk); (try clear hi)) | (go_at_call 32; (with_reducible refine (api_Count_32_at_bag_Whole_1.calls k _ _ l0  t138 _ ?side1 ?side2 A4.out).mono ?_); (case side1 => repeat (first | exact (Kd.C_below HR0.out HB.out) | (with_reducible refine Kd.C_alloc ?_ _) | (with_reducible refine Kd.C_drewN ?_ _) | (with_reducible refine Kd.C_drew ?_))); (case side2 => exact HC0.out); rintro e w6 ⟨rfl, hb⟩; have n0_ := Aside0.mk (below_step q0_ hb); clear HB; have HB := n0_; clear n0_; (try clear hb); (try clear hb2); (try clear hk); (try clear hi)))
  go_ret
  exact ⟨q4_, q0_⟩
 ·replace c3 := Bool.eq_false_iff.mpr c3
  subst c3
  replace H := ifF_ H
  obtain rfl := Option.some.inj H
  go_enter Tryd.func13, Tryd.ntmps13
  go_wp2_with (first | ((with_reducible refine gate_callee (f := 12) rfl ?_); refine goesL_ (some 4) rfl rfl Tryd.func12 (by kernel_rfl) rfl #[.slice A0 l0.length c0] rfl q2_ ?_; (with_reducible refine (bag_Right.calls k _ _ l0 false _ ?side1 ?side2 A2.out q1_).mono ?_); (case side1 => repeat (first | exact HR0.out | (with_reducible refine Kd.C_alloc ?_ _) | (with_reducible refine Kd.C_drewN ?_ _) | (with_reducible refine Kd.C_drew ?_))); (case side2 => exact HC0.out); rintro e w7 ⟨rfl, hb⟩; refine ⟨_, rfl, ?_⟩; have n0_ := Aside0.mk (below_step q0_ hb); clear HB; have HB := n0_; clear n0_; (try clear hb); (try clear hb2); (try clear hk); (try clear hi)))
  go_ret
  exact ⟨q4_, q0_⟩
def bag_N_1.f (k : Nat) (l0_0 : List (S51)) (a0_1 : Int) (l1 : List (S51)) : Option (Int) := (value_Rows.f k l0_0 l1).bind fun t140 => (some t140)
theorem bag_N_1.mono : ∀ a0 a1 a2 k, LeO (bag_N_1.f k a0 a1 a2) (bag_N_1.f (k + 1) a0 a1 a2) := by
 intro a0 a1 a2 k
 unfold bag_N_1.f
 repeat' first
   | (with_reducible exact value_Rows.mono _ _ _)
   | (with_reducible exact LeO.refl _)
   | (with_reducible exact LeO.none _)
   | (with_reducible refine LeO.ite ?_ ?_)
   | (with_reducible refine LeO.bind ?_ (fun _ => ?_))
   | exact value_Rows.mono _ _ _
   | exact LeO.none _
   | refine LeO.ite ?_ ?_
   | refine LeO.bind ?_ (fun _ => ?_)
set_option maxHeartbeats 8000000 in
set_option maxRecDepth 100000 in
theorem bag_N_1.calls (k : Nat) (A0_0 : Option Addr) (c0_0 : Nat) (l0_0 : List (S51)) (a0_1 : Int) (A1 : Option Addr) (c1 : Nat) (l1 : List (S51)) (r : Int) (w : World) (hr0_0 : Kd.C k51 w A0_0 l0_0.length l0_0) (hc0_0 : l0_0.length ≤ c0_0) (hr1 : Kd.C k51 w A1 l1.length l1) (hc1 : l1.length ≤ c1) (h : bag_N_1.f k l0_0 a0_1 l1 = some r) :
  Calls Tryd.prog 35 #[.agg #[.slice A0_0 l0_0.length c0_0, .int .i64 a0_1], .slice A1 l1.length c1] w fun e w' => e = .returned (.int .i64 r) ∧ Below w.heap.size w w' := by
 have hu27 := Tryd.underlying27
 have HR0_0 := Aside0.mk hr0_0
 have HC0_0 := Aside0.mk hc0_0
 clear hr0_0 hc0_0
 have HR1 := Aside0.mk hr1
 have HC1 := Aside0.mk hc1
 clear hr1 hc1
 have HB := Aside0.mk (Below.refl w.heap.size w)
 have H : ((value_Rows.f k l0_0 l1).bind fun t140 => (some t140)) = some r := h
 clear h
 replace H := Option.bind_eq_some_iff.mp H
 obtain ⟨t140, A30, H⟩ := H
 replace H : (some t140) = some r := H
 have A3 := Aside0.mk A30
 clear A30
 obtain rfl := Option.some.inj H
 go_enter Tryd.func35, Tryd.ntmps35
 go_wp2_with (first | ((with_reducible refine gate_dst (N := 2) rfl ?_); refine box_event ?hg (N := 2) ?hd (cs := #[.slice A0_0 l0_0.length c0_0, .int .i64 a0_1]) (t := 27) ?hr ?_; (case hd => rfl); (case hg => rfl); (case hr => first | (go_simp; done) | (go_simp; rfl)); intro gb139 hg w4 hbox hb; have n0_ := Aside0.mk (below_step q0_ hb); have n1_ := Aside0.mk (hbox); have n2_ := Aside0.mk ((q3_ : w.heap.size ≤ gb139)); have n3_ := Aside0.mk ((q3_ : w.heap.size ≤ gb139)); clear HB; have HB := n0_; have BK139 := n1_; have GW139 := n2_; have GE139 := n3_; clear n0_ n1_ n2_ n3_; clear hb hbox hg; have hcz5_0 : w4.cell? ⟨gb139, 0, none⟩ = some (.slice A0_0 l0_0.length c0_0) := (blk_cell BK139.out 0).trans rfl; have hcz5_1 : w4.cell? ⟨gb139, 1, none⟩ = some (.int .i64 a0_1) := (blk_cell BK139.out 1).trans rfl; have hfz5_0 := blk_frozen BK139.out 0; have hfz5_1 := blk_frozen BK139.out 1) | ((with_reducible refine gate_callee (f := 31) rfl ?_); refine goesL_ (some 8) rfl rfl Tryd.func31 (by kernel_rfl) rfl #[.slice A0_0 l0_0.length c0_0, .slice A1 l1.length c1] rfl q2_ ?_; (with_reducible refine (value_Rows.calls k _ _ l0_0 _ _ l1 t140 _ ?side1 ?side2 ?side3 ?side4 A3.out).mono ?_); (case side1 => repeat (first | exact (Kd.C_below HR0_0.out HB.out) | (with_reducible refine Kd.C_alloc ?_ _) | (with_reducible refine Kd.C_drewN ?_ _) | (with_reducible refine Kd.C_drew ?_))); (case side2 => exact HC0_0.out); (case side3 => repeat (first | exact (Kd.C_below HR1.out HB.out) | (with_reducible refine Kd.C_alloc ?_ _) | (with_reducible refine Kd.C_drewN ?_ _) | (with_reducible refine Kd.C_drew ?_))); (case side4 => exact HC1.out); rintro e w6 ⟨rfl, hb⟩; refine ⟨_, rfl, ?_⟩; have n0_ := Aside0.mk (blk_below (g := gb139) (o := .cells #[.slice A0_0 l0_0.length c0_0, .int .i64 a0_1] 27 (0, 0)) (by (with_reducible repeat first | apply bN_ | apply bD_ | apply bA_); exact BK139.out) hb); have n1_ := Aside0.mk (below_step q0_ hb); clear BK139; clear HB; have BK139 := n0_; have HB := n1_; clear n0_ n1_; (try clear hb); (try clear hb2); (try clear hk); (try clear hi)))
 go_ret
 exact ⟨q4_, q0_⟩
def api_Value_34_at_bag_N_1.l0 : Nat → List (S27) → List (S51) → Int → Int → Int → Option (Int × Bool)
 | 0, _, _, _, _, _ => none
 | k + 1, x0, x1, x8, x9, x10 => if x9 < x10 then (if 0 ≤ (wrap64 ((IntKind.u64.wrap (wrap64 (x9 + x10))) / 2)) then (if (wrap64 ((IntKind.u64.wrap (wrap64 (x9 + x10))) / 2)) < (x0.length : Int) then ((bag_N_1.f k ((rd_T27 x0 (wrap64 ((IntKind.u64.wrap (wrap64 (x9 + x10))) / 2))).f0) ((rd_T27 x0 (wrap64 ((IntKind.u64.wrap (wrap64 (x9 + x10))) / 2))).f1) x1).bind fun t144 => (if t144 < 0 then (api_Value_34_at_bag_N_1.l0 k x0 x1 x8 (wrap64 ((wrap64 ((IntKind.u64.wrap (wrap64 (x9 + x10))) / 2)) + 1)) x10) else (api_Value_34_at_bag_N_1.l0 k x0 x1 x8 x9 (wrap64 ((IntKind.u64.wrap (wrap64 (x9 + x10))) / 2))))) else (none)) else (none)) else (if x9 < x8 then (if 0 ≤ x9 then (if x9 < (x0.length : Int) then ((bag_N_1.f k ((rd_T27 x0 x9).f0) ((rd_T27 x0 x9).f1) x1).bind fun t142 => (some (x9, (t142 == 0)))) else (none)) else (none)) else (some (x9, false)))
def api_Value_34_at_bag_N_1.f (k : Nat) (l0 : List (S27)) (l1 : List (S51))  : Option (Int × Bool) := api_Value_34_at_bag_N_1.l0 k l0 l1 (l0.length : Int) 0 (l0.length : Int)
theorem api_Value_34_at_bag_N_1.mono_l : ∀ k, (∀ y0 y1 y2 y3 y4, LeO (api_Value_34_at_bag_N_1.l0 k y0 y1 y2 y3 y4) (api_Value_34_at_bag_N_1.l0 (k + 1) y0 y1 y2 y3 y4))
 | 0 => fun _ _ _ _ _ r h => by simp [api_Value_34_at_bag_N_1.l0] at h
 | k + 1 => by
  have ih0 := api_Value_34_at_bag_N_1.mono_l k
  ·intro y0 y1 y2 y3 y4
   unfold api_Value_34_at_bag_N_1.l0
   repeat' first
   | (with_reducible exact ih0 _ _ _ _ _)
   | (with_reducible exact bag_N_1.mono _ _ _ _)
   | (with_reducible exact LeO.refl _)
   | (with_reducible exact LeO.none _)
   | (with_reducible refine LeO.ite ?_ ?_)
   | (with_reducible refine LeO.bind ?_ (fun _ => ?_))
   | exact ih0 _ _ _ _ _
   | exact bag_N_1.mono _ _ _ _
   | exact LeO.none _
   | refine LeO.ite ?_ ?_
   | refine LeO.bind ?_ (fun _ => ?_)
theorem api_Value_34_at_bag_N_1.mono : ∀ a0 a1 k, LeO (api_Value_34_at_bag_N_1.f k a0 a1) (api_Value_34_at_bag_N_1.f (k + 1) a0 a1) := by
 intro a0 a1 k
 have ih0 := api_Value_34_at_bag_N_1.mono_l k
 unfold api_Value_34_at_bag_N_1.f
 repeat' first
   | (with_reducible exact ih0 _ _ _ _ _)
   | (with_reducible exact bag_N_1.mono _ _ _ _)
   | (with_reducible exact LeO.refl _)
   | (with_reducible exact LeO.none _)
   | (with_reducible refine LeO.ite ?_ ?_)
   | (with_reducible refine LeO.bind ?_ (fun _ => ?_))
   | exact ih0 _ _ _ _ _
   | exact bag_N_1.mono _ _ _ _
   | exact LeO.none _
   | refine LeO.ite ?_ ?_
   | refine LeO.bind ?_ (fun _ => ?_)
set_option maxHeartbeats 8000000 in
set_option maxRecDepth 100000 in
theorem api_Value_34_at_bag_N_1.calls (k : Nat) (A0 : Option Addr) (c0 : Nat) (l0 : List (S27)) (A1 : Option Addr) (c1 : Nat) (l1 : List (S51))  (r1 : Int) (r2 : Bool) (w : World) (hr0 : Kd.C k27 w A0 l0.length l0) (hc0 : l0.length ≤ c0) (hr1 : Kd.C k51 w A1 l1.length l1) (hc1 : l1.length ≤ c1) (h : api_Value_34_at_bag_N_1.f k l0 l1 = some (r1, r2)) :
  Calls Tryd.prog 34 #[.slice A0 l0.length c0, .slice A1 l1.length c1, (.func (.func 35) #[] #[])] w fun e w' => e = .returned (.tuple #[.int .i64 r1, .bool r2]) ∧ Below w.heap.size w w' := by
 have hu27 := Tryd.underlying27
 have HR0 := Aside0.mk hr0
 have HC0 := Aside0.mk hc0
 clear hr0 hc0
 have HR1 := Aside0.mk hr1
 have HC1 := Aside0.mk hc1
 clear hr1 hc1
 have HB := Aside0.mk (Below.refl w.heap.size w)
 have H : (api_Value_34_at_bag_N_1.l0 k l0 l1 (l0.length : Int) 0 (l0.length : Int)) = some (r1, r2) := h
 clear h
 have H' := Aside0.mk H
 clear H
 go_enter Tryd.func34, Tryd.ntmps34
 go_wp2
 go_loopg [9, 10] k (fun kq v9 v10 w' => ∃ (x9_1 : Int) (x10_1 : Int), v9 = .int .i64 x9_1 ∧ v10 = .int .i64 x10_1 ∧ Aside0 (api_Value_34_at_bag_N_1.l0 kq l0 l1 (l0.length : Int) x9_1 x10_1 = some (r1, r2)) ∧ Aside0 (kq ≤ k) ∧ Aside0 (Below w.heap.size w w'))
 case atStart => exact ⟨(0), ((l0.length : Int)), q9_, q9_, H', ⟨Nat.le_refl _⟩, ⟨q0_⟩⟩
 case round =>
  clear H'
  try clear c1
  try clear p2
  try clear c3
  obtain ⟨x9_1, x10_1, rfl, rfl, HA, HK1, HB⟩ := hrel
  cases gk with
  | zero => exact absurd HA.out (by simp [api_Value_34_at_bag_N_1.l0])
  | succ k1 =>
   have H := HA.out
   clear HA
   simp only [api_Value_34_at_bag_N_1.l0] at H
   by_cases c4 : x9_1 < x10_1
   ·rw [if_pos c4] at H
    have c4b0 : decide (x9_1 < x10_1) = true := decide_eq_true c4
    clear c4
    obtain ⟨ji5, hji5⟩ : ∃ j_ : Int, (wrap64 ((IntKind.u64.wrap (wrap64 (x9_1 + x10_1))) / 2)) = j_ := ⟨_, rfl⟩
    replace H : (if 0 ≤ (ji5) then (if (ji5) < (l0.length : Int) then ((bag_N_1.f k1 ((rd_T27 l0 (ji5)).f0) ((rd_T27 l0 (ji5)).f1) l1).bind fun t144 => (if t144 < 0 then (api_Value_34_at_bag_N_1.l0 k1 l0 l1 (l0.length : Int) (wrap64 ((ji5) + 1)) x10_1) else (api_Value_34_at_bag_N_1.l0 k1 l0 l1 (l0.length : Int) x9_1 ji5))) else (none)) else (none)) = some (r1, r2) := by first | (rw [hji5] at H; exact H) | (simp only [hji5] at H ⊢; exact H)
    have hji5w : (IntKind.i64.wrap ((IntKind.u64.wrap (wrap64 (x9_1 + x10_1))) / 2)) = ji5 := (i64_w _).trans hji5
    by_cases c6 : 0 ≤ (ji5)
    ·rw [if_pos c6] at H
     have c6b0 : decide (0 ≤ (ji5)) = true := decide_eq_true c6
     clear c6
     by_cases c7 : (ji5) < (l0.length : Int)
     ·rw [if_pos c7] at H
      have c7b0 : decide ((ji5) < (l0.length : Int)) = true := decide_eq_true c7
      clear c7
      replace H := Option.bind_eq_some_iff.mp H
      obtain ⟨t144, A80, H⟩ := H
      replace H : (if t144 < 0 then (api_Value_34_at_bag_N_1.l0 k1 l0 l1 (l0.length : Int) (wrap64 ((ji5) + 1)) x10_1) else (api_Value_34_at_bag_N_1.l0 k1 l0 l1 (l0.length : Int) x9_1 ji5)) = some (r1, r2) := H
      have A8 := Aside0.mk A80
      clear A80
      by_cases c9 : t144 < 0
      ·rw [if_pos c9] at H
       have c9b0 : decide (t144 < 0) = true := decide_eq_true c9
       clear c9
       have H' := Aside0.mk H
       clear H
       have p143 : 0 ≤ ((ji5) : Int) := of_decide_eq_true q5_
       have q143 : (ji5) < (l0.length : Int) := of_decide_eq_true q5_
       obtain ⟨ad143, A143_0, c143_0, e143, hx143_0, hx143_1, hl143_0, hi143_0⟩ := at_T27 HR0.out (ji5) p143 q143
       cases e143
       replace hx143_0 := (HB.out.cell (World.block_lt_of_cell? w _ hx143_0)).trans hx143_0
       replace hx143_1 := (HB.out.cell (World.block_lt_of_cell? w _ hx143_1)).trans hx143_1
       have HR143_0 := Aside0.mk hi143_0
       have HC143_0 := Aside0.mk hl143_0
       clear hi143_0 hl143_0
       replace p143 := eq_true p143
       replace q143 := eq_true q143
       go_wp2_with (first | ((with_reducible refine gate_calleeT (t := 24) rfl ?_); refine goesTL_ (some 30) rfl rfl Tryd.func35 (by kernel_rfl) rfl #[.agg #[.slice A143_0 ((rd_T27 l0 (ji5)).f0).length c143_0, .int .i64 ((rd_T27 l0 (ji5)).f1)], .slice A1 l1.length c1] rfl (by rfl) (by (try simp only [List.map_toArray, List.map_cons, List.map_nil]); first | done | (simp only [hji5]; rfl) | rfl | (simp only [List.length_drop, List.length_take]; rfl)) ?_; (with_reducible refine (bag_N_1.calls k1 _ _ ((rd_T27 l0 (ji5)).f0) ((rd_T27 l0 (ji5)).f1) _ _ l1 t144 _ ?side1 ?side2 ?side3 ?side4 A8.out).mono ?_); (case side1 => repeat (first | exact (Kd.C_below HR143_0.out HB.out) | (with_reducible refine Kd.C_alloc ?_ _) | (with_reducible refine Kd.C_drewN ?_ _) | (with_reducible refine Kd.C_drew ?_))); (case side2 => exact HC143_0.out); (case side3 => repeat (first | exact (Kd.C_below HR1.out HB.out) | (with_reducible refine Kd.C_alloc ?_ _) | (with_reducible refine Kd.C_drewN ?_ _) | (with_reducible refine Kd.C_drew ?_))); (case side4 => exact HC1.out); rintro e w10 ⟨rfl, hb⟩; refine ⟨_, rfl, ?_⟩; have n0_ := Aside0.mk (below_step q0_ hb); clear HB; have HB := n0_; clear n0_; (try clear hb); (try clear hb2); (try clear hk); (try clear hi)))
       go_roundg k1
       case measure => have := HK1.out; omega
       case rel => exact ⟨(wrap64 ((ji5) + 1)), (x10_1), (by first | rfl | (simp; done) | (simp only [← hji5] <;> (first | rfl | simp)) | (simp [*]; done)), q9_, H', ⟨by have := HK1.out; omega⟩, ⟨q0_⟩⟩
      ·rw [if_neg c9] at H
       have c9b0 : decide (t144 < 0) = false := decide_eq_false c9
       clear c9
       have H' := Aside0.mk H
       clear H
       have p143 : 0 ≤ ((ji5) : Int) := of_decide_eq_true q5_
       have q143 : (ji5) < (l0.length : Int) := of_decide_eq_true q5_
       obtain ⟨ad143, A143_0, c143_0, e143, hx143_0, hx143_1, hl143_0, hi143_0⟩ := at_T27 HR0.out (ji5) p143 q143
       cases e143
       replace hx143_0 := (HB.out.cell (World.block_lt_of_cell? w _ hx143_0)).trans hx143_0
       replace hx143_1 := (HB.out.cell (World.block_lt_of_cell? w _ hx143_1)).trans hx143_1
       have HR143_0 := Aside0.mk hi143_0
       have HC143_0 := Aside0.mk hl143_0
       clear hi143_0 hl143_0
       replace p143 := eq_true p143
       replace q143 := eq_true q143
       go_wp2_with (first | ((with_reducible refine gate_calleeT (t := 24) rfl ?_); refine goesTL_ (some 30) rfl rfl Tryd.func35 (by kernel_rfl) rfl #[.agg #[.slice A143_0 ((rd_T27 l0 (ji5)).f0).length c143_0, .int .i64 ((rd_T27 l0 (ji5)).f1)], .slice A1 l1.length c1] rfl (by rfl) (by (try simp only [List.map_toArray, List.map_cons, List.map_nil]); first | done | (simp only [hji5]; rfl) | rfl | (simp only [List.length_drop, List.length_take]; rfl)) ?_; (with_reducible refine (bag_N_1.calls k1 _ _ ((rd_T27 l0 (ji5)).f0) ((rd_T27 l0 (ji5)).f1) _ _ l1 t144 _ ?side1 ?side2 ?side3 ?side4 A8.out).mono ?_); (case side1 => repeat (first | exact (Kd.C_below HR143_0.out HB.out) | (with_reducible refine Kd.C_alloc ?_ _) | (with_reducible refine Kd.C_drewN ?_ _) | (with_reducible refine Kd.C_drew ?_))); (case side2 => exact HC143_0.out); (case side3 => repeat (first | exact (Kd.C_below HR1.out HB.out) | (with_reducible refine Kd.C_alloc ?_ _) | (with_reducible refine Kd.C_drewN ?_ _) | (with_reducible refine Kd.C_drew ?_))); (case side4 => exact HC1.out); rintro e w11 ⟨rfl, hb⟩; refine ⟨_, rfl, ?_⟩; have n0_ := Aside0.mk (below_step q0_ hb); clear HB; have HB := n0_; clear n0_; (try clear hb); (try clear hb2); (try clear hk); (try clear hi)))
       go_roundg k1
       case measure => have := HK1.out; omega
       case rel => exact ⟨(x9_1), (ji5), q9_, (by first | rfl | (simp; done) | (simp only [← hji5] <;> (first | rfl | simp)) | (simp [*]; done)), H', ⟨by have := HK1.out; omega⟩, ⟨q0_⟩⟩
     ·rw [if_neg c7] at H
      exact absurd H (by simp)
    ·rw [if_neg c6] at H
     exact absurd H (by simp)
   ·rw [if_neg c4] at H
    have c4b0 : decide (x9_1 < x10_1) = false := decide_eq_false c4
    clear c4
    by_cases c12 : x9_1 < (l0.length : Int)
    ·rw [if_pos c12] at H
     have c12b0 : decide (x9_1 < (l0.length : Int)) = true := decide_eq_true c12
     clear c12
     by_cases c13 : 0 ≤ x9_1
     ·rw [if_pos c13] at H
      have c13b0 : decide (0 ≤ x9_1) = true := decide_eq_true c13
      clear c13
      by_cases c14 : x9_1 < (l0.length : Int)
      ·rw [if_pos c14] at H
       have c14b0 : decide (x9_1 < (l0.length : Int)) = true := decide_eq_true c14
       clear c14
       replace H := Option.bind_eq_some_iff.mp H
       obtain ⟨t142, A150, H⟩ := H
       replace H : (some (x9_1, (t142 == 0))) = some (r1, r2) := H
       have A15 := Aside0.mk A150
       clear A150
       simp only [Option.some.injEq, Prod.mk.injEq] at H
       obtain ⟨rfl, rfl⟩ := H
       have p141 : 0 ≤ (x9_1 : Int) := of_decide_eq_true q5_
       have q141 : x9_1 < (l0.length : Int) := of_decide_eq_true q5_
       obtain ⟨ad141, A141_0, c141_0, e141, hx141_0, hx141_1, hl141_0, hi141_0⟩ := at_T27 HR0.out x9_1 p141 q141
       cases e141
       replace hx141_0 := (HB.out.cell (World.block_lt_of_cell? w _ hx141_0)).trans hx141_0
       replace hx141_1 := (HB.out.cell (World.block_lt_of_cell? w _ hx141_1)).trans hx141_1
       have HR141_0 := Aside0.mk hi141_0
       have HC141_0 := Aside0.mk hl141_0
       clear hi141_0 hl141_0
       replace p141 := eq_true p141
       replace q141 := eq_true q141
       go_wp2_with (first | (go_at_call 35; (with_reducible refine (bag_N_1.calls k1 _ _ ((rd_T27 l0 x9_1).f0) ((rd_T27 l0 x9_1).f1) _ _ l1 t142 _ ?side1 ?side2 ?side3 ?side4 A15.out).mono ?_); (case side1 => repeat (first | exact (Kd.C_below HR141_0.out HB.out) | (with_reducible refine Kd.C_alloc ?_ _) | (with_reducible refine Kd.C_drewN ?_ _) | (with_reducible refine Kd.C_drew ?_))); (case side2 => exact HC141_0.out); (case side3 => repeat (first | exact (Kd.C_below HR1.out HB.out) | (with_reducible refine Kd.C_alloc ?_ _) | (with_reducible refine Kd.C_drewN ?_ _) | (with_reducible refine Kd.C_drew ?_))); (case side4 => exact HC1.out); rintro e w16 ⟨rfl, hb⟩; have n0_ := Aside0.mk (below_step q0_ hb); clear HB; have HB := n0_; clear n0_; (try clear hb); (try clear hb2); (try clear hk); (try clear hi)))
       go_ret2
       exact ⟨q4_, q0_⟩
      ·rw [if_neg c14] at H
       exact absurd H (by simp)
     ·rw [if_neg c13] at H
      exact absurd H (by simp)
    ·rw [if_neg c12] at H
     have c12b0 : decide (x9_1 < (l0.length : Int)) = false := decide_eq_false c12
     clear c12
     simp only [Option.some.injEq, Prod.mk.injEq] at H
     obtain ⟨rfl, rfl⟩ := H
     go_wp2
     go_ret2
     exact ⟨q4_, q0_⟩
def bag_N.f (k : Nat) (l0 : List (S27)) (l1 : List (S51)) : Option (Int) := (bag_Right.f k l0).bind fun t145 => (if t145 = true then ((api_Value_34_at_bag_N_1.f k l0 l1).bind fun bt146 => (if bt146.2 = true then (if 0 ≤ bt146.1 then (if bt146.1 < (l0.length : Int) then (some ((rd_T27 l0 bt146.1).f1)) else (none)) else (none)) else (some 0))) else (some 0))
theorem bag_N.mono : ∀ a0 a1 k, LeO (bag_N.f k a0 a1) (bag_N.f (k + 1) a0 a1) := by
 intro a0 a1 k
 unfold bag_N.f
 repeat' first
   | (with_reducible exact api_Value_34_at_bag_N_1.mono _ _ _)
   | (with_reducible exact bag_Right.mono _ _)
   | (with_reducible exact LeO.refl _)
   | (with_reducible exact LeO.none _)
   | (with_reducible refine LeO.ite ?_ ?_)
   | (with_reducible refine LeO.bind ?_ (fun _ => ?_))
   | exact api_Value_34_at_bag_N_1.mono _ _ _
   | exact bag_Right.mono _ _
   | exact LeO.none _
   | refine LeO.ite ?_ ?_
   | refine LeO.bind ?_ (fun _ => ?_)
set_option maxHeartbeats 8000000 in
set_option maxRecDepth 100000 in
theorem bag_N.calls (k : Nat) (A0 : Option Addr) (c0 : Nat) (l0 : List (S27)) (A1 : Option Addr) (c1 : Nat) (l1 : List (S51)) (r : Int) (w : World) (hr0 : Kd.C k27 w A0 l0.length l0) (hc0 : l0.length ≤ c0) (hr1 : Kd.C k51 w A1 l1.length l1) (hc1 : l1.length ≤ c1) (h : bag_N.f k l0 l1 = some r) (hG : Glob w) :
  Calls Tryd.prog 14 #[.slice A0 l0.length c0, .slice A1 l1.length c1] w fun e w' => e = .returned (.int .i64 r) ∧ Below w.heap.size w w' := by
 have HG := Aside0.mk hG
 clear hG
 have HR0 := Aside0.mk hr0
 have HC0 := Aside0.mk hc0
 clear hr0 hc0
 have HR1 := Aside0.mk hr1
 have HC1 := Aside0.mk hc1
 clear hr1 hc1
 have HB := Aside0.mk (Below.refl w.heap.size w)
 have H : ((bag_Right.f k l0).bind fun t145 => (if t145 = true then ((api_Value_34_at_bag_N_1.f k l0 l1).bind fun bt146 => (if bt146.2 = true then (if 0 ≤ bt146.1 then (if bt146.1 < (l0.length : Int) then (some ((rd_T27 l0 bt146.1).f1)) else (none)) else (none)) else (some 0))) else (some 0))) = some r := h
 clear h
 replace H := Option.bind_eq_some_iff.mp H
 obtain ⟨t145, A30, H⟩ := H
 replace H : (if t145 = true then ((api_Value_34_at_bag_N_1.f k l0 l1).bind fun bt146 => (if bt146.2 = true then (if 0 ≤ bt146.1 then (if bt146.1 < (l0.length : Int) then (some ((rd_T27 l0 bt146.1).f1)) else (none)) else (none)) else (some 0))) else (some 0)) = some r := H
 have A3 := Aside0.mk A30
 clear A30
 by_cases c4 : t145 = true
 ·subst c4
  replace H := ifT_ H
  replace H := Option.bind_eq_some_iff.mp H
  obtain ⟨⟨t146, t147⟩, A50, H⟩ := H
  replace H : (if t147 = true then (if 0 ≤ t146 then (if t146 < (l0.length : Int) then (some ((rd_T27 l0 t146).f1)) else (none)) else (none)) else (some 0)) = some r := H
  have A5 := Aside0.mk A50
  clear A50
  by_cases c6 : t147 = true
  ·subst c6
   replace H := ifT_ H
   by_cases c7 : 0 ≤ t146
   ·rw [if_pos c7] at H
    have c7b0 : decide (0 ≤ t146) = true := decide_eq_true c7
    clear c7
    by_cases c8 : t146 < (l0.length : Int)
    ·rw [if_pos c8] at H
     have c8b0 : decide (t146 < (l0.length : Int)) = true := decide_eq_true c8
     clear c8
     obtain rfl := Option.some.inj H
     go_enter Tryd.func14, Tryd.ntmps14
     go_wp2_with (first | ((with_reducible refine gate_callee (f := 12) rfl ?_); refine goesL_ (some 8) rfl rfl Tryd.func12 (by kernel_rfl) rfl #[.slice A0 l0.length c0] rfl q2_ ?_; (with_reducible refine (bag_Right.calls k _ _ l0 true _ ?side1 ?side2 A3.out q1_).mono ?_); (case side1 => repeat (first | exact HR0.out | (with_reducible refine Kd.C_alloc ?_ _) | (with_reducible refine Kd.C_drewN ?_ _) | (with_reducible refine Kd.C_drew ?_))); (case side2 => exact HC0.out); rintro e w9 ⟨rfl, hb⟩; refine ⟨_, rfl, ?_⟩; have n0_ := Aside0.mk (below_step q0_ hb); clear HB; have HB := n0_; clear n0_; (try clear hb); (try clear hb2); (try clear hk); (try clear hi)) | ((with_reducible refine gate_callee (f := 34) rfl ?_); refine goesL_ (some 13) rfl rfl Tryd.func34 (by kernel_rfl) rfl #[.slice A0 l0.length c0, .slice A1 l1.length c1, (.func (.func 35) #[] #[])] rfl q2_ ?_; (with_reducible refine (api_Value_34_at_bag_N_1.calls k _ _ l0 _ _ l1  t146 true _ ?side1 ?side2 ?side3 ?side4 A5.out).mono ?_); (case side1 => repeat (first | exact (Kd.C_below HR0.out HB.out) | (with_reducible refine Kd.C_alloc ?_ _) | (with_reducible refine Kd.C_drewN ?_ _) | (with_reducible refine Kd.C_drew ?_))); (case side2 => exact HC0.out); (case side3 => repeat (first | exact (Kd.C_below HR1.out HB.out) | (with_reducible refine Kd.C_alloc ?_ _) | (with_reducible refine Kd.C_drewN ?_ _) | (with_reducible refine Kd.C_drew ?_))); (case side4 => exact HC1.out); rintro e w10 ⟨rfl, hb⟩; refine ⟨_, rfl, ?_⟩; have n0_ := Aside0.mk (below_step q0_ hb); clear HB; have HB := n0_; clear n0_; (try clear hb); (try clear hb2); (try clear hk); (try clear hi); have p148 : 0 ≤ (t146 : Int) := of_decide_eq_true q5_; have q148 : t146 < (l0.length : Int) := of_decide_eq_true q5_; obtain ⟨ad148, A148_0, c148_0, e148, hx148_0, hx148_1, hl148_0, hi148_0⟩ := at_T27 HR0.out t146 p148 q148; cases e148; replace hx148_0 := (HB.out.cell (World.block_lt_of_cell? w _ hx148_0)).trans hx148_0; replace hx148_1 := (HB.out.cell (World.block_lt_of_cell? w _ hx148_1)).trans hx148_1; have HR148_0 := Aside0.mk hi148_0; have HC148_0 := Aside0.mk hl148_0; clear hi148_0 hl148_0; replace p148 := eq_true p148; replace q148 := eq_true q148))
     go_ret
     exact ⟨q4_, q0_⟩
    ·rw [if_neg c8] at H
     exact absurd H (by simp)
   ·rw [if_neg c7] at H
    exact absurd H (by simp)
  ·replace c6 := Bool.eq_false_iff.mpr c6
   subst c6
   replace H := ifF_ H
   obtain rfl := Option.some.inj H
   go_enter Tryd.func14, Tryd.ntmps14
   go_wp2_with (first | ((with_reducible refine gate_callee (f := 12) rfl ?_); refine goesL_ (some 8) rfl rfl Tryd.func12 (by kernel_rfl) rfl #[.slice A0 l0.length c0] rfl q2_ ?_; (with_reducible refine (bag_Right.calls k _ _ l0 true _ ?side1 ?side2 A3.out q1_).mono ?_); (case side1 => repeat (first | exact HR0.out | (with_reducible refine Kd.C_alloc ?_ _) | (with_reducible refine Kd.C_drewN ?_ _) | (with_reducible refine Kd.C_drew ?_))); (case side2 => exact HC0.out); rintro e w11 ⟨rfl, hb⟩; refine ⟨_, rfl, ?_⟩; have n0_ := Aside0.mk (below_step q0_ hb); clear HB; have HB := n0_; clear n0_; (try clear hb); (try clear hb2); (try clear hk); (try clear hi)) | ((with_reducible refine gate_callee (f := 34) rfl ?_); refine goesL_ (some 13) rfl rfl Tryd.func34 (by kernel_rfl) rfl #[.slice A0 l0.length c0, .slice A1 l1.length c1, (.func (.func 35) #[] #[])] rfl q2_ ?_; (with_reducible refine (api_Value_34_at_bag_N_1.calls k _ _ l0 _ _ l1  t146 false _ ?side1 ?side2 ?side3 ?side4 A5.out).mono ?_); (case side1 => repeat (first | exact (Kd.C_below HR0.out HB.out) | (with_reducible refine Kd.C_alloc ?_ _) | (with_reducible refine Kd.C_drewN ?_ _) | (with_reducible refine Kd.C_drew ?_))); (case side2 => exact HC0.out); (case side3 => repeat (first | exact (Kd.C_below HR1.out HB.out) | (with_reducible refine Kd.C_alloc ?_ _) | (with_reducible refine Kd.C_drewN ?_ _) | (with_reducible refine Kd.C_drew ?_))); (case side4 => exact HC1.out); rintro e w12 ⟨rfl, hb⟩; refine ⟨_, rfl, ?_⟩; have n0_ := Aside0.mk (below_step q0_ hb); clear HB; have HB := n0_; clear n0_; (try clear hb); (try clear hb2); (try clear hk); (try clear hi)))
   go_ret
   exact ⟨q4_, q0_⟩
 ·replace c4 := Bool.eq_false_iff.mpr c4
  subst c4
  replace H := ifF_ H
  obtain rfl := Option.some.inj H
  go_enter Tryd.func14, Tryd.ntmps14
  go_wp2_with (first | ((with_reducible refine gate_callee (f := 12) rfl ?_); refine goesL_ (some 8) rfl rfl Tryd.func12 (by kernel_rfl) rfl #[.slice A0 l0.length c0] rfl q2_ ?_; (with_reducible refine (bag_Right.calls k _ _ l0 false _ ?side1 ?side2 A3.out q1_).mono ?_); (case side1 => repeat (first | exact HR0.out | (with_reducible refine Kd.C_alloc ?_ _) | (with_reducible refine Kd.C_drewN ?_ _) | (with_reducible refine Kd.C_drew ?_))); (case side2 => exact HC0.out); rintro e w13 ⟨rfl, hb⟩; refine ⟨_, rfl, ?_⟩; have n0_ := Aside0.mk (below_step q0_ hb); clear HB; have HB := n0_; clear n0_; (try clear hb); (try clear hb2); (try clear hk); (try clear hi)))
  go_ret
  exact ⟨q4_, q0_⟩
def bag_Size.l0 : Nat → Int → List (S27) → Int → Int → Option (Int)
 | 0, _, _, _, _ => none
 | k + 1, x3, x8, x9, x10 => if x10 < x9 then (if 0 ≤ x10 then (if x10 < (x8.length : Int) then (bag_Size.l0 k (wrap64 (x3 + ((rd_T27 x8 x10).f1))) x8 x9 (wrap64 (x10 + 1))) else (none)) else (none)) else (some x3)
def bag_Size.f (k : Nat) (l0 : List (S27)) : Option (Int) := (bag_Right.f k l0).bind fun t149 => (if t149 = true then (bag_Size.l0 k 0 l0 (l0.length : Int) 0) else (some 0))
theorem bag_Size.mono_l : ∀ k, (∀ y0 y1 y2 y3, LeO (bag_Size.l0 k y0 y1 y2 y3) (bag_Size.l0 (k + 1) y0 y1 y2 y3))
 | 0 => fun _ _ _ _ r h => by simp [bag_Size.l0] at h
 | k + 1 => by
  have ih0 := bag_Size.mono_l k
  ·intro y0 y1 y2 y3
   unfold bag_Size.l0
   repeat' first
   | (with_reducible exact ih0 _ _ _ _)
   | (with_reducible exact bag_Right.mono _ _)
   | (with_reducible exact LeO.refl _)
   | (with_reducible exact LeO.none _)
   | (with_reducible refine LeO.ite ?_ ?_)
   | (with_reducible refine LeO.bind ?_ (fun _ => ?_))
   | exact ih0 _ _ _ _
   | exact bag_Right.mono _ _
   | exact LeO.none _
   | refine LeO.ite ?_ ?_
   | refine LeO.bind ?_ (fun _ => ?_)
theorem bag_Size.mono : ∀ a0 k, LeO (bag_Size.f k a0) (bag_Size.f (k + 1) a0) := by
 intro a0 k
 have ih0 := bag_Size.mono_l k
 unfold bag_Size.f
 repeat' first
   | (with_reducible exact ih0 _ _ _ _)
   | (with_reducible exact bag_Right.mono _ _)
   | (with_reducible exact LeO.refl _)
   | (with_reducible exact LeO.none _)
   | (with_reducible refine LeO.ite ?_ ?_)
   | (with_reducible refine LeO.bind ?_ (fun _ => ?_))
   | exact ih0 _ _ _ _
   | exact bag_Right.mono _ _
   | exact LeO.none _
   | refine LeO.ite ?_ ?_
   | refine LeO.bind ?_ (fun _ => ?_)
set_option maxHeartbeats 8000000 in
set_option maxRecDepth 100000 in
theorem bag_Size.calls (k : Nat) (A0 : Option Addr) (c0 : Nat) (l0 : List (S27)) (r : Int) (w : World) (hr0 : Kd.C k27 w A0 l0.length l0) (hc0 : l0.length ≤ c0) (h : bag_Size.f k l0 = some r) (hG : Glob w) :
  Calls Tryd.prog 15 #[.slice A0 l0.length c0] w fun e w' => e = .returned (.int .i64 r) ∧ Below w.heap.size w w' := by
 have hu27 := Tryd.underlying27
 have HG := Aside0.mk hG
 clear hG
 have HR0 := Aside0.mk hr0
 have HC0 := Aside0.mk hc0
 clear hr0 hc0
 have HB := Aside0.mk (Below.refl w.heap.size w)
 have H : ((bag_Right.f k l0).bind fun t149 => (if t149 = true then (bag_Size.l0 k 0 l0 (l0.length : Int) 0) else (some 0))) = some r := h
 clear h
 replace H := Option.bind_eq_some_iff.mp H
 obtain ⟨t149, A20, H⟩ := H
 replace H : (if t149 = true then (bag_Size.l0 k 0 l0 (l0.length : Int) 0) else (some 0)) = some r := H
 have A2 := Aside0.mk A20
 clear A20
 by_cases c3 : t149 = true
 ·subst c3
  replace H := ifT_ H
  have H' := Aside0.mk H
  clear H
  go_enter Tryd.func15, Tryd.ntmps15
  go_wp2_with (first | ((with_reducible refine gate_callee (f := 12) rfl ?_); refine goesL_ (some 7) rfl rfl Tryd.func12 (by kernel_rfl) rfl #[.slice A0 l0.length c0] rfl q2_ ?_; (with_reducible refine (bag_Right.calls k _ _ l0 true _ ?side1 ?side2 A2.out q1_).mono ?_); (case side1 => repeat (first | exact HR0.out | (with_reducible refine Kd.C_alloc ?_ _) | (with_reducible refine Kd.C_drewN ?_ _) | (with_reducible refine Kd.C_drew ?_))); (case side2 => exact HC0.out); rintro e w4 ⟨rfl, hb⟩; refine ⟨_, rfl, ?_⟩; have n0_ := Aside0.mk (below_step q0_ hb); clear HB; have HB := n0_; clear n0_; (try clear hb); (try clear hb2); (try clear hk); (try clear hi)))
  go_loopg [3, 10] k (fun kq v3 v10 w' => ∃ (x3_1 : Int) (x10_1 : Int), v3 = .int .i64 x3_1 ∧ v10 = .int .i64 x10_1 ∧ Aside0 (bag_Size.l0 kq x3_1 l0 (l0.length : Int) x10_1 = some r) ∧ Aside0 (kq ≤ k) ∧ Aside0 (Below w.heap.size w w'))
  case atStart => exact ⟨(0), (0), q9_, q9_, H', ⟨Nat.le_refl _⟩, ⟨q0_⟩⟩
  case round =>
   clear H'
   try clear c1
   try clear p2
   try clear c3
   obtain ⟨x3_1, x10_1, rfl, rfl, HA, HK1, HB⟩ := hrel
   cases gk with
   | zero => exact absurd HA.out (by simp [bag_Size.l0])
   | succ k1 =>
    have H := HA.out
    clear HA
    simp only [bag_Size.l0] at H
    by_cases c5 : x10_1 < (l0.length : Int)
    ·rw [if_pos c5] at H
     have c5b0 : decide (x10_1 < (l0.length : Int)) = true := decide_eq_true c5
     clear c5
     by_cases c6 : 0 ≤ x10_1
     ·rw [if_pos c6] at H
      have c6b0 : decide (0 ≤ x10_1) = true := decide_eq_true c6
      clear c6
      by_cases c7 : x10_1 < (l0.length : Int)
      ·rw [if_pos c7] at H
       have c7b0 : decide (x10_1 < (l0.length : Int)) = true := decide_eq_true c7
       clear c7
       have H' := Aside0.mk H
       clear H
       have p150 : 0 ≤ (x10_1 : Int) := of_decide_eq_true q5_
       have q150 : x10_1 < (l0.length : Int) := of_decide_eq_true q5_
       obtain ⟨ad150, A150_0, c150_0, e150, hx150_0, hx150_1, hl150_0, hi150_0⟩ := at_T27 HR0.out x10_1 p150 q150
       cases e150
       replace hx150_0 := (HB.out.cell (World.block_lt_of_cell? w _ hx150_0)).trans hx150_0
       replace hx150_1 := (HB.out.cell (World.block_lt_of_cell? w _ hx150_1)).trans hx150_1
       have HR150_0 := Aside0.mk hi150_0
       have HC150_0 := Aside0.mk hl150_0
       clear hi150_0 hl150_0
       replace p150 := eq_true p150
       replace q150 := eq_true q150
       go_wp2_with (first | ((with_reducible refine gate_dst (N := 5) rfl ?_); refine box_event ?hg (N := 5) ?hd (cs := #[.slice none 0 0, .int .i64 0]) (t := 27) ?hr ?_; (case hd => rfl); (case hg => rfl); (case hr => first | (go_simp; done) | (go_simp; rfl)); intro gb151 hg w8 hbox hb; have n0_ := Aside0.mk (below_step q0_ hb); have n1_ := Aside0.mk (hbox); have n2_ := Aside0.mk ((q3_ : w.heap.size ≤ gb151)); have n3_ := Aside0.mk ((q3_ : w.heap.size ≤ gb151)); clear HB; have HB := n0_; have BK151 := n1_; have GW151 := n2_; have GE151 := n3_; clear n0_ n1_ n2_ n3_; clear hb hbox hg; have hcz9_0 : w8.cell? ⟨gb151, 0, none⟩ = some (.slice none 0 0) := (blk_cell BK151.out 0).trans rfl; have hcz9_1 : w8.cell? ⟨gb151, 1, none⟩ = some (.int .i64 0) := (blk_cell BK151.out 1).trans rfl; have hfz9_0 := blk_frozen BK151.out 0; have hfz9_1 := blk_frozen BK151.out 1))
       go_roundg k1
       case measure => have := HK1.out; omega
       case rel => exact ⟨(wrap64 (x3_1 + ((rd_T27 l0 x10_1).f1))), (wrap64 (x10_1 + 1)), q9_, q9_, H', ⟨by have := HK1.out; omega⟩, ⟨q0_⟩⟩
      ·rw [if_neg c7] at H
       exact absurd H (by simp)
     ·rw [if_neg c6] at H
      exact absurd H (by simp)
    ·rw [if_neg c5] at H
     have c5b0 : decide (x10_1 < (l0.length : Int)) = false := decide_eq_false c5
     clear c5
     obtain rfl := Option.some.inj H
     go_wp2
     go_ret
     exact ⟨q4_, q0_⟩
 ·replace c3 := Bool.eq_false_iff.mpr c3
  subst c3
  replace H := ifF_ H
  obtain rfl := Option.some.inj H
  go_enter Tryd.func15, Tryd.ntmps15
  go_wp2_with (first | ((with_reducible refine gate_callee (f := 12) rfl ?_); refine goesL_ (some 7) rfl rfl Tryd.func12 (by kernel_rfl) rfl #[.slice A0 l0.length c0] rfl q2_ ?_; (with_reducible refine (bag_Right.calls k _ _ l0 false _ ?side1 ?side2 A2.out q1_).mono ?_); (case side1 => repeat (first | exact HR0.out | (with_reducible refine Kd.C_alloc ?_ _) | (with_reducible refine Kd.C_drewN ?_ _) | (with_reducible refine Kd.C_drew ?_))); (case side2 => exact HC0.out); rintro e w10 ⟨rfl, hb⟩; refine ⟨_, rfl, ?_⟩; have n0_ := Aside0.mk (below_step q0_ hb); clear HB; have HB := n0_; clear n0_; (try clear hb); (try clear hb2); (try clear hk); (try clear hi)))
  go_ret
  exact ⟨q4_, q0_⟩
def api_Count_38.f (l0 : List S27) : Option (List S27) := if l0.length ≤ 1000000 then some l0 else none
set_option maxHeartbeats 2000000 in
set_option maxRecDepth 100000 in
theorem api_Count_38.calls (P_ : Nat → Prop) (A : Option Addr) (c : Nat) (l0 r : List S27) (w : World) (hs : Kd.V k27 27 w w.heap.size (fun k_ => P_ k_) (.slice A l0.length c) l0) (h : api_Count_38.f l0 = some r) :
  Calls Tryd.prog 38 #[.slice A l0.length c] w fun e w' => ∃ v0_ : Value, e = .returned v0_ ∧ Kd.N k27 27 w' w.heap.size (fun k_ => (P_ k_ ∨ w.heap.size ≤ k_)) v0_ r ∧ Below w.heap.size w w' := by
 unfold api_Count_38.f at h
 split at h
 case isFalse => cases h
 rename_i hl
 injection h with h
 subst h
 have q22 : ∀ (w : World) (a : Option Addr) (n c n' c' : Nat), (binOp .eql 22 (.slice a n c) (.slice none n' c')).run Tryd.prog w = .ok (.bool a.isNone) w := fun w a n c n' c' => Lib.run_eql_slice_nil w _ _ a n c n' c' Tryd.underlying22
 have HF := Aside0.mk (Kd.F_alloc (Kd.F_bound (Kd.V_F hs)) (.cells #[] 27))
 cases A with
 | none =>
  have e0 : l0 = [] := by
   have := (Kd.V_reads' hs).2.2.2.2
   cases l0 with
   | nil => rfl
   | cons x l => obtain ⟨ad, h1, _⟩ := this (by simp); cases h1
  subst e0
  clear hs HF
  go_enter Tryd.func38, Tryd.ntmps38
  go_wp2
  go_ret
  exact ⟨_, rfl, Kd.N_nil _ _ _ _ _, Below.refl _ _⟩
 | some ad =>
  clear hs
  go_enter Tryd.func38, Tryd.ntmps38
  go_wp2_with (at_builtin; refine Kd.N_append_rows k27 (w0 := w) w.heap.size rfl _ _ 22 27 (.agg #[(.slice none 0 0), (.int .i64 0)]) 32 rfl Tryd.underlying22 info27 rfl (by decide) (by omega) (.slice (some ⟨w.heap.size, 0, none⟩) 0 0) ([] : List S27) l0 (some ad) l0.length c (fun k_ => (P_ k_ ∨ w.heap.size ≤ k_)) (fun k => P_ k ∧ k < w.heap.size) rfl rfl (cl_made k27 27 w _ (.inr (Nat.le_refl _))) HF.out (fun k hk => ⟨.inl hk.1, by simp [Value.ownBlock]; have := hk.2; omega⟩) (fun k hk => .inr (by simp at hk; omega)) (below_alloc (Below.refl _ _) _) (by simp) (by simp; omega) ?_)
  intro v' w1 hown hb hg hat
  go_wp2
  go_ret
  exact ⟨v', rfl, hown, hb⟩
def api_Value_41.f (l0 : List S51) : Option (List S51) := if l0.length ≤ 1000000 then some l0 else none
set_option maxHeartbeats 2000000 in
set_option maxRecDepth 100000 in
theorem api_Value_41.calls (A : Option Addr) (c : Nat) (l0 r : List S51) (w : World) (hr : Kd.C k51 w A l0.length l0) (hc : l0.length ≤ c) (h : api_Value_41.f l0 = some r) :
  Calls Tryd.prog 41 #[.slice A l0.length c] w fun e w' => ∃ v0_ : Value, e = .returned v0_ ∧ Kd.R k51 51 w' w.heap.size (fun _ => True) v0_ r ∧ Below w.heap.size w w' := by
 unfold api_Value_41.f at h
 split at h
 case isFalse => cases h
 rename_i hl
 injection h with h
 subst h
 have q22 : ∀ (w : World) (a : Option Addr) (n c n' c' : Nat), (binOp .eql 23 (.slice a n c) (.slice none n' c')).run Tryd.prog w = .ok (.bool a.isNone) w := fun w a n c n' c' => Lib.run_eql_slice_nil w _ _ a n c n' c' Tryd.underlying23
 have HF := Aside0.mk (Kd.C_below hr (below_alloc (Below.refl _ _) (.cells #[] 51)))
 cases A with
 | none =>
  have e0 : l0 = [] := by
   have := hr.2.2
   cases l0 with
   | nil => rfl
   | cons x l => obtain ⟨ad, h1, _⟩ := this (by simp); cases h1
  subst e0
  clear hr HF
  go_enter Tryd.func41, Tryd.ntmps41
  go_wp2
  go_ret
  exact ⟨_, rfl, Kd.R_nil _ _ _ _ _, Below.refl _ _⟩
 | some ad =>
  clear hr
  go_enter Tryd.func41, Tryd.ntmps41
  go_wp2_with (at_builtin; refine Kd.R_append_rows k51 (w0 := w) w.heap.size rfl _ _ 23 51 (.agg #[.int .i64 0, .int .i64 0, .string ByteArray.empty]) 32 rfl Tryd.underlying23 (by kernel_rfl) rfl (by decide) (by omega) (.slice (some ⟨w.heap.size, 0, none⟩) 0 0) ([] : List S51) l0 (some ad) l0.length c (fun _ => True) (fun _ => False) rfl rfl (cl_madeR k51 51 w) HF.out (fun x cs hk => by rw [k51_open hk]; exact k51_mkM _ _ _ x) (fun k hk => hk.elim) (fun k hk => trivial) (below_alloc (Below.refl _ _) _) (by simp) (by simp; omega) ?_)
  intro v' w1 hown hb hg hat
  go_wp2
  go_ret
  exact ⟨v', rfl, hown, hb⟩
def bag_Sort_1.f (k : Nat) (l0_0 : List (S51)) (a0_1 : Int) : Option (Bool) := (bag_fits.f a0_1).bind fun t153 => (if t153 = true then ((api_Value_29_at_bag_wrong.f k l0_0).bind fun t154 => (some t154)) else (some true))
theorem bag_Sort_1.mono : ∀ a0 a1 k, LeO (bag_Sort_1.f k a0 a1) (bag_Sort_1.f (k + 1) a0 a1) := by
 intro a0 a1 k
 unfold bag_Sort_1.f
 repeat' first
   | (with_reducible exact api_Value_29_at_bag_wrong.mono _ _)
   | (with_reducible exact LeO.refl _)
   | (with_reducible exact LeO.none _)
   | (with_reducible refine LeO.ite ?_ ?_)
   | (with_reducible refine LeO.bind ?_ (fun _ => ?_))
   | exact api_Value_29_at_bag_wrong.mono _ _
   | exact LeO.none _
   | refine LeO.ite ?_ ?_
   | refine LeO.bind ?_ (fun _ => ?_)
set_option maxHeartbeats 8000000 in
set_option maxRecDepth 100000 in
theorem bag_Sort_1.calls (k : Nat) (A0_0 : Option Addr) (c0_0 : Nat) (l0_0 : List (S51)) (a0_1 : Int) (r : Bool) (w : World) (hr0_0 : Kd.C k51 w A0_0 l0_0.length l0_0) (hc0_0 : l0_0.length ≤ c0_0) (h : bag_Sort_1.f k l0_0 a0_1 = some r) (hG : Glob w) :
  Calls Tryd.prog 37 #[.agg #[.slice A0_0 l0_0.length c0_0, .int .i64 a0_1]] w fun e w' => e = .returned (.bool r) ∧ Below w.heap.size w w' := by
 have hu27 := Tryd.underlying27
 have HG := Aside0.mk hG
 clear hG
 have HR0_0 := Aside0.mk hr0_0
 have HC0_0 := Aside0.mk hc0_0
 clear hr0_0 hc0_0
 have HB := Aside0.mk (Below.refl w.heap.size w)
 have H : ((bag_fits.f a0_1).bind fun t153 => (if t153 = true then ((api_Value_29_at_bag_wrong.f k l0_0).bind fun t154 => (some t154)) else (some true))) = some r := h
 clear h
 replace H := Option.bind_eq_some_iff.mp H
 obtain ⟨t153, A20, H⟩ := H
 replace H : (if t153 = true then ((api_Value_29_at_bag_wrong.f k l0_0).bind fun t154 => (some t154)) else (some true)) = some r := H
 have A2 := Aside0.mk A20
 clear A20
 by_cases c3 : t153 = true
 ·subst c3
  replace H := ifT_ H
  replace H := Option.bind_eq_some_iff.mp H
  obtain ⟨t154, A40, H⟩ := H
  replace H : (some t154) = some r := H
  have A4 := Aside0.mk A40
  clear A40
  obtain rfl := Option.some.inj H
  go_enter Tryd.func37, Tryd.ntmps37
  go_wp2_with (first | ((with_reducible refine gate_dst (N := 1) rfl ?_); refine box_event ?hg (N := 1) ?hd (cs := #[.slice A0_0 l0_0.length c0_0, .int .i64 a0_1]) (t := 27) ?hr ?_; (case hd => rfl); (case hg => rfl); (case hr => first | (go_simp; done) | (go_simp; rfl)); intro gb152 hg w5 hbox hb; have n0_ := Aside0.mk (below_step q0_ hb); have n1_ := Aside0.mk (hbox); have n2_ := Aside0.mk ((q3_ : w.heap.size ≤ gb152)); have n3_ := Aside0.mk ((q3_ : w.heap.size ≤ gb152)); clear HB; have HB := n0_; have BK152 := n1_; have GW152 := n2_; have GE152 := n3_; clear n0_ n1_ n2_ n3_; clear hb hbox hg; have hcz6_0 : w5.cell? ⟨gb152, 0, none⟩ = some (.slice A0_0 l0_0.length c0_0) := (blk_cell BK152.out 0).trans rfl; have hcz6_1 : w5.cell? ⟨gb152, 1, none⟩ = some (.int .i64 a0_1) := (blk_cell BK152.out 1).trans rfl; have hfz6_0 := blk_frozen BK152.out 0; have hfz6_1 := blk_frozen BK152.out 1) | ((with_reducible refine gate_callee (f := 28) rfl ?_); refine goesL_ (some 5) rfl rfl Tryd.func28 (by kernel_rfl) rfl #[.int .i64 a0_1] rfl q2_ ?_; (with_reducible refine (bag_fits.calls a0_1 true _ A2.out).mono ?_); rintro e w' ⟨rfl, ⟨nd, rfl⟩⟩; refine ⟨_, rfl, ?_⟩) | (go_at_call 29; (with_reducible refine (api_Value_29_at_bag_wrong.calls k _ _ l0_0  t154 _ ?side1 ?side2 A4.out (by first | exact HG.out | (refine Glob.below HG.out ?_; (repeat (first | (with_reducible first | exact HB.out | apply below_alloc | apply pw_below_drewN | apply below_drew1 | refine below_set ?_ GE152.out) | exact HB.out))) | (repeat (first | exact HG.out | apply Glob.drewN | apply Glob.drew | apply Glob.alloc)))).mono ?_); (case side1 => repeat (first | exact (Kd.C_below HR0_0.out q0_) | (with_reducible refine Kd.C_alloc ?_ _) | (with_reducible refine Kd.C_drewN ?_ _) | (with_reducible refine Kd.C_drew ?_))); (case side2 => exact HC0_0.out); rintro e w7 ⟨rfl, hb⟩; have n0_ := Aside0.mk (blk_below (g := gb152) (o := .cells #[.slice A0_0 l0_0.length c0_0, .int .i64 a0_1] 27 (0, 0)) (by (with_reducible repeat first | apply bN_ | apply bD_ | apply bA_); exact BK152.out) hb); have n1_ := Aside0.mk (below_step q0_ hb); clear BK152; clear HB; have BK152 := n0_; have HB := n1_; clear n0_ n1_; (try clear hb); (try clear hb2); (try clear hk); (try clear hi)))
  go_ret
  exact ⟨q4_, q0_⟩
 ·replace c3 := Bool.eq_false_iff.mpr c3
  subst c3
  replace H := ifF_ H
  obtain rfl := Option.some.inj H
  go_enter Tryd.func37, Tryd.ntmps37
  go_wp2_with (first | ((with_reducible refine gate_dst (N := 1) rfl ?_); refine box_event ?hg (N := 1) ?hd (cs := #[.slice A0_0 l0_0.length c0_0, .int .i64 a0_1]) (t := 27) ?hr ?_; (case hd => rfl); (case hg => rfl); (case hr => first | (go_simp; done) | (go_simp; rfl)); intro gb152 hg w8 hbox hb; have n0_ := Aside0.mk (below_step q0_ hb); have n1_ := Aside0.mk (hbox); have n2_ := Aside0.mk ((q3_ : w.heap.size ≤ gb152)); have n3_ := Aside0.mk ((q3_ : w.heap.size ≤ gb152)); clear HB; have HB := n0_; have BK152 := n1_; have GW152 := n2_; have GE152 := n3_; clear n0_ n1_ n2_ n3_; clear hb hbox hg; have hcz9_0 : w8.cell? ⟨gb152, 0, none⟩ = some (.slice A0_0 l0_0.length c0_0) := (blk_cell BK152.out 0).trans rfl; have hcz9_1 : w8.cell? ⟨gb152, 1, none⟩ = some (.int .i64 a0_1) := (blk_cell BK152.out 1).trans rfl; have hfz9_0 := blk_frozen BK152.out 0; have hfz9_1 := blk_frozen BK152.out 1) | ((with_reducible refine gate_callee (f := 28) rfl ?_); refine goesL_ (some 5) rfl rfl Tryd.func28 (by kernel_rfl) rfl #[.int .i64 a0_1] rfl q2_ ?_; (with_reducible refine (bag_fits.calls a0_1 false _ A2.out).mono ?_); rintro e w' ⟨rfl, ⟨nd, rfl⟩⟩; refine ⟨_, rfl, ?_⟩))
  go_ret
  exact ⟨q4_, q0_⟩
def api_Count_51_at_bag_Sort_1.l0 : Nat → List (S27) → Int → Int → Option (Int)
 | 0, _, _, _ => none
 | k + 1, x0, x7, x8 => if x8 < x7 then (if 0 ≤ x8 then (if x8 < (x0.length : Int) then ((bag_Sort_1.f k ((rd_T27 x0 x8).f0) ((rd_T27 x0 x8).f1)).bind fun t156 => (if t156 = true then (some x8) else (api_Count_51_at_bag_Sort_1.l0 k x0 x7 (wrap64 (x8 + 1))))) else (none)) else (none)) else (some (-1))
def api_Count_51_at_bag_Sort_1.f (k : Nat) (l0 : List (S27))  : Option (Int) := api_Count_51_at_bag_Sort_1.l0 k l0 (l0.length : Int) 0
theorem api_Count_51_at_bag_Sort_1.mono_l : ∀ k, (∀ y0 y1 y2, LeO (api_Count_51_at_bag_Sort_1.l0 k y0 y1 y2) (api_Count_51_at_bag_Sort_1.l0 (k + 1) y0 y1 y2))
 | 0 => fun _ _ _ r h => by simp [api_Count_51_at_bag_Sort_1.l0] at h
 | k + 1 => by
  have ih0 := api_Count_51_at_bag_Sort_1.mono_l k
  ·intro y0 y1 y2
   unfold api_Count_51_at_bag_Sort_1.l0
   repeat' first
   | (with_reducible exact ih0 _ _ _)
   | (with_reducible exact bag_Sort_1.mono _ _ _)
   | (with_reducible exact LeO.refl _)
   | (with_reducible exact LeO.none _)
   | (with_reducible refine LeO.ite ?_ ?_)
   | (with_reducible refine LeO.bind ?_ (fun _ => ?_))
   | exact ih0 _ _ _
   | exact bag_Sort_1.mono _ _ _
   | exact LeO.none _
   | refine LeO.ite ?_ ?_
   | refine LeO.bind ?_ (fun _ => ?_)
theorem api_Count_51_at_bag_Sort_1.mono : ∀ a0 k, LeO (api_Count_51_at_bag_Sort_1.f k a0) (api_Count_51_at_bag_Sort_1.f (k + 1) a0) := by
 intro a0 k
 have ih0 := api_Count_51_at_bag_Sort_1.mono_l k
 unfold api_Count_51_at_bag_Sort_1.f
 repeat' first
   | (with_reducible exact ih0 _ _ _)
   | (with_reducible exact bag_Sort_1.mono _ _ _)
   | (with_reducible exact LeO.refl _)
   | (with_reducible exact LeO.none _)
   | (with_reducible refine LeO.ite ?_ ?_)
   | (with_reducible refine LeO.bind ?_ (fun _ => ?_))
   | exact ih0 _ _ _
   | exact bag_Sort_1.mono _ _ _
   | exact LeO.none _
   | refine LeO.ite ?_ ?_
   | refine LeO.bind ?_ (fun _ => ?_)
set_option maxHeartbeats 8000000 in
set_option maxRecDepth 100000 in
theorem api_Count_51_at_bag_Sort_1.calls (k : Nat) (A0 : Option Addr) (c0 : Nat) (l0 : List (S27))  (r : Int) (w : World) (hr0 : Kd.C k27 w A0 l0.length l0) (hc0 : l0.length ≤ c0) (h : api_Count_51_at_bag_Sort_1.f k l0 = some r) (hG : Glob w) :
  Calls Tryd.prog 51 #[.slice A0 l0.length c0, (.func (.func 37) #[] #[])] w fun e w' => e = .returned (.int .i64 r) ∧ Below w.heap.size w w' := by
 have hu27 := Tryd.underlying27
 have HG := Aside0.mk hG
 clear hG
 have HR0 := Aside0.mk hr0
 have HC0 := Aside0.mk hc0
 clear hr0 hc0
 have HB := Aside0.mk (Below.refl w.heap.size w)
 have H : (api_Count_51_at_bag_Sort_1.l0 k l0 (l0.length : Int) 0) = some r := h
 clear h
 have H' := Aside0.mk H
 clear H
 go_enter Tryd.func51, Tryd.ntmps51
 go_wp2
 go_loopg [8] k (fun kq v8 w' => ∃ (x8_1 : Int), v8 = .int .i64 x8_1 ∧ Aside0 (api_Count_51_at_bag_Sort_1.l0 kq l0 (l0.length : Int) x8_1 = some r) ∧ Aside0 (kq ≤ k) ∧ Aside0 (Below w.heap.size w w'))
 case atStart => exact ⟨(0), q9_, H', ⟨Nat.le_refl _⟩, ⟨q0_⟩⟩
 case round =>
  clear H'
  try clear p2
  obtain ⟨x8_1, rfl, HA, HK1, HB⟩ := hrel
  cases gk with
  | zero => exact absurd HA.out (by simp [api_Count_51_at_bag_Sort_1.l0])
  | succ k1 =>
   have H := HA.out
   clear HA
   simp only [api_Count_51_at_bag_Sort_1.l0] at H
   by_cases c3 : x8_1 < (l0.length : Int)
   ·rw [if_pos c3] at H
    have c3b0 : decide (x8_1 < (l0.length : Int)) = true := decide_eq_true c3
    clear c3
    by_cases c4 : 0 ≤ x8_1
    ·rw [if_pos c4] at H
     have c4b0 : decide (0 ≤ x8_1) = true := decide_eq_true c4
     clear c4
     by_cases c5 : x8_1 < (l0.length : Int)
     ·rw [if_pos c5] at H
      have c5b0 : decide (x8_1 < (l0.length : Int)) = true := decide_eq_true c5
      clear c5
      replace H := Option.bind_eq_some_iff.mp H
      obtain ⟨t156, A60, H⟩ := H
      replace H : (if t156 = true then (some x8_1) else (api_Count_51_at_bag_Sort_1.l0 k1 l0 (l0.length : Int) (wrap64 (x8_1 + 1)))) = some r := H
      have A6 := Aside0.mk A60
      clear A60
      by_cases c7 : t156 = true
      ·subst c7
       replace H := ifT_ H
       obtain rfl := Option.some.inj H
       have p155 : 0 ≤ (x8_1 : Int) := of_decide_eq_true q5_
       have q155 : x8_1 < (l0.length : Int) := of_decide_eq_true q5_
       obtain ⟨ad155, A155_0, c155_0, e155, hx155_0, hx155_1, hl155_0, hi155_0⟩ := at_T27 HR0.out x8_1 p155 q155
       cases e155
       replace hx155_0 := (HB.out.cell (World.block_lt_of_cell? w _ hx155_0)).trans hx155_0
       replace hx155_1 := (HB.out.cell (World.block_lt_of_cell? w _ hx155_1)).trans hx155_1
       have HR155_0 := Aside0.mk hi155_0
       have HC155_0 := Aside0.mk hl155_0
       clear hi155_0 hl155_0
       replace p155 := eq_true p155
       replace q155 := eq_true q155
       go_wp2_with (first | ((with_reducible refine gate_calleeT (t := 11) rfl ?_); refine goesTL_ (some 16) rfl rfl Tryd.func37 (by kernel_rfl) rfl #[.agg #[.slice A155_0 ((rd_T27 l0 x8_1).f0).length c155_0, .int .i64 ((rd_T27 l0 x8_1).f1)]] rfl (by rfl) q2_ ?_; (with_reducible refine (bag_Sort_1.calls k1 _ _ ((rd_T27 l0 x8_1).f0) ((rd_T27 l0 x8_1).f1) true _ ?side1 ?side2 A6.out q1_).mono ?_); (case side1 => repeat (first | exact (Kd.C_below HR155_0.out HB.out) | (with_reducible refine Kd.C_alloc ?_ _) | (with_reducible refine Kd.C_drewN ?_ _) | (with_reducible refine Kd.C_drew ?_))); (case side2 => exact HC155_0.out); rintro e w8 ⟨rfl, hb⟩; refine ⟨_, rfl, ?_⟩; have n0_ := Aside0.mk (below_step q0_ hb); clear HB; have HB := n0_; clear n0_; (try clear hb); (try clear hb2); (try clear hk); (try clear hi)))
       go_ret
       exact ⟨q4_, q0_⟩
      ·replace c7 := Bool.eq_false_iff.mpr c7
       subst c7
       replace H := ifF_ H
       have H' := Aside0.mk H
       clear H
       have p155 : 0 ≤ (x8_1 : Int) := of_decide_eq_true q5_
       have q155 : x8_1 < (l0.length : Int) := of_decide_eq_true q5_
       obtain ⟨ad155, A155_0, c155_0, e155, hx155_0, hx155_1, hl155_0, hi155_0⟩ := at_T27 HR0.out x8_1 p155 q155
       cases e155
       replace hx155_0 := (HB.out.cell (World.block_lt_of_cell? w _ hx155_0)).trans hx155_0
       replace hx155_1 := (HB.out.cell (World.block_lt_of_cell? w _ hx155_1)).trans hx155_1
       have HR155_0 := Aside0.mk hi155_0
       have HC155_0 := Aside0.mk hl155_0
       clear hi155_0 hl155_0
       replace p155 := eq_true p155
       replace q155 := eq_true q155
       go_wp2_with (first | ((with_reducible refine gate_calleeT (t := 11) rfl ?_); refine goesTL_ (some 16) rfl rfl Tryd.func37 (by kernel_rfl) rfl #[.agg #[.slice A155_0 ((rd_T27 l0 x8_1).f0).length c155_0, .int .i64 ((rd_T27 l0 x8_1).f1)]] rfl (by rfl) q2_ ?_; (with_reducible refine (bag_Sort_1.calls k1 _ _ ((rd_T27 l0 x8_1).f0) ((rd_T27 l0 x8_1).f1) false _ ?side1 ?side2 A6.out q1_).mono ?_); (case side1 => repeat (first | exact (Kd.C_below HR155_0.out HB.out) | (with_reducible refine Kd.C_alloc ?_ _) | (with_reducible refine Kd.C_drewN ?_ _) | (with_reducible refine Kd.C_drew ?_))); (case side2 => exact HC155_0.out); rintro e w9 ⟨rfl, hb⟩; refine ⟨_, rfl, ?_⟩; have n0_ := Aside0.mk (below_step q0_ hb); clear HB; have HB := n0_; clear n0_; (try clear hb); (try clear hb2); (try clear hk); (try clear hi)))
       go_roundg k1
       case measure => have := HK1.out; omega
       case rel => exact ⟨(wrap64 (x8_1 + 1)), q9_, H', ⟨by have := HK1.out; omega⟩, ⟨q0_⟩⟩
     ·rw [if_neg c5] at H
      exact absurd H (by simp)
    ·rw [if_neg c4] at H
     exact absurd H (by simp)
   ·rw [if_neg c3] at H
    have c3b0 : decide (x8_1 < (l0.length : Int)) = false := decide_eq_false c3
    clear c3
    obtain rfl := Option.some.inj H
    go_wp2
    go_ret
    exact ⟨q4_, q0_⟩
def api_Count_32_at_bag_Sort_1.f (k : Nat) (l0 : List (S27))  : Option (Bool) := (api_Count_51_at_bag_Sort_1.f k l0).bind fun t157 => (some (decide (t157 ≥ 0)))
theorem api_Count_32_at_bag_Sort_1.mono : ∀ a0 k, LeO (api_Count_32_at_bag_Sort_1.f k a0) (api_Count_32_at_bag_Sort_1.f (k + 1) a0) := by
 intro a0 k
 unfold api_Count_32_at_bag_Sort_1.f
 repeat' first
   | (with_reducible exact api_Count_51_at_bag_Sort_1.mono _ _)
   | (with_reducible exact LeO.refl _)
   | (with_reducible exact LeO.none _)
   | (with_reducible refine LeO.ite ?_ ?_)
   | (with_reducible refine LeO.bind ?_ (fun _ => ?_))
   | exact api_Count_51_at_bag_Sort_1.mono _ _
   | exact LeO.none _
   | refine LeO.ite ?_ ?_
   | refine LeO.bind ?_ (fun _ => ?_)
set_option maxHeartbeats 8000000 in
set_option maxRecDepth 100000 in
theorem api_Count_32_at_bag_Sort_1.calls (k : Nat) (A0 : Option Addr) (c0 : Nat) (l0 : List (S27))  (r : Bool) (w : World) (hr0 : Kd.C k27 w A0 l0.length l0) (hc0 : l0.length ≤ c0) (h : api_Count_32_at_bag_Sort_1.f k l0 = some r) (hG : Glob w) :
  Calls Tryd.prog 32 #[.slice A0 l0.length c0, (.func (.func 37) #[] #[])] w fun e w' => e = .returned (.bool r) ∧ Below w.heap.size w w' := by
 have HG := Aside0.mk hG
 clear hG
 have HR0 := Aside0.mk hr0
 have HC0 := Aside0.mk hc0
 clear hr0 hc0
 have HB := Aside0.mk (Below.refl w.heap.size w)
 have H : ((api_Count_51_at_bag_Sort_1.f k l0).bind fun t157 => (some (decide (t157 ≥ 0)))) = some r := h
 clear h
 replace H := Option.bind_eq_some_iff.mp H
 obtain ⟨t157, A30, H⟩ := H
 replace H : (some (decide (t157 ≥ 0))) = some r := H
 have A3 := Aside0.mk A30
 clear A30
 obtain rfl := Option.some.inj H
 go_enter Tryd.func32, Tryd.ntmps32
 go_wp2_with (first | ((with_reducible refine gate_callee (f := 51) rfl ?_); refine goesL_ (some 7) rfl rfl Tryd.func51 (by kernel_rfl) rfl #[.slice A0 l0.length c0, (.func (.func 37) #[] #[])] rfl q2_ ?_; (with_reducible refine (api_Count_51_at_bag_Sort_1.calls k _ _ l0  t157 _ ?side1 ?side2 A3.out q1_).mono ?_); (case side1 => repeat (first | exact HR0.out | (with_reducible refine Kd.C_alloc ?_ _) | (with_reducible refine Kd.C_drewN ?_ _) | (with_reducible refine Kd.C_drew ?_))); (case side2 => exact HC0.out); rintro e w4 ⟨rfl, hb⟩; refine ⟨_, rfl, ?_⟩; have n0_ := Aside0.mk (below_step q0_ hb); clear HB; have HB := n0_; clear n0_; (try clear hb); (try clear hb2); (try clear hk); (try clear hi)))
 go_ret
 exact ⟨q4_, q0_⟩
def bag_Sort_2.f (k : Nat) (l0_0 : List (S51)) (a0_1 : Int) (l1_0 : List (S51)) (a1_1 : Int) : Option (Int) := (value_Rows.f k l0_0 l1_0).bind fun t160 => (some t160)
theorem bag_Sort_2.mono : ∀ a0 a1 a2 a3 k, LeO (bag_Sort_2.f k a0 a1 a2 a3) (bag_Sort_2.f (k + 1) a0 a1 a2 a3) := by
 intro a0 a1 a2 a3 k
 unfold bag_Sort_2.f
 repeat' first
   | (with_reducible exact value_Rows.mono _ _ _)
   | (with_reducible exact LeO.refl _)
   | (with_reducible exact LeO.none _)
   | (with_reducible refine LeO.ite ?_ ?_)
   | (with_reducible refine LeO.bind ?_ (fun _ => ?_))
   | exact value_Rows.mono _ _ _
   | exact LeO.none _
   | refine LeO.ite ?_ ?_
   | refine LeO.bind ?_ (fun _ => ?_)
set_option maxHeartbeats 8000000 in
set_option maxRecDepth 100000 in
theorem bag_Sort_2.calls (k : Nat) (A0_0 : Option Addr) (c0_0 : Nat) (l0_0 : List (S51)) (a0_1 : Int) (A1_0 : Option Addr) (c1_0 : Nat) (l1_0 : List (S51)) (a1_1 : Int) (r : Int) (w : World) (hr0_0 : Kd.C k51 w A0_0 l0_0.length l0_0) (hc0_0 : l0_0.length ≤ c0_0) (hr1_0 : Kd.C k51 w A1_0 l1_0.length l1_0) (hc1_0 : l1_0.length ≤ c1_0) (h : bag_Sort_2.f k l0_0 a0_1 l1_0 a1_1 = some r) :
  Calls Tryd.prog 40 #[.agg #[.slice A0_0 l0_0.length c0_0, .int .i64 a0_1], .agg #[.slice A1_0 l1_0.length c1_0, .int .i64 a1_1]] w fun e w' => e = .returned (.int .i64 r) ∧ Below w.heap.size w w' := by
 have hu27 := Tryd.underlying27
 have HR0_0 := Aside0.mk hr0_0
 have HC0_0 := Aside0.mk hc0_0
 clear hr0_0 hc0_0
 have HR1_0 := Aside0.mk hr1_0
 have HC1_0 := Aside0.mk hc1_0
 clear hr1_0 hc1_0
 have HB := Aside0.mk (Below.refl w.heap.size w)
 have H : ((value_Rows.f k l0_0 l1_0).bind fun t160 => (some t160)) = some r := h
 clear h
 replace H := Option.bind_eq_some_iff.mp H
 obtain ⟨t160, A30, H⟩ := H
 replace H : (some t160) = some r := H
 have A3 := Aside0.mk A30
 clear A30
 obtain rfl := Option.some.inj H
 go_enter Tryd.func40, Tryd.ntmps40
 go_wp2_with (first | ((with_reducible refine gate_dst (N := 2) rfl ?_); refine box_event ?hg (N := 2) ?hd (cs := #[.slice A0_0 l0_0.length c0_0, .int .i64 a0_1]) (t := 27) ?hr ?_; (case hd => rfl); (case hg => rfl); (case hr => first | (go_simp; done) | (go_simp; rfl)); intro gb158 hg w4 hbox hb; have n0_ := Aside0.mk (below_step q0_ hb); have n1_ := Aside0.mk (hbox); have n2_ := Aside0.mk ((q3_ : w.heap.size ≤ gb158)); have n3_ := Aside0.mk ((q3_ : w.heap.size ≤ gb158)); clear HB; have HB := n0_; have BK158 := n1_; have GW158 := n2_; have GE158 := n3_; clear n0_ n1_ n2_ n3_; clear hb hbox hg) | ((with_reducible refine gate_dst (N := 3) rfl ?_); refine box_event ?hg (N := 3) ?hd (cs := #[.slice A1_0 l1_0.length c1_0, .int .i64 a1_1]) (t := 27) ?hr ?_; (case hd => rfl); (case hg => rfl); (case hr => first | (go_simp; done) | (go_simp; rfl)); intro gb159 hg w5 hbox hb; have n0_ := Aside0.mk (blk_below (g := gb158) (o := .cells #[.slice A0_0 l0_0.length c0_0, .int .i64 a0_1] 27 (0, 0)) q66_ hb); have n1_ := Aside0.mk (below_step q0_ hb); have n2_ := Aside0.mk (hbox); have n3_ := Aside0.mk ((q3_ : w.heap.size ≤ gb159)); have n4_ := Aside0.mk ((q3_ : w.heap.size ≤ gb159)); have n5_ := Aside0.mk ((by rw [hg]; exact Nat.ne_of_lt (blk_lt (g := gb158) (o := .cells #[.slice A0_0 l0_0.length c0_0, .int .i64 a0_1] 27 (0, 0)) q66_) : gb158 ≠ gb159)); have n6_ := Aside0.mk ((by rw [hg]; exact Nat.ne_of_gt (blk_lt (g := gb158) (o := .cells #[.slice A0_0 l0_0.length c0_0, .int .i64 a0_1] 27 (0, 0)) q66_) : gb159 ≠ gb158)); clear BK158; clear HB; have BK158 := n0_; have HB := n1_; have BK159 := n2_; have GW159 := n3_; have GE159 := n4_; have NB158_159 := n5_; have NB159_158 := n6_; clear n0_ n1_ n2_ n3_ n4_ n5_ n6_; clear hb hbox hg; have hnb6 := NB158_159.out; have hnc6 := NB159_158.out; have hcz7_0 : w5.cell? ⟨gb158, 0, none⟩ = some (.slice A0_0 l0_0.length c0_0) := (blk_cell BK158.out 0).trans rfl; have hcz7_1 : w5.cell? ⟨gb158, 1, none⟩ = some (.int .i64 a0_1) := (blk_cell BK158.out 1).trans rfl; have hfz7_0 := blk_frozen BK158.out 0; have hfz7_1 := blk_frozen BK158.out 1; have hcz8_0 : w5.cell? ⟨gb159, 0, none⟩ = some (.slice A1_0 l1_0.length c1_0) := (blk_cell BK159.out 0).trans rfl; have hcz8_1 : w5.cell? ⟨gb159, 1, none⟩ = some (.int .i64 a1_1) := (blk_cell BK159.out 1).trans rfl; have hfz8_0 := blk_frozen BK159.out 0; have hfz8_1 := blk_frozen BK159.out 1) | ((with_reducible refine gate_callee (f := 31) rfl ?_); refine goesL_ (some 9) rfl rfl Tryd.func31 (by kernel_rfl) rfl #[.slice A0_0 l0_0.length c0_0, .slice A1_0 l1_0.length c1_0] rfl q2_ ?_; (with_reducible refine (value_Rows.calls k _ _ l0_0 _ _ l1_0 t160 _ ?side1 ?side2 ?side3 ?side4 A3.out).mono ?_); (case side1 => repeat (first | exact (Kd.C_below HR0_0.out HB.out) | (with_reducible refine Kd.C_alloc ?_ _) | (with_reducible refine Kd.C_drewN ?_ _) | (with_reducible refine Kd.C_drew ?_))); (case side2 => exact HC0_0.out); (case side3 => repeat (first | exact (Kd.C_below HR1_0.out HB.out) | (with_reducible refine Kd.C_alloc ?_ _) | (with_reducible refine Kd.C_drewN ?_ _) | (with_reducible refine Kd.C_drew ?_))); (case side4 => exact HC1_0.out); rintro e w9 ⟨rfl, hb⟩; refine ⟨_, rfl, ?_⟩; have n0_ := Aside0.mk (blk_below (g := gb158) (o := .cells #[.slice A0_0 l0_0.length c0_0, .int .i64 a0_1] 27 (0, 0)) q66_ hb); have n1_ := Aside0.mk (blk_below (g := gb159) (o := .cells #[.slice A1_0 l1_0.length c1_0, .int .i64 a1_1] 27 (0, 0)) (by (with_reducible repeat first | apply bN_ | apply bD_ | apply bA_); exact BK159.out) hb); have n2_ := Aside0.mk (below_step q0_ hb); clear BK158; clear BK159; clear HB; have BK158 := n0_; have BK159 := n1_; have HB := n2_; clear n0_ n1_ n2_; (try clear hb); (try clear hb2); (try clear hk); (try clear hi)))
 go_ret
 exact ⟨q4_, q0_⟩
def sv_i (a b : Int) : Int := if a < b then -1 else if a > b then 1 else 0
def sv_b (a b : ByteArray) : Int := if Op.bytesLess a.toList b.toList = true then -1 else if Op.bytesLess b.toList a.toList = true then 1 else 0
def sv_o (a b c : Int) : Int := if a = 0 then (if b = 0 then c else b) else a
def sv_v (a b : S51) : Int := sv_o (sv_i a.f0 b.f0) (sv_i a.f1 b.f1) (sv_b a.f2 b.f2)
def sv_rows : List S51 → List S51 → Int
 | [], [] => 0
 | [], _ :: _ => -1
 | _ :: _, [] => 1
 | a :: l, b :: m => if sv_v a b = 0 then sv_rows l m else sv_v a b
def sv_lt (x y : S27) : Bool := decide (sv_rows x.f0 y.f0 < 0)
instance sv_inh : Inhabited S27 := ⟨z27⟩
def sv_ok (k : Nat) (l : List S27) : Prop := l.length ≤ 1000000 ∧ ∀ x ∈ z27 :: l, ∀ y ∈ z27 :: l, bag_Sort_2.f k x.f0 x.f1 y.f0 y.f1 = some (sv_rows x.f0 y.f0)
instance sv_dec (k : Nat) (l : List S27) : Decidable (sv_ok k l) := by unfold sv_ok; infer_instance
def api_Count_39_at_bag_Sort_2.f (k : Nat) (l0 : List S27) : Option (List S27) := if sv_ok k l0 then some (Go.Stb.stable sv_lt l0.toArray).toList else none
theorem api_Count_39_at_bag_Sort_2.mono : ∀ a0 k, LeO (api_Count_39_at_bag_Sort_2.f k a0) (api_Count_39_at_bag_Sort_2.f (k + 1) a0) := by
 intro l k r h
 unfold api_Count_39_at_bag_Sort_2.f at h ⊢
 split at h
 ·rename_i hk
  rw [if_pos ⟨hk.1, fun x hx y hy => bag_Sort_2.mono _ _ _ _ k _ (hk.2 x hx y hy)⟩]
  exact h
 ·cases h
theorem api_Count_39_at_bag_Sort_2.calls (k : Nat) (ok : Nat → Prop) (P_ : Nat → Prop) (u : Value) (l0 r : List S27) (w0 w : World) (hB : Below w0.heap.size w0 w) (ho : Kd.N k27 27 w w0.heap.size ok u l0 ∧ ∀ k, some k = u.ownBlock → P_ k) (h : api_Count_39_at_bag_Sort_2.f k l0 = some r) :
  Calls Tryd.prog 39 #[u, (.func (.func 40) #[] #[])] w fun e w' => e = .returned (.tuple #[]) ∧ Kd.N k27 27 w' w0.heap.size ok u r ∧ Below w0.heap.size w0 w' ∧ Kept w w' P_ := by
 unfold api_Count_39_at_bag_Sort_2.f at h
 split at h
 case isFalse => cases h
 rename_i hk
 injection h with h
 subst h
 exact sort_N (d := k27) (show Go.Proofs.Stb.StLays Tryd.prog k27.sz from Go.Proofs.Stb.stLays) 40 (fun x y => sv_rows x.f0 y.f0) _ (fun W ok => k27_mkF W ok z27 (A0 := none) (c0 := 0) (Nat.le_refl _) (Kd.F_nil _ _ _)) l0
  (fun args w => enters_of Tryd.func40 (by decide) rfl args w) Tryd.underlying71
  (fun x hx y hy W cx cy kx ky => by
   obtain ⟨A0, c0, rfl, h1, h2⟩ := k27_open kx
   obtain ⟨A1, c1, rfl, h3, h4⟩ := k27_open ky
   exact bag_Sort_2.calls k A0 c0 x.f0 x.f1 A1 c1 y.f0 y.f1 _ W h2 h1 h4 h3 (hk.2 x hx y hy))
  hk.1 P_ u w0 w hB ho.1 ho.2

end Go.Proofs.YtckligjgnbgdiaaDoor.P
