-- HALVED
import Derived.Test.YtckligjgnbgdiaaDoorPx0
import Derived.Test.YtckligjgnbgdiaaDoorPx1
namespace Go.Proofs.YtckligjgnbgdiaaDoor.P
open Go.RowKit Go.Proofs.YtckligjgnbgdiaaDoorW.PrintWords Go.Proofs.YtckligjgnbgdiaaDoorW.PrintLast Go.Proofs.YtckligjgnbgdiaaDoorW.PrintMore
attribute [local go_sem] max2_int min2_mn max_two min_two max_three min_three max_four min_four   -- for this text's walks alone
set_option linter.unusedVariables false
set_option linter.unusedSimpArgs false
def api_Value_47_at_bag_wrong.l0 : Nat → List (S51) → Int → Int → Option (Int)
 | 0, _, _, _ => none
 | k + 1, x0, x7, x8 => if x8 < x7 then (if 0 ≤ x8 then (if x8 < (x0.length : Int) then ((bag_wrong.f ((rd_T51 x0 x8).f0) ((rd_T51 x0 x8).f1) ((rd_T51 x0 x8).f2)).bind fun t125 => (if t125 = true then (some x8) else (api_Value_47_at_bag_wrong.l0 k x0 x7 (wrap64 (x8 + 1))))) else (none)) else (none)) else (some (-1))
def api_Value_47_at_bag_wrong.f (k : Nat) (l0 : List (S51))  : Option (Int) := api_Value_47_at_bag_wrong.l0 k l0 (l0.length : Int) 0
theorem api_Value_47_at_bag_wrong.mono_l : ∀ k, (∀ y0 y1 y2, LeO (api_Value_47_at_bag_wrong.l0 k y0 y1 y2) (api_Value_47_at_bag_wrong.l0 (k + 1) y0 y1 y2))
 | 0 => fun _ _ _ r h => by simp [api_Value_47_at_bag_wrong.l0] at h
 | k + 1 => by
  have ih0 := api_Value_47_at_bag_wrong.mono_l k
  ·intro y0 y1 y2
   unfold api_Value_47_at_bag_wrong.l0
   repeat' first
   | (with_reducible exact ih0 _ _ _)
   | (with_reducible exact LeO.refl _)
   | (with_reducible exact LeO.none _)
   | (with_reducible refine LeO.ite ?_ ?_)
   | (with_reducible refine LeO.bind ?_ (fun _ => ?_))
   | exact ih0 _ _ _
   | exact LeO.none _
   | refine LeO.ite ?_ ?_
   | refine LeO.bind ?_ (fun _ => ?_)
theorem api_Value_47_at_bag_wrong.mono : ∀ a0 k, LeO (api_Value_47_at_bag_wrong.f k a0) (api_Value_47_at_bag_wrong.f (k + 1) a0) := by
 intro a0 k
 have ih0 := api_Value_47_at_bag_wrong.mono_l k
 unfold api_Value_47_at_bag_wrong.f
 repeat' first
   | (with_reducible exact ih0 _ _ _)
   | (with_reducible exact LeO.refl _)
   | (with_reducible exact LeO.none _)
   | (with_reducible refine LeO.ite ?_ ?_)
   | (with_reducible refine LeO.bind ?_ (fun _ => ?_))
   | exact ih0 _ _ _
   | exact LeO.none _
   | refine LeO.ite ?_ ?_
   | refine LeO.bind ?_ (fun _ => ?_)
set_option maxHeartbeats 8000000 in
set_option maxRecDepth 100000 in
theorem api_Value_47_at_bag_wrong.calls (k : Nat) (A0 : Option Addr) (c0 : Nat) (l0 : List (S51))  (r : Int) (w : World) (hr0 : Kd.C k51 w A0 l0.length l0) (hc0 : l0.length ≤ c0) (h : api_Value_47_at_bag_wrong.f k l0 = some r) (hG : Glob w) :
  Calls Tryd.prog 47 #[.slice A0 l0.length c0, (.func (.func 30) #[] #[])] w fun e w' => e = .returned (.int .i64 r) ∧ Below w.heap.size w w' := by
 have hu51 := Tryd.underlying51
 have HG := Aside0.mk hG
 clear hG
 have HR0 := Aside0.mk hr0
 have HC0 := Aside0.mk hc0
 clear hr0 hc0
 have HB := Aside0.mk (Below.refl w.heap.size w)
 have H : (api_Value_47_at_bag_wrong.l0 k l0 (l0.length : Int) 0) = some r := h
 clear h
 have H' := Aside0.mk H
 clear H
 go_enter Tryd.func47, Tryd.ntmps47
 go_wp2
 go_loopg [8] k (fun kq v8 w' => ∃ (x8_1 : Int), v8 = .int .i64 x8_1 ∧ Aside0 (api_Value_47_at_bag_wrong.l0 kq l0 (l0.length : Int) x8_1 = some r) ∧ Aside0 (kq ≤ k) ∧ Aside0 (Below w.heap.size w w'))
 case atStart => exact ⟨(0), q9_, H', ⟨Nat.le_refl _⟩, ⟨q0_⟩⟩
 case round =>
  clear H'
  try clear p2
  obtain ⟨x8_1, rfl, HA, HK1, HB⟩ := hrel
  cases gk with
  | zero => exact absurd HA.out (by simp [api_Value_47_at_bag_wrong.l0])
  | succ k1 =>
   have H := HA.out
   clear HA
   simp only [api_Value_47_at_bag_wrong.l0] at H
   by_cases c3 : x8_1 < (l0.length : Int)
   ·rw [if_pos c3] at H
    have c3b0 : decide (x8_1 < (l0.length : Int)) = true := decide_eq_true c3
    clear c3
    by_cases c4 : 0 ≤ x8_1
    ·rw [if_pos c4] at H
     have c4b0 : decide (0 ≤ x8_1) = true := decide_eq_true c4
     clear c4
     by_cases c5 : x8_1 < (l0.length : Int)
     ·rw [if_pos c5] at H
      have c5b0 : decide (x8_1 < (l0.length : Int)) = true := decide_eq_true c5
      clear c5
      replace H := Option.bind_eq_some_iff.mp H
      obtain ⟨t125, A60, H⟩ := H
      replace H : (if t125 = true then (some x8_1) else (api_Value_47_at_bag_wrong.l0 k1 l0 (l0.length : Int) (wrap64 (x8_1 + 1)))) = some r := H
      have A6 := Aside0.mk A60
      clear A60
      by_cases c7 : t125 = true
      ·subst c7
       replace H := ifT_ H
       obtain rfl := Option.some.inj H
       have p124 : 0 ≤ (x8_1 : Int) := of_decide_eq_true q5_
       have q124 : x8_1 < (l0.length : Int) := of_decide_eq_true q5_
       obtain ⟨ad124, e124, hx124_0, hx124_1, hx124_2⟩ := at_T51 HR0.out x8_1 p124 q124
       cases e124
       replace hx124_0 := (HB.out.cell (World.block_lt_of_cell? w _ hx124_0)).trans hx124_0
       replace hx124_1 := (HB.out.cell (World.block_lt_of_cell? w _ hx124_1)).trans hx124_1
       replace hx124_2 := (HB.out.cell (World.block_lt_of_cell? w _ hx124_2)).trans hx124_2
       replace p124 := eq_true p124
       replace q124 := eq_true q124
       go_wp2_with (first | ((with_reducible refine gate_calleeT (t := 11) rfl ?_); refine goesTL_ (some 16) rfl rfl Tryd.func30 (by kernel_rfl) rfl #[.agg #[.int .i64 ((rd_T51 l0 x8_1).f0), .int .i64 ((rd_T51 l0 x8_1).f1), .string ((rd_T51 l0 x8_1).f2)]] rfl (by rfl) q2_ ?_; (with_reducible refine (bag_wrong.calls ((rd_T51 l0 x8_1).f0) ((rd_T51 l0 x8_1).f1) ((rd_T51 l0 x8_1).f2) true _ A6.out q1_).mono ?_); rintro e w8 ⟨rfl, hb⟩; refine ⟨_, rfl, ?_⟩; have n0_ := Aside0.mk (below_step q0_ hb); clear HB; have HB := n0_; clear n0_; (try clear hb); (try clear hb2); (try clear hk); (try clear hi)))
       go_ret
       exact ⟨q4_, q0_⟩
      ·replace c7 := Bool.eq_false_iff.mpr c7
       subst c7
       replace H := ifF_ H
       have H' := Aside0.mk H
       clear H
       have p124 : 0 ≤ (x8_1 : Int) := of_decide_eq_true q5_
       have q124 : x8_1 < (l0.length : Int) := of_decide_eq_true q5_
       obtain ⟨ad124, e124, hx124_0, hx124_1, hx124_2⟩ := at_T51 HR0.out x8_1 p124 q124
       cases e124
       replace hx124_0 := (HB.out.cell (World.block_lt_of_cell? w _ hx124_0)).trans hx124_0
       replace hx124_1 := (HB.out.cell (World.block_lt_of_cell? w _ hx124_1)).trans hx124_1
       replace hx124_2 := (HB.out.cell (World.block_lt_of_cell? w _ hx124_2)).trans hx124_2
       replace p124 := eq_true p124
       replace q124 := eq_true q124
       go_wp2_with (first | ((with_reducible refine gate_calleeT (t := 11) rfl ?_); refine goesTL_ (some 16) rfl rfl Tryd.func30 (by kernel_rfl) rfl #[.agg #[.int .i64 ((rd_T51 l0 x8_1).f0), .int .i64 ((rd_T51 l0 x8_1).f1), .string ((rd_T51 l0 x8_1).f2)]] rfl (by rfl) q2_ ?_; (with_reducible refine (bag_wrong.calls ((rd_T51 l0 x8_1).f0) ((rd_T51 l0 x8_1).f1) ((rd_T51 l0 x8_1).f2) false _ A6.out q1_).mono ?_); rintro e w9 ⟨rfl, hb⟩; refine ⟨_, rfl, ?_⟩; have n0_ := Aside0.mk (below_step q0_ hb); clear HB; have HB := n0_; clear n0_; (try clear hb); (try clear hb2); (try clear hk); (try clear hi)))
       go_roundg k1
       case measure => have := HK1.out; omega
       case rel => exact ⟨(wrap64 (x8_1 + 1)), q9_, H', ⟨by have := HK1.out; omega⟩, ⟨q0_⟩⟩
     ·rw [if_neg c5] at H
      exact absurd H (by simp)
    ·rw [if_neg c4] at H
     exact absurd H (by simp)
   ·rw [if_neg c3] at H
    have c3b0 : decide (x8_1 < (l0.length : Int)) = false := decide_eq_false c3
    clear c3
    obtain rfl := Option.some.inj H
    go_wp2
    go_ret
    exact ⟨q4_, q0_⟩
def api_Value_29_at_bag_wrong.f (k : Nat) (l0 : List (S51))  : Option (Bool) := (api_Value_47_at_bag_wrong.f k l0).bind fun t126 => (some (decide (t126 ≥ 0)))
theorem api_Value_29_at_bag_wrong.mono : ∀ a0 k, LeO (api_Value_29_at_bag_wrong.f k a0) (api_Value_29_at_bag_wrong.f (k + 1) a0) := by
 intro a0 k
 unfold api_Value_29_at_bag_wrong.f
 repeat' first
   | (with_reducible exact api_Value_47_at_bag_wrong.mono _ _)
   | (with_reducible exact LeO.refl _)
   | (with_reducible exact LeO.none _)
   | (with_reducible refine LeO.ite ?_ ?_)
   | (with_reducible refine LeO.bind ?_ (fun _ => ?_))
   | exact api_Value_47_at_bag_wrong.mono _ _
   | exact LeO.none _
   | refine LeO.ite ?_ ?_
   | refine LeO.bind ?_ (fun _ => ?_)
set_option maxHeartbeats 8000000 in
set_option maxRecDepth 100000 in
theorem api_Value_29_at_bag_wrong.calls (k : Nat) (A0 : Option Addr) (c0 : Nat) (l0 : List (S51))  (r : Bool) (w : World) (hr0 : Kd.C k51 w A0 l0.length l0) (hc0 : l0.length ≤ c0) (h : api_Value_29_at_bag_wrong.f k l0 = some r) (hG : Glob w) :
  Calls Tryd.prog 29 #[.slice A0 l0.length c0, (.func (.func 30) #[] #[])] w fun e w' => e = .returned (.bool r) ∧ Below w.heap.size w w' := by
 have HG := Aside0.mk hG
 clear hG
 have HR0 := Aside0.mk hr0
 have HC0 := Aside0.mk hc0
 clear hr0 hc0
 have HB := Aside0.mk (Below.refl w.heap.size w)
 have H : ((api_Value_47_at_bag_wrong.f k l0).bind fun t126 => (some (decide (t126 ≥ 0)))) = some r := h
 clear h
 replace H := Option.bind_eq_some_iff.mp H
 obtain ⟨t126, A30, H⟩ := H
 replace H : (some (decide (t126 ≥ 0))) = some r := H
 have A3 := Aside0.mk A30
 clear A30
 obtain rfl := Option.some.inj H
 go_enter Tryd.func29, Tryd.ntmps29
 go_wp2_with (first | ((with_reducible refine gate_callee (f := 47) rfl ?_); refine goesL_ (some 7) rfl rfl Tryd.func47 (by kernel_rfl) rfl #[.slice A0 l0.length c0, (.func (.func 30) #[] #[])] rfl q2_ ?_; (with_reducible refine (api_Value_47_at_bag_wrong.calls k _ _ l0  t126 _ ?side1 ?side2 A3.out q1_).mono ?_); (case side1 => repeat (first | exact HR0.out | (with_reducible refine Kd.C_alloc ?_ _) | (with_reducible refine Kd.C_drewN ?_ _) | (with_reducible refine Kd.C_drew ?_))); (case side2 => exact HC0.out); rintro e w4 ⟨rfl, hb⟩; refine ⟨_, rfl, ?_⟩; have n0_ := Aside0.mk (below_step q0_ hb); clear HB; have HB := n0_; clear n0_; (try clear hb); (try clear hb2); (try clear hk); (try clear hi)))
 go_ret
 exact ⟨q4_, q0_⟩

end Go.Proofs.YtckligjgnbgdiaaDoor.P
