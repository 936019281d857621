-- HALVED
import Derived.Test.YtckligjgnbgdiaaDoorPx0
import Derived.Test.YtckligjgnbgdiaaDoorPx60
namespace Go.Proofs.YtckligjgnbgdiaaDoor.P
open Go.RowKit Go.Proofs.YtckligjgnbgdiaaDoorW.PrintWords Go.Proofs.YtckligjgnbgdiaaDoorW.PrintLast Go.Proofs.YtckligjgnbgdiaaDoorW.PrintMore
attribute [local go_sem] max2_int min2_mn max_two min_two max_three min_three max_four min_four   -- for this text's walks alone
set_option linter.unusedVariables false
set_option linter.unusedSimpArgs false
def corollaryref13_Equal.l0 : Nat → List (S27) → List (S27) → Int → Option (Bool)
 | 0, _, _, _ => none
 | k + 1, x0, x1, x5 => if x5 < (x0.length : Int) then (if 0 ≤ x5 then (if x5 < (x1.length : Int) then (if ((rd_T27 x0 x5).f1) = ((rd_T27 x1 x5).f1) then ((corollaryref01_SameRow.f k ((rd_T27 x0 x5).f0) ((rd_T27 x1 x5).f0)).bind fun t298 => (if t298 = true then (corollaryref13_Equal.l0 k x0 x1 (wrap64 (x5 + 1))) else (some false))) else (some false)) else (none)) else (none)) else (some true)
def corollaryref13_Equal.f (k : Nat) (l0 : List (S27)) (l1 : List (S27)) : Option (Bool) := if (l0.length : Int) = (l1.length : Int) then (corollaryref13_Equal.l0 k l0 l1 0) else (some false)
theorem corollaryref13_Equal.mono_l : ∀ k, (∀ y0 y1 y2, LeO (corollaryref13_Equal.l0 k y0 y1 y2) (corollaryref13_Equal.l0 (k + 1) y0 y1 y2))
 | 0 => fun _ _ _ r h => by simp [corollaryref13_Equal.l0] at h
 | k + 1 => by
  have ih0 := corollaryref13_Equal.mono_l k
  ·intro y0 y1 y2
   unfold corollaryref13_Equal.l0
   repeat' first
   | (with_reducible exact ih0 _ _ _)
   | (with_reducible exact corollaryref01_SameRow.mono _ _ _)
   | (with_reducible exact LeO.refl _)
   | (with_reducible exact LeO.none _)
   | (with_reducible refine LeO.ite ?_ ?_)
   | (with_reducible refine LeO.bind ?_ (fun _ => ?_))
   | exact ih0 _ _ _
   | exact corollaryref01_SameRow.mono _ _ _
   | exact LeO.none _
   | refine LeO.ite ?_ ?_
   | refine LeO.bind ?_ (fun _ => ?_)
theorem corollaryref13_Equal.mono : ∀ a0 a1 k, LeO (corollaryref13_Equal.f k a0 a1) (corollaryref13_Equal.f (k + 1) a0 a1) := by
 intro a0 a1 k
 have ih0 := corollaryref13_Equal.mono_l k
 unfold corollaryref13_Equal.f
 repeat' first
   | (with_reducible exact ih0 _ _ _)
   | (with_reducible exact corollaryref01_SameRow.mono _ _ _)
   | (with_reducible exact LeO.refl _)
   | (with_reducible exact LeO.none _)
   | (with_reducible refine LeO.ite ?_ ?_)
   | (with_reducible refine LeO.bind ?_ (fun _ => ?_))
   | exact ih0 _ _ _
   | exact corollaryref01_SameRow.mono _ _ _
   | exact LeO.none _
   | refine LeO.ite ?_ ?_
   | refine LeO.bind ?_ (fun _ => ?_)
set_option maxHeartbeats 8000000 in
set_option maxRecDepth 100000 in
theorem corollaryref13_Equal.calls (k : Nat) (A0 : Option Addr) (c0 : Nat) (l0 : List (S27)) (A1 : Option Addr) (c1 : Nat) (l1 : List (S27)) (r : Bool) (w : World) (hr0 : Kd.C k27 w A0 l0.length l0) (hc0 : l0.length ≤ c0) (hr1 : Kd.C k27 w A1 l1.length l1) (hc1 : l1.length ≤ c1) (h : corollaryref13_Equal.f k l0 l1 = some r) :
  Calls Tryd.prog 21 #[.slice A0 l0.length c0, .slice A1 l1.length c1] w fun e w' => e = .returned (.bool r) ∧ Drawn0 w w' := by
 have HR0 := Aside0.mk hr0
 have HC0 := Aside0.mk hc0
 clear hr0 hc0
 have HR1 := Aside0.mk hr1
 have HC1 := Aside0.mk hc1
 clear hr1 hc1
 have H : (if (l0.length : Int) = (l1.length : Int) then (corollaryref13_Equal.l0 k l0 l1 0) else (some false)) = some r := h
 clear h
 by_cases c3 : (l0.length : Int) = (l1.length : Int)
 ·rw [if_pos c3] at H
  have c3b0 : ((l0.length : Int) == (l1.length : Int)) = true := beq_iff_eq.mpr c3
  have c3b1 : ((l0.length : Int) != (l1.length : Int)) = false := bne_eq_false_iff_eq.mpr c3
  have c3b2 : (l0.length == l1.length) = true := by first | simpa using c3 | (simp at c3 ⊢; omega)
  clear c3
  have H' := Aside0.mk H
  clear H
  go_enter Tryd.func21, Tryd.ntmps21
  go_wp2
  repeat (go_quiet (fail); try go_wp2)
  go_loopg [5] k (fun kq v5 w' => ∃ (x5_1 : Int), v5 = .int .i64 x5_1 ∧ Aside0 (corollaryref13_Equal.l0 kq l0 l1 x5_1 = some r) ∧ Aside0 (kq ≤ k) ∧ Drawn0 w w')
  case atStart => exact ⟨(0), q9_, H', ⟨Nat.le_refl _⟩, q10_⟩
  case round =>
   clear H'
   try clear c1
   try clear c2
   try clear p2
   try clear c3
   try clear c3b0
   try clear c3b1
   try clear c3b2
   obtain ⟨x5_1, rfl, HA, HK1, ⟨m1, rfl⟩⟩ := hrel
   cases gk with
   | zero => exact absurd HA.out (by simp [corollaryref13_Equal.l0])
   | succ k1 =>
    have H := HA.out
    clear HA
    simp only [corollaryref13_Equal.l0] at H
    by_cases c4 : x5_1 < (l0.length : Int)
    ·rw [if_pos c4] at H
     have c4b0 : decide (x5_1 < (l0.length : Int)) = true := decide_eq_true c4
     clear c4
     by_cases c5 : 0 ≤ x5_1
     ·rw [if_pos c5] at H
      have c5b0 : decide (0 ≤ x5_1) = true := decide_eq_true c5
      clear c5
      by_cases c6 : x5_1 < (l1.length : Int)
      ·rw [if_pos c6] at H
       have c6b0 : decide (x5_1 < (l1.length : Int)) = true := decide_eq_true c6
       clear c6
       by_cases c7 : ((rd_T27 l0 x5_1).f1) = ((rd_T27 l1 x5_1).f1)
       ·rw [if_pos c7] at H
        have c7b0 : (((rd_T27 l0 x5_1).f1) == ((rd_T27 l1 x5_1).f1)) = true := beq_iff_eq.mpr c7
        have c7b1 : (((rd_T27 l0 x5_1).f1) != ((rd_T27 l1 x5_1).f1)) = false := bne_eq_false_iff_eq.mpr c7
        clear c7
        replace H := Option.bind_eq_some_iff.mp H
        obtain ⟨t298, A80, H⟩ := H
        replace H : (if t298 = true then (corollaryref13_Equal.l0 k1 l0 l1 (wrap64 (x5_1 + 1))) else (some false)) = some r := H
        have A8 := Aside0.mk A80
        clear A80
        by_cases c9 : t298 = true
        ·subst c9
         replace H := ifT_ H
         have H' := Aside0.mk H
         clear H
         have p294 : 0 ≤ (x5_1 : Int) := of_decide_eq_true q5_
         have q294 : x5_1 < (l0.length : Int) := of_decide_eq_true q5_
         obtain ⟨ad294, A294_0, c294_0, e294, hx294_0, hx294_1, hl294_0, hi294_0⟩ := at_T27 HR0.out x5_1 p294 q294
         cases e294
         have HR294_0 := Aside0.mk hi294_0
         have HC294_0 := Aside0.mk hl294_0
         clear hi294_0 hl294_0
         replace p294 := eq_true p294
         replace q294 := eq_true q294
         have p295 : 0 ≤ (x5_1 : Int) := of_decide_eq_true q5_
         have q295 : x5_1 < (l1.length : Int) := of_decide_eq_true q5_
         obtain ⟨ad295, A295_0, c295_0, e295, hx295_0, hx295_1, hl295_0, hi295_0⟩ := at_T27 HR1.out x5_1 p295 q295
         cases e295
         have HR295_0 := Aside0.mk hi295_0
         have HC295_0 := Aside0.mk hl295_0
         clear hi295_0 hl295_0
         replace p295 := eq_true p295
         replace q295 := eq_true q295
         have p296 : 0 ≤ (x5_1 : Int) := of_decide_eq_true q5_
         have q296 : x5_1 < (l0.length : Int) := of_decide_eq_true q5_
         obtain ⟨ad296, A296_0, c296_0, e296, hx296_0, hx296_1, hl296_0, hi296_0⟩ := at_T27 HR0.out x5_1 p296 q296
         obtain rfl : ad294 = ad296 := (by injection e296)
         have HR296_0 := Aside0.mk hi296_0
         have HC296_0 := Aside0.mk hl296_0
         clear hi296_0 hl296_0
         replace p296 := eq_true p296
         replace q296 := eq_true q296
         have ea_ := Option.some.inj (hx294_0.symm.trans hx296_0)
         injection ea_ with ea_ en_ ec_
         subst ea_
         subst ec_
         clear en_
         have p297 : 0 ≤ (x5_1 : Int) := of_decide_eq_true q5_
         have q297 : x5_1 < (l1.length : Int) := of_decide_eq_true q5_
         obtain ⟨ad297, A297_0, c297_0, e297, hx297_0, hx297_1, hl297_0, hi297_0⟩ := at_T27 HR1.out x5_1 p297 q297
         obtain rfl : ad295 = ad297 := (by injection e297)
         have HR297_0 := Aside0.mk hi297_0
         have HC297_0 := Aside0.mk hl297_0
         clear hi297_0 hl297_0
         replace p297 := eq_true p297
         replace q297 := eq_true q297
         have ea_ := Option.some.inj (hx295_0.symm.trans hx297_0)
         injection ea_ with ea_ en_ ec_
         subst ea_
         subst ec_
         clear en_
         go_wp2_with (first | (go_at_call 36; (with_reducible refine (corollaryref01_SameRow.calls k1 _ _ ((rd_T27 l0 x5_1).f0) _ _ ((rd_T27 l1 x5_1).f0) true _ ?side1 ?side2 ?side3 ?side4 A8.out).mono ?_); (case side1 => repeat (first | exact HR296_0.out | (with_reducible refine Kd.C_alloc ?_ _) | (with_reducible refine Kd.C_drewN ?_ _) | (with_reducible refine Kd.C_drew ?_))); (case side2 => exact HC296_0.out); (case side3 => repeat (first | exact HR297_0.out | (with_reducible refine Kd.C_alloc ?_ _) | (with_reducible refine Kd.C_drewN ?_ _) | (with_reducible refine Kd.C_drew ?_))); (case side4 => exact HC297_0.out); rintro e w' ⟨rfl, ⟨nd, rfl⟩⟩; (try first | exact ⟨rfl, _, World.drewN_drewN _ _ _⟩ | exact ⟨rfl, _, Eq.trans (World.drewN_drewN _ _ _) (congrArg (World.drewN _) (Nat.add_assoc _ _ _))⟩)))
         repeat (go_quiet (first | (go_at_call 36; (with_reducible refine (corollaryref01_SameRow.calls k1 _ _ ((rd_T27 l0 x5_1).f0) _ _ ((rd_T27 l1 x5_1).f0) true _ ?side1 ?side2 ?side3 ?side4 A8.out).mono ?_); (case side1 => repeat (first | exact HR296_0.out | (with_reducible refine Kd.C_alloc ?_ _) | (with_reducible refine Kd.C_drewN ?_ _) | (with_reducible refine Kd.C_drew ?_))); (case side2 => exact HC296_0.out); (case side3 => repeat (first | exact HR297_0.out | (with_reducible refine Kd.C_alloc ?_ _) | (with_reducible refine Kd.C_drewN ?_ _) | (with_reducible refine Kd.C_drew ?_))); (case side4 => exact HC297_0.out); rintro e w' ⟨rfl, ⟨nd, rfl⟩⟩; (try first | exact ⟨rfl, _, World.drewN_drewN _ _ _⟩ | exact ⟨rfl, _, Eq.trans (World.drewN_drewN _ _ _) (congrArg (World.drewN _) (Nat.add_assoc _ _ _))⟩))); try go_wp2_with (first | (go_at_call 36; (with_reducible refine (corollaryref01_SameRow.calls k1 _ _ ((rd_T27 l0 x5_1).f0) _ _ ((rd_T27 l1 x5_1).f0) true _ ?side1 ?side2 ?side3 ?side4 A8.out).mono ?_); (case side1 => repeat (first | exact HR296_0.out | (with_reducible refine Kd.C_alloc ?_ _) | (with_reducible refine Kd.C_drewN ?_ _) | (with_reducible refine Kd.C_drew ?_))); (case side2 => exact HC296_0.out); (case side3 => repeat (first | exact HR297_0.out | (with_reducible refine Kd.C_alloc ?_ _) | (with_reducible refine Kd.C_drewN ?_ _) | (with_reducible refine Kd.C_drew ?_))); (case side4 => exact HC297_0.out); rintro e w' ⟨rfl, ⟨nd, rfl⟩⟩; (try first | exact ⟨rfl, _, World.drewN_drewN _ _ _⟩ | exact ⟨rfl, _, Eq.trans (World.drewN_drewN _ _ _) (congrArg (World.drewN _) (Nat.add_assoc _ _ _))⟩))))
         go_roundg k1
         case measure => have := HK1.out; omega
         case rel => exact ⟨(wrap64 (x5_1 + 1)), q9_, H', ⟨by have := HK1.out; omega⟩, q10_⟩
        ·replace c9 := Bool.eq_false_iff.mpr c9
         subst c9
         replace H := ifF_ H
         obtain rfl := Option.some.inj H
         have p294 : 0 ≤ (x5_1 : Int) := of_decide_eq_true q5_
         have q294 : x5_1 < (l0.length : Int) := of_decide_eq_true q5_
         obtain ⟨ad294, A294_0, c294_0, e294, hx294_0, hx294_1, hl294_0, hi294_0⟩ := at_T27 HR0.out x5_1 p294 q294
         cases e294
         have HR294_0 := Aside0.mk hi294_0
         have HC294_0 := Aside0.mk hl294_0
         clear hi294_0 hl294_0
         replace p294 := eq_true p294
         replace q294 := eq_true q294
         have p295 : 0 ≤ (x5_1 : Int) := of_decide_eq_true q5_
         have q295 : x5_1 < (l1.length : Int) := of_decide_eq_true q5_
         obtain ⟨ad295, A295_0, c295_0, e295, hx295_0, hx295_1, hl295_0, hi295_0⟩ := at_T27 HR1.out x5_1 p295 q295
         cases e295
         have HR295_0 := Aside0.mk hi295_0
         have HC295_0 := Aside0.mk hl295_0
         clear hi295_0 hl295_0
         replace p295 := eq_true p295
         replace q295 := eq_true q295
         have p296 : 0 ≤ (x5_1 : Int) := of_decide_eq_true q5_
         have q296 : x5_1 < (l0.length : Int) := of_decide_eq_true q5_
         obtain ⟨ad296, A296_0, c296_0, e296, hx296_0, hx296_1, hl296_0, hi296_0⟩ := at_T27 HR0.out x5_1 p296 q296
         obtain rfl : ad294 = ad296 := (by injection e296)
         have HR296_0 := Aside0.mk hi296_0
         have HC296_0 := Aside0.mk hl296_0
         clear hi296_0 hl296_0
         replace p296 := eq_true p296
         replace q296 := eq_true q296
         have ea_ := Option.some.inj (hx294_0.symm.trans hx296_0)
         injection ea_ with ea_ en_ ec_
         subst ea_
         subst ec_
         clear en_
         have p297 : 0 ≤ (x5_1 : Int) := of_decide_eq_true q5_
         have q297 : x5_1 < (l1.length : Int) := of_decide_eq_true q5_
         obtain ⟨ad297, A297_0, c297_0, e297, hx297_0, hx297_1, hl297_0, hi297_0⟩ := at_T27 HR1.out x5_1 p297 q297
         obtain rfl : ad295 = ad297 := (by injection e297)
         have HR297_0 := Aside0.mk hi297_0
         have HC297_0 := Aside0.mk hl297_0
         clear hi297_0 hl297_0
         replace p297 := eq_true p297
         replace q297 := eq_true q297
         have ea_ := Option.some.inj (hx295_0.symm.trans hx297_0)
         injection ea_ with ea_ en_ ec_
         subst ea_
         subst ec_
         clear en_
         go_wp2_with (first | (go_at_call 36; (with_reducible refine (corollaryref01_SameRow.calls k1 _ _ ((rd_T27 l0 x5_1).f0) _ _ ((rd_T27 l1 x5_1).f0) false _ ?side1 ?side2 ?side3 ?side4 A8.out).mono ?_); (case side1 => repeat (first | exact HR296_0.out | (with_reducible refine Kd.C_alloc ?_ _) | (with_reducible refine Kd.C_drewN ?_ _) | (with_reducible refine Kd.C_drew ?_))); (case side2 => exact HC296_0.out); (case side3 => repeat (first | exact HR297_0.out | (with_reducible refine Kd.C_alloc ?_ _) | (with_reducible refine Kd.C_drewN ?_ _) | (with_reducible refine Kd.C_drew ?_))); (case side4 => exact HC297_0.out); rintro e w' ⟨rfl, ⟨nd, rfl⟩⟩; (try first | exact ⟨rfl, _, World.drewN_drewN _ _ _⟩ | exact ⟨rfl, _, Eq.trans (World.drewN_drewN _ _ _) (congrArg (World.drewN _) (Nat.add_assoc _ _ _))⟩)))
         repeat (go_quiet (first | (go_at_call 36; (with_reducible refine (corollaryref01_SameRow.calls k1 _ _ ((rd_T27 l0 x5_1).f0) _ _ ((rd_T27 l1 x5_1).f0) false _ ?side1 ?side2 ?side3 ?side4 A8.out).mono ?_); (case side1 => repeat (first | exact HR296_0.out | (with_reducible refine Kd.C_alloc ?_ _) | (with_reducible refine Kd.C_drewN ?_ _) | (with_reducible refine Kd.C_drew ?_))); (case side2 => exact HC296_0.out); (case side3 => repeat (first | exact HR297_0.out | (with_reducible refine Kd.C_alloc ?_ _) | (with_reducible refine Kd.C_drewN ?_ _) | (with_reducible refine Kd.C_drew ?_))); (case side4 => exact HC297_0.out); rintro e w' ⟨rfl, ⟨nd, rfl⟩⟩; (try first | exact ⟨rfl, _, World.drewN_drewN _ _ _⟩ | exact ⟨rfl, _, Eq.trans (World.drewN_drewN _ _ _) (congrArg (World.drewN _) (Nat.add_assoc _ _ _))⟩))); try go_wp2_with (first | (go_at_call 36; (with_reducible refine (corollaryref01_SameRow.calls k1 _ _ ((rd_T27 l0 x5_1).f0) _ _ ((rd_T27 l1 x5_1).f0) false _ ?side1 ?side2 ?side3 ?side4 A8.out).mono ?_); (case side1 => repeat (first | exact HR296_0.out | (with_reducible refine Kd.C_alloc ?_ _) | (with_reducible refine Kd.C_drewN ?_ _) | (with_reducible refine Kd.C_drew ?_))); (case side2 => exact HC296_0.out); (case side3 => repeat (first | exact HR297_0.out | (with_reducible refine Kd.C_alloc ?_ _) | (with_reducible refine Kd.C_drewN ?_ _) | (with_reducible refine Kd.C_drew ?_))); (case side4 => exact HC297_0.out); rintro e w' ⟨rfl, ⟨nd, rfl⟩⟩; (try first | exact ⟨rfl, _, World.drewN_drewN _ _ _⟩ | exact ⟨rfl, _, Eq.trans (World.drewN_drewN _ _ _) (congrArg (World.drewN _) (Nat.add_assoc _ _ _))⟩))))
         go_ret
         exact ⟨q9_, q10_⟩
       ·rw [if_neg c7] at H
        have c7b0 : (((rd_T27 l0 x5_1).f1) == ((rd_T27 l1 x5_1).f1)) = false := beq_eq_false_iff_ne.mpr c7
        have c7b1 : (((rd_T27 l0 x5_1).f1) != ((rd_T27 l1 x5_1).f1)) = true := bne_iff_ne.mpr c7
        obtain rfl := Option.some.inj H
        have p294 : 0 ≤ (x5_1 : Int) := of_decide_eq_true q5_
        have q294 : x5_1 < (l0.length : Int) := of_decide_eq_true q5_
        obtain ⟨ad294, A294_0, c294_0, e294, hx294_0, hx294_1, hl294_0, hi294_0⟩ := at_T27 HR0.out x5_1 p294 q294
        cases e294
        have HR294_0 := Aside0.mk hi294_0
        have HC294_0 := Aside0.mk hl294_0
        clear hi294_0 hl294_0
        replace p294 := eq_true p294
        replace q294 := eq_true q294
        have p295 : 0 ≤ (x5_1 : Int) := of_decide_eq_true q5_
        have q295 : x5_1 < (l1.length : Int) := of_decide_eq_true q5_
        obtain ⟨ad295, A295_0, c295_0, e295, hx295_0, hx295_1, hl295_0, hi295_0⟩ := at_T27 HR1.out x5_1 p295 q295
        cases e295
        have HR295_0 := Aside0.mk hi295_0
        have HC295_0 := Aside0.mk hl295_0
        clear hi295_0 hl295_0
        replace p295 := eq_true p295
        replace q295 := eq_true q295
        go_wp2
        repeat (go_quiet (fail); try go_wp2)
        go_ret
        exact ⟨q9_, q10_⟩
      ·rw [if_neg c6] at H
       exact absurd H (by simp)
     ·rw [if_neg c5] at H
      exact absurd H (by simp)
    ·rw [if_neg c4] at H
     have c4b0 : decide (x5_1 < (l0.length : Int)) = false := decide_eq_false c4
     clear c4
     obtain rfl := Option.some.inj H
     go_wp2
     repeat (go_quiet (fail); try go_wp2)
     go_ret
     exact ⟨q9_, q10_⟩
 ·rw [if_neg c3] at H
  have c3b0 : ((l0.length : Int) == (l1.length : Int)) = false := beq_eq_false_iff_ne.mpr c3
  have c3b1 : ((l0.length : Int) != (l1.length : Int)) = true := bne_iff_ne.mpr c3
  have c3b2 : (l0.length == l1.length) = false := by first | simpa using c3 | (simp at c3 ⊢; omega)
  obtain rfl := Option.some.inj H
  go_enter Tryd.func21, Tryd.ntmps21
  go_wp2
  repeat (go_quiet (fail); try go_wp2)
  go_ret
  exact ⟨q9_, q10_⟩

end Go.Proofs.YtckligjgnbgdiaaDoor.P
