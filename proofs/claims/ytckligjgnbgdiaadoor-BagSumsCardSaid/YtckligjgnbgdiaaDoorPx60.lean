-- HALVED
import Derived.Test.YtckligjgnbgdiaaDoorPx0
import Derived.Test.YtckligjgnbgdiaaDoorPx1
namespace Go.Proofs.YtckligjgnbgdiaaDoor.P
open Go.RowKit Go.Proofs.YtckligjgnbgdiaaDoorW.PrintWords Go.Proofs.YtckligjgnbgdiaaDoorW.PrintLast Go.Proofs.YtckligjgnbgdiaaDoorW.PrintMore
attribute [local go_sem] max2_int min2_mn max_two min_two max_three min_three max_four min_four   -- for this text's walks alone
set_option linter.unusedVariables false
set_option linter.unusedSimpArgs false

attribute [local go_sem high] eqA51
def corollaryref01_SameRow.l0 : Nat → List (S51) → List (S51) → Int → Option (Bool)
 | 0, _, _, _ => none
 | k + 1, x0, x1, x5 => if x5 < (x0.length : Int) then (if 0 ≤ x5 then (if x5 < (x1.length : Int) then (if (!(((rd_T51 x0 x5).f0) == ((rd_T51 x1 x5).f0)) || (!(((rd_T51 x0 x5).f1) == ((rd_T51 x1 x5).f1)) || (!((((rd_T51 x0 x5).f2).toList) == (((rd_T51 x1 x5).f2).toList))))) = true then (some false) else (corollaryref01_SameRow.l0 k x0 x1 (wrap64 (x5 + 1)))) else (none)) else (none)) else (some true)
def corollaryref01_SameRow.f (k : Nat) (l0 : List (S51)) (l1 : List (S51)) : Option (Bool) := if (l0.length : Int) = (l1.length : Int) then (corollaryref01_SameRow.l0 k l0 l1 0) else (some false)
theorem corollaryref01_SameRow.mono_l : ∀ k, (∀ y0 y1 y2, LeO (corollaryref01_SameRow.l0 k y0 y1 y2) (corollaryref01_SameRow.l0 (k + 1) y0 y1 y2))
 | 0 => fun _ _ _ r h => by simp [corollaryref01_SameRow.l0] at h
 | k + 1 => by
  have ih0 := corollaryref01_SameRow.mono_l k
  ·intro y0 y1 y2
   unfold corollaryref01_SameRow.l0
   repeat' first
   | (with_reducible exact ih0 _ _ _)
   | (with_reducible exact LeO.refl _)
   | (with_reducible exact LeO.none _)
   | (with_reducible refine LeO.ite ?_ ?_)
   | (with_reducible refine LeO.bind ?_ (fun _ => ?_))
   | exact ih0 _ _ _
   | exact LeO.none _
   | refine LeO.ite ?_ ?_
   | refine LeO.bind ?_ (fun _ => ?_)
theorem corollaryref01_SameRow.mono : ∀ a0 a1 k, LeO (corollaryref01_SameRow.f k a0 a1) (corollaryref01_SameRow.f (k + 1) a0 a1) := by
 intro a0 a1 k
 have ih0 := corollaryref01_SameRow.mono_l k
 unfold corollaryref01_SameRow.f
 repeat' first
   | (with_reducible exact ih0 _ _ _)
   | (with_reducible exact LeO.refl _)
   | (with_reducible exact LeO.none _)
   | (with_reducible refine LeO.ite ?_ ?_)
   | (with_reducible refine LeO.bind ?_ (fun _ => ?_))
   | exact ih0 _ _ _
   | exact LeO.none _
   | refine LeO.ite ?_ ?_
   | refine LeO.bind ?_ (fun _ => ?_)
set_option maxHeartbeats 8000000 in
set_option maxRecDepth 100000 in
theorem corollaryref01_SameRow.calls (k : Nat) (A0 : Option Addr) (c0 : Nat) (l0 : List (S51)) (A1 : Option Addr) (c1 : Nat) (l1 : List (S51)) (r : Bool) (w : World) (hr0 : Kd.C k51 w A0 l0.length l0) (hc0 : l0.length ≤ c0) (hr1 : Kd.C k51 w A1 l1.length l1) (hc1 : l1.length ≤ c1) (h : corollaryref01_SameRow.f k l0 l1 = some r) :
  Calls Tryd.prog 36 #[.slice A0 l0.length c0, .slice A1 l1.length c1] w fun e w' => e = .returned (.bool r) ∧ Drawn0 w w' := by
 have hu51 := Tryd.underlying51
 have HR0 := Aside0.mk hr0
 have HC0 := Aside0.mk hc0
 clear hr0 hc0
 have HR1 := Aside0.mk hr1
 have HC1 := Aside0.mk hc1
 clear hr1 hc1
 have H : (if (l0.length : Int) = (l1.length : Int) then (corollaryref01_SameRow.l0 k l0 l1 0) else (some false)) = some r := h
 clear h
 by_cases c3 : (l0.length : Int) = (l1.length : Int)
 ·rw [if_pos c3] at H
  have c3b0 : ((l0.length : Int) == (l1.length : Int)) = true := beq_iff_eq.mpr c3
  have c3b1 : ((l0.length : Int) != (l1.length : Int)) = false := bne_eq_false_iff_eq.mpr c3
  have c3b2 : (l0.length == l1.length) = true := by first | simpa using c3 | (simp at c3 ⊢; omega)
  clear c3
  have H' := Aside0.mk H
  clear H
  go_enter Tryd.func36, Tryd.ntmps36
  go_wp2
  repeat (go_quiet (fail); try go_wp2)
  go_loopg [5] k (fun kq v5 w' => ∃ (x5_1 : Int), v5 = .int .i64 x5_1 ∧ Aside0 (corollaryref01_SameRow.l0 kq l0 l1 x5_1 = some r) ∧ Aside0 (kq ≤ k) ∧ Drawn0 w w')
  case atStart => exact ⟨(0), q9_, H', ⟨Nat.le_refl _⟩, q10_⟩
  case round =>
   clear H'
   try clear c1
   try clear p2
   try clear c3
   try clear c3b0
   try clear c3b1
   try clear c3b2
   obtain ⟨x5_1, rfl, HA, HK1, ⟨m1, rfl⟩⟩ := hrel
   cases gk with
   | zero => exact absurd HA.out (by simp [corollaryref01_SameRow.l0])
   | succ k1 =>
    have H := HA.out
    clear HA
    simp only [corollaryref01_SameRow.l0] at H
    by_cases c4 : x5_1 < (l0.length : Int)
    ·rw [if_pos c4] at H
     have c4b0 : decide (x5_1 < (l0.length : Int)) = true := decide_eq_true c4
     clear c4
     by_cases c5 : 0 ≤ x5_1
     ·rw [if_pos c5] at H
      have c5b0 : decide (0 ≤ x5_1) = true := decide_eq_true c5
      clear c5
      by_cases c6 : x5_1 < (l1.length : Int)
      ·rw [if_pos c6] at H
       have c6b0 : decide (x5_1 < (l1.length : Int)) = true := decide_eq_true c6
       clear c6
       by_cases c7 : (!(((rd_T51 l0 x5_1).f0) == ((rd_T51 l1 x5_1).f0)) || (!(((rd_T51 l0 x5_1).f1) == ((rd_T51 l1 x5_1).f1)) || (!((((rd_T51 l0 x5_1).f2).toList) == (((rd_T51 l1 x5_1).f2).toList))))) = true
       ·rw [if_pos c7] at H
        have c7b0 : (!(((rd_T51 l0 x5_1).f0) == ((rd_T51 l1 x5_1).f0)) || (!(((rd_T51 l0 x5_1).f1) == ((rd_T51 l1 x5_1).f1)) || (!((((rd_T51 l0 x5_1).f2).toList) == (((rd_T51 l1 x5_1).f2).toList))))) = true := c7
        clear c7
        obtain rfl := Option.some.inj H
        have p244 : 0 ≤ (x5_1 : Int) := of_decide_eq_true q5_
        have q244 : x5_1 < (l0.length : Int) := of_decide_eq_true q5_
        obtain ⟨ad244, e244, hx244_0, hx244_1, hx244_2⟩ := at_T51 HR0.out x5_1 p244 q244
        cases e244
        replace p244 := eq_true p244
        replace q244 := eq_true q244
        have p245 : 0 ≤ (x5_1 : Int) := of_decide_eq_true q5_
        have q245 : x5_1 < (l1.length : Int) := of_decide_eq_true q5_
        obtain ⟨ad245, e245, hx245_0, hx245_1, hx245_2⟩ := at_T51 HR1.out x5_1 p245 q245
        cases e245
        replace p245 := eq_true p245
        replace q245 := eq_true q245
        go_wp2
        repeat (go_quiet (fail); try go_wp2)
        go_ret
        exact ⟨q9_, q10_⟩
       ·rw [if_neg c7] at H
        have c7b0 : (!(((rd_T51 l0 x5_1).f0) == ((rd_T51 l1 x5_1).f0)) || (!(((rd_T51 l0 x5_1).f1) == ((rd_T51 l1 x5_1).f1)) || (!((((rd_T51 l0 x5_1).f2).toList) == (((rd_T51 l1 x5_1).f2).toList))))) = false := by simpa using c7
        clear c7
        have H' := Aside0.mk H
        clear H
        have p244 : 0 ≤ (x5_1 : Int) := of_decide_eq_true q5_
        have q244 : x5_1 < (l0.length : Int) := of_decide_eq_true q5_
        obtain ⟨ad244, e244, hx244_0, hx244_1, hx244_2⟩ := at_T51 HR0.out x5_1 p244 q244
        cases e244
        replace p244 := eq_true p244
        replace q244 := eq_true q244
        have p245 : 0 ≤ (x5_1 : Int) := of_decide_eq_true q5_
        have q245 : x5_1 < (l1.length : Int) := of_decide_eq_true q5_
        obtain ⟨ad245, e245, hx245_0, hx245_1, hx245_2⟩ := at_T51 HR1.out x5_1 p245 q245
        cases e245
        replace p245 := eq_true p245
        replace q245 := eq_true q245
        go_wp2
        repeat (go_quiet (fail); try go_wp2)
        go_roundg k1
        case measure => have := HK1.out; omega
        case rel => exact ⟨(wrap64 (x5_1 + 1)), q9_, H', ⟨by have := HK1.out; omega⟩, q10_⟩
      ·rw [if_neg c6] at H
       exact absurd H (by simp)
     ·rw [if_neg c5] at H
      exact absurd H (by simp)
    ·rw [if_neg c4] at H
     have c4b0 : decide (x5_1 < (l0.length : Int)) = false := decide_eq_false c4
     clear c4
     obtain rfl := Option.some.inj H
     go_wp2
     repeat (go_quiet (fail); try go_wp2)
     go_ret
     exact ⟨q9_, q10_⟩
 ·rw [if_neg c3] at H
  have c3b0 : ((l0.length : Int) == (l1.length : Int)) = false := beq_eq_false_iff_ne.mpr c3
  have c3b1 : ((l0.length : Int) != (l1.length : Int)) = true := bne_iff_ne.mpr c3
  have c3b2 : (l0.length == l1.length) = false := by first | simpa using c3 | (simp at c3 ⊢; omega)
  obtain rfl := Option.some.inj H
  go_enter Tryd.func36, Tryd.ntmps36
  go_wp2
  repeat (go_quiet (fail); try go_wp2)
  go_ret
  exact ⟨q9_, q10_⟩
def corollaryref13_N.l0 : Nat → List (S27) → List (S51) → Int → Int → Option (Int)
 | 0, _, _, _, _ => none
 | k + 1, x0, x1, x5, x6 => if x6 < (x0.length : Int) then (if 0 ≤ x6 then ((corollaryref01_SameRow.f k ((rd_T27 x0 x6).f0) x1).bind fun t247 => (if t247 = true then (corollaryref13_N.l0 k x0 x1 (wrap64 (x5 + ((rd_T27 x0 x6).f1))) (wrap64 (x6 + 1))) else (corollaryref13_N.l0 k x0 x1 x5 (wrap64 (x6 + 1))))) else (none)) else (some x5)
def corollaryref13_N.f (k : Nat) (l0 : List (S27)) (l1 : List (S51)) : Option (Int) := corollaryref13_N.l0 k l0 l1 0 0
theorem corollaryref13_N.mono_l : ∀ k, (∀ y0 y1 y2 y3, LeO (corollaryref13_N.l0 k y0 y1 y2 y3) (corollaryref13_N.l0 (k + 1) y0 y1 y2 y3))
 | 0 => fun _ _ _ _ r h => by simp [corollaryref13_N.l0] at h
 | k + 1 => by
  have ih0 := corollaryref13_N.mono_l k
  ·intro y0 y1 y2 y3
   unfold corollaryref13_N.l0
   repeat' first
   | (with_reducible exact ih0 _ _ _ _)
   | (with_reducible exact corollaryref01_SameRow.mono _ _ _)
   | (with_reducible exact LeO.refl _)
   | (with_reducible exact LeO.none _)
   | (with_reducible refine LeO.ite ?_ ?_)
   | (with_reducible refine LeO.bind ?_ (fun _ => ?_))
   | exact ih0 _ _ _ _
   | exact corollaryref01_SameRow.mono _ _ _
   | exact LeO.none _
   | refine LeO.ite ?_ ?_
   | refine LeO.bind ?_ (fun _ => ?_)
theorem corollaryref13_N.mono : ∀ a0 a1 k, LeO (corollaryref13_N.f k a0 a1) (corollaryref13_N.f (k + 1) a0 a1) := by
 intro a0 a1 k
 have ih0 := corollaryref13_N.mono_l k
 unfold corollaryref13_N.f
 repeat' first
   | (with_reducible exact ih0 _ _ _ _)
   | (with_reducible exact corollaryref01_SameRow.mono _ _ _)
   | (with_reducible exact LeO.refl _)
   | (with_reducible exact LeO.none _)
   | (with_reducible refine LeO.ite ?_ ?_)
   | (with_reducible refine LeO.bind ?_ (fun _ => ?_))
   | exact ih0 _ _ _ _
   | exact corollaryref01_SameRow.mono _ _ _
   | exact LeO.none _
   | refine LeO.ite ?_ ?_
   | refine LeO.bind ?_ (fun _ => ?_)
set_option maxHeartbeats 8000000 in
set_option maxRecDepth 100000 in
theorem corollaryref13_N.calls (k : Nat) (A0 : Option Addr) (c0 : Nat) (l0 : List (S27)) (A1 : Option Addr) (c1 : Nat) (l1 : List (S51)) (r : Int) (w : World) (hr0 : Kd.C k27 w A0 l0.length l0) (hc0 : l0.length ≤ c0) (hr1 : Kd.C k51 w A1 l1.length l1) (hc1 : l1.length ≤ c1) (h : corollaryref13_N.f k l0 l1 = some r) :
  Calls Tryd.prog 16 #[.slice A0 l0.length c0, .slice A1 l1.length c1] w fun e w' => e = .returned (.int .i64 r) ∧ Drawn0 w w' := by
 have HR0 := Aside0.mk hr0
 have HC0 := Aside0.mk hc0
 clear hr0 hc0
 have HR1 := Aside0.mk hr1
 have HC1 := Aside0.mk hc1
 clear hr1 hc1
 have H : (corollaryref13_N.l0 k l0 l1 0 0) = some r := h
 clear h
 have H' := Aside0.mk H
 clear H
 go_enter Tryd.func16, Tryd.ntmps16
 go_wp2
 go_loopg [5, 6] k (fun kq v5 v6 w' => ∃ (x5_1 : Int) (x6_1 : Int), v5 = .int .i64 x5_1 ∧ v6 = .int .i64 x6_1 ∧ Aside0 (corollaryref13_N.l0 kq l0 l1 x5_1 x6_1 = some r) ∧ Aside0 (kq ≤ k) ∧ Drawn0 w w')
 case atStart => exact ⟨(0), (0), q9_, q9_, H', ⟨Nat.le_refl _⟩, q10_⟩
 case round =>
  clear H'
  try clear c1
  try clear p2
  obtain ⟨x5_1, x6_1, rfl, rfl, HA, HK1, ⟨m1, rfl⟩⟩ := hrel
  cases gk with
  | zero => exact absurd HA.out (by simp [corollaryref13_N.l0])
  | succ k1 =>
   have H := HA.out
   clear HA
   simp only [corollaryref13_N.l0] at H
   by_cases c3 : x6_1 < (l0.length : Int)
   ·rw [if_pos c3] at H
    have c3b0 : decide (x6_1 < (l0.length : Int)) = true := decide_eq_true c3
    clear c3
    by_cases c4 : 0 ≤ x6_1
    ·rw [if_pos c4] at H
     have c4b0 : decide (0 ≤ x6_1) = true := decide_eq_true c4
     clear c4
     replace H := Option.bind_eq_some_iff.mp H
     obtain ⟨t247, A50, H⟩ := H
     replace H : (if t247 = true then (corollaryref13_N.l0 k1 l0 l1 (wrap64 (x5_1 + ((rd_T27 l0 x6_1).f1))) (wrap64 (x6_1 + 1))) else (corollaryref13_N.l0 k1 l0 l1 x5_1 (wrap64 (x6_1 + 1)))) = some r := H
     have A5 := Aside0.mk A50
     clear A50
     by_cases c6 : t247 = true
     ·subst c6
      replace H := ifT_ H
      have H' := Aside0.mk H
      clear H
      have p246 : 0 ≤ (x6_1 : Int) := of_decide_eq_true q5_
      have q246 : x6_1 < (l0.length : Int) := of_decide_eq_true q5_
      obtain ⟨ad246, A246_0, c246_0, e246, hx246_0, hx246_1, hl246_0, hi246_0⟩ := at_T27 HR0.out x6_1 p246 q246
      cases e246
      have HR246_0 := Aside0.mk hi246_0
      have HC246_0 := Aside0.mk hl246_0
      clear hi246_0 hl246_0
      replace p246 := eq_true p246
      replace q246 := eq_true q246
      go_wp2_with (first | ((with_reducible refine gate_callee (f := 36) rfl ?_); refine goesL_ (some 19) rfl rfl Tryd.func36 (by kernel_rfl) rfl #[.slice A246_0 ((rd_T27 l0 x6_1).f0).length c246_0, .slice A1 l1.length c1] rfl q2_ ?_; (with_reducible refine (corollaryref01_SameRow.calls k1 _ _ ((rd_T27 l0 x6_1).f0) _ _ l1 true _ ?side1 ?side2 ?side3 ?side4 A5.out).mono ?_); (case side1 => repeat (first | exact HR246_0.out | (with_reducible refine Kd.C_alloc ?_ _) | (with_reducible refine Kd.C_drewN ?_ _) | (with_reducible refine Kd.C_drew ?_))); (case side2 => exact HC246_0.out); (case side3 => repeat (first | exact HR1.out | (with_reducible refine Kd.C_alloc ?_ _) | (with_reducible refine Kd.C_drewN ?_ _) | (with_reducible refine Kd.C_drew ?_))); (case side4 => exact HC1.out); rintro e w' ⟨rfl, ⟨nd, rfl⟩⟩; refine ⟨_, rfl, ?_⟩; have p248 : 0 ≤ (x6_1 : Int) := of_decide_eq_true q5_; have q248 : x6_1 < (l0.length : Int) := of_decide_eq_true q5_; obtain ⟨ad248, A248_0, c248_0, e248, hx248_0, hx248_1, hl248_0, hi248_0⟩ := at_T27 HR0.out x6_1 p248 q248; obtain rfl : ad246 = ad248 := (by injection e248); have HR248_0 := Aside0.mk hi248_0; have HC248_0 := Aside0.mk hl248_0; clear hi248_0 hl248_0; replace p248 := eq_true p248; replace q248 := eq_true q248; have ea_ := Option.some.inj (hx246_0.symm.trans hx248_0); injection ea_ with ea_ en_ ec_; subst ea_; subst ec_; clear en_))
      go_roundg k1
      case measure => have := HK1.out; omega
      case rel => exact ⟨(wrap64 (x5_1 + ((rd_T27 l0 x6_1).f1))), (wrap64 (x6_1 + 1)), q9_, q9_, H', ⟨by have := HK1.out; omega⟩, q10_⟩
     ·replace c6 := Bool.eq_false_iff.mpr c6
      subst c6
      replace H := ifF_ H
      have H' := Aside0.mk H
      clear H
      have p246 : 0 ≤ (x6_1 : Int) := of_decide_eq_true q5_
      have q246 : x6_1 < (l0.length : Int) := of_decide_eq_true q5_
      obtain ⟨ad246, A246_0, c246_0, e246, hx246_0, hx246_1, hl246_0, hi246_0⟩ := at_T27 HR0.out x6_1 p246 q246
      cases e246
      have HR246_0 := Aside0.mk hi246_0
      have HC246_0 := Aside0.mk hl246_0
      clear hi246_0 hl246_0
      replace p246 := eq_true p246
      replace q246 := eq_true q246
      go_wp2_with (first | ((with_reducible refine gate_callee (f := 36) rfl ?_); refine goesL_ (some 19) rfl rfl Tryd.func36 (by kernel_rfl) rfl #[.slice A246_0 ((rd_T27 l0 x6_1).f0).length c246_0, .slice A1 l1.length c1] rfl q2_ ?_; (with_reducible refine (corollaryref01_SameRow.calls k1 _ _ ((rd_T27 l0 x6_1).f0) _ _ l1 false _ ?side1 ?side2 ?side3 ?side4 A5.out).mono ?_); (case side1 => repeat (first | exact HR246_0.out | (with_reducible refine Kd.C_alloc ?_ _) | (with_reducible refine Kd.C_drewN ?_ _) | (with_reducible refine Kd.C_drew ?_))); (case side2 => exact HC246_0.out); (case side3 => repeat (first | exact HR1.out | (with_reducible refine Kd.C_alloc ?_ _) | (with_reducible refine Kd.C_drewN ?_ _) | (with_reducible refine Kd.C_drew ?_))); (case side4 => exact HC1.out); rintro e w' ⟨rfl, ⟨nd, rfl⟩⟩; refine ⟨_, rfl, ?_⟩))
      go_roundg k1
      case measure => have := HK1.out; omega
      case rel => exact ⟨(x5_1), (wrap64 (x6_1 + 1)), q9_, q9_, H', ⟨by have := HK1.out; omega⟩, q10_⟩
    ·rw [if_neg c4] at H
     exact absurd H (by simp)
   ·rw [if_neg c3] at H
    have c3b0 : decide (x6_1 < (l0.length : Int)) = false := decide_eq_false c3
    clear c3
    obtain rfl := Option.some.inj H
    go_wp2
    go_ret
    exact ⟨q9_, q10_⟩

end Go.Proofs.YtckligjgnbgdiaaDoor.P
