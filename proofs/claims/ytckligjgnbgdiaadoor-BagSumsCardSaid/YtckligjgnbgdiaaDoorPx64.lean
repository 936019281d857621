-- HALVED
import Derived.Test.YtckligjgnbgdiaaDoorPx0
import Derived.Test.YtckligjgnbgdiaaDoorPx53
import Derived.Test.YtckligjgnbgdiaaDoorPx58
import Derived.Test.YtckligjgnbgdiaaDoorPx60
namespace Go.Proofs.YtckligjgnbgdiaaDoor.P
open Go.RowKit Go.Proofs.YtckligjgnbgdiaaDoorW.PrintWords Go.Proofs.YtckligjgnbgdiaaDoorW.PrintLast Go.Proofs.YtckligjgnbgdiaaDoorW.PrintMore
attribute [local go_sem] max2_int min2_mn max_two min_two max_three min_three max_four min_four   -- for this text's walks alone
set_option linter.unusedVariables false
set_option linter.unusedSimpArgs false

abbrev b64_0 : Array Bool := #[false, false, false, false, false, false, false, false, false, false, false, false, false, false, false, false, false, false]
abbrev b64_1 : Array Bool := #[true, false, false, false, false, false, false, false, false, false, false, false, false, false, false, false, false, false]
abbrev b64_2 : Array Bool := #[true, true, false, false, false, false, false, false, false, false, false, false, false, false, false, false, false, false]
abbrev b64_3 : Array Bool := #[true, true, true, false, false, false, false, false, false, false, false, false, false, false, false, false, false, false]
abbrev b64_4 : Array Bool := #[true, true, true, true, false, false, false, false, false, false, false, false, false, false, false, false, false, false]
abbrev b64_5 : Array Bool := #[true, true, true, true, true, false, false, false, false, false, false, false, false, false, false, false, false, false]
abbrev b64_6 : Array Bool := #[true, true, true, true, true, true, false, false, false, false, false, false, false, false, false, false, false, false]
abbrev b64_7 : Array Bool := #[true, true, true, true, true, true, true, false, false, false, false, false, false, false, false, false, false, false]
abbrev b64_8 : Array Bool := #[true, true, true, true, true, true, true, true, false, false, false, false, false, false, false, false, false, false]
abbrev b64_9 : Array Bool := #[true, true, true, true, true, true, true, true, false, true, false, false, false, false, false, false, false, false]
abbrev b64_10 : Array Bool := #[true, true, true, true, true, true, true, true, false, true, true, false, false, false, false, false, false, false]
abbrev b64_11 : Array Bool := #[true, true, true, true, true, true, true, true, false, true, true, true, false, false, false, false, false, false]
abbrev b64_12 : Array Bool := #[true, true, true, true, true, true, true, true, false, true, true, true, true, false, false, false, false, false]
abbrev b64_13 : Array Bool := #[true, true, true, true, true, true, true, true, false, true, true, true, true, true, false, false, false, false]
abbrev b64_14 : Array Bool := #[true, true, true, true, true, true, true, true, true, true, true, true, true, true, false, false, false, false]
abbrev b64_15 : Array Bool := #[true, true, true, true, true, true, true, true, true, true, true, true, true, true, true, false, false, false]
abbrev b64_16 : Array Bool := #[true, true, true, true, true, true, true, true, true, true, true, true, true, true, true, true, false, false]
abbrev b64_17 : Array Bool := #[true, true, true, true, true, true, true, true, true, true, true, true, true, true, true, true, true, false]
abbrev b64_18 : Array Bool := #[true, true, true, true, true, true, true, true, true, true, true, true, true, true, true, true, true, true]
abbrev b64_19 : Array Bool := #[true, true, true, true, true, true, true, true, true, false, false, false, false, false, false, false, false, false]
abbrev b64_20 : Array Bool := #[true, true, true, true, true, true, true, true, true, true, false, false, false, false, false, false, false, false]
abbrev b64_21 : Array Bool := #[true, true, true, true, true, true, true, true, true, true, true, false, false, false, false, false, false, false]
abbrev b64_22 : Array Bool := #[true, true, true, true, true, true, true, true, true, true, true, true, false, false, false, false, false, false]
abbrev b64_23 : Array Bool := #[true, true, true, true, true, true, true, true, true, true, true, true, true, false, false, false, false, false]
abbrev b64_24 : Array Bool := #[false, false, false, false, false, false, false, false, false, false, false, false, false, false, false, false]
abbrev b64_25 : Array Bool := #[true, false, false, false, false, false, false, false, false, false, false, false, false, false, false, false]
abbrev b64_26 : Array Bool := #[true, true, false, false, false, false, false, false, false, false, false, false, false, false, false, false]
abbrev b64_27 : Array Bool := #[true, true, true, false, false, false, false, false, false, false, false, false, false, false, false, false]
abbrev b64_28 : Array Bool := #[true, true, true, true, false, false, false, false, false, false, false, false, false, false, false, false]
abbrev b64_29 : Array Bool := #[true, true, true, true, true, false, false, false, false, false, false, false, false, false, false, false]
abbrev b64_30 : Array Bool := #[true, true, true, true, true, true, false, false, false, false, false, false, false, false, false, false]
abbrev b64_31 : Array Bool := #[true, true, true, true, true, true, true, false, false, false, false, false, false, false, false, false]
abbrev b64_32 : Array Bool := #[true, true, true, true, true, true, true, true, false, false, false, false, false, false, false, false]
abbrev b64_33 : Array Bool := #[true, true, true, true, true, true, true, true, true, false, false, false, false, false, false, false]
abbrev b64_34 : Array Bool := #[true, true, true, true, true, true, true, true, true, true, false, false, false, false, false, false]
abbrev b64_35 : Array Bool := #[true, true, true, true, true, true, true, true, true, true, true, false, false, false, false, false]
abbrev b64_36 : Array Bool := #[true, true, true, true, true, true, true, true, true, true, true, true, false, false, false, false]
abbrev b64_37 : Array Bool := #[true, true, true, true, true, true, true, true, true, true, true, true, true, false, false, false]
abbrev b64_38 : Array Bool := #[true, true, true, true, true, true, true, true, true, true, true, true, true, true, false, false]
abbrev b64_39 : Array Bool := #[true, true, true, true, true, true, true, true, true, true, true, true, true, true, true, false]
abbrev b64_40 : Array Bool := #[true, true, true, true, true, true, true, true, true, true, true, true, true, true, true, true]
abbrev b64_41 : Array Bool := #[true, true, true, true, true, true, true, false, true, false, false, false, false, false, false, false]
abbrev b64_42 : Array Bool := #[true, true, true, true, true, true, true, false, true, true, false, false, false, false, false, false]
abbrev b64_43 : Array Bool := #[true, true, true, true, true, true, true, false, true, true, true, false, false, false, false, false]
abbrev b64_44 : Array Bool := #[true, true, true, true, true, true, true, false, true, true, true, true, false, false, false, false]
mutual
def corollaryref13_Sort.l0 : Nat → List (S27) → Int → Option ((List (S27)) × Int)
 | 0, _, _ => none
 | k + 1, x0, x4 => if x4 < (x0.length : Int) then (if 0 ≤ x4 then ((corollaryref13_right.f k ((rd_T27 x0 x4).f0)).bind fun t274 => (if t274 = true then ((corollaryref13_fits.f ((rd_T27 x0 x4).f1)).bind fun t276 => (if t276 = true then (corollaryref13_Sort.l0 k x0 (wrap64 (x4 + 1))) else (some (([] : List (S27)), 1)))) else (some (([] : List (S27)), 1)))) else (none)) else (corollaryref13_Sort.l1 k x0 ([] : List (S27)) ([] : List (List (S51))))
def corollaryref13_Sort.l1 : Nat → List (S27) → List (S27) → List (List (S51)) → Option ((List (S27)) × Int)
 | 0, _, _, _ => none
 | k + 1, x0, x5, x6 => corollaryref13_Sort.l2 k x0 x5 x6 (-1) 0
def corollaryref13_Sort.l2 : Nat → List (S27) → List (S27) → List (List (S51)) → Int → Int → Option ((List (S27)) × Int)
 | 0, _, _, _, _, _ => none
 | k + 1, x0, x5, x6, x7, x8 => if x8 < (x0.length : Int) then (if (x6.length : Int) > 0 then (if 0 ≤ x8 then (if 0 ≤ (wrap64 ((x6.length : Int) - 1)) then (if (wrap64 ((x6.length : Int) - 1)) < (x6.length : Int) then ((corollaryref01_Rows.f k ((rd_T27 x0 x8).f0) (rd_L3 x6 (wrap64 ((x6.length : Int) - 1)))).bind fun t279 => (corollaryref13_Sort.j3 k x0 x5 x6 x7 x8 (t279 != 1))) else (none)) else (none)) else (none)) else (corollaryref13_Sort.j3 k x0 x5 x6 x7 x8 false)) else (if x7 < 0 then (some (x5, 0)) else (if 0 ≤ x7 then (if x7 < (x0.length : Int) then (if x6.length < 5864062014805 then ((some (x6 ++ [(rd_T27 x0 x7).f0] : List (List (S51)))).bind fun y284 => ((corollaryref13_N.f k x0 ((rd_T27 x0 x7).f0)).bind fun t288 => ((corollaryref13_fits.f t288).bind fun t289 => (if t289 = true then (if t288 = 0 then (corollaryref13_Sort.l1 k x0 x5 y284) else (if x5.length < 4398046511104 then (corollaryref13_Sort.l1 k x0 (x5 ++ [(⟨(rd_T27 x0 x7).f0, t288⟩ : S27)]) y284) else (none))) else (some (([] : List (S27)), 14)))))) else (none)) else (none)) else (none)))
def corollaryref13_Sort.j3 : Nat → List (S27) → List (S27) → List (List (S51)) → Int → Int → Bool → Option ((List (S27)) × Int)
 | 0, _, _, _, _, _, _ => none
 | k + 1, x0, x5, x6, x7, x8, x55 => if x55 = true then (corollaryref13_Sort.l2 k x0 x5 x6 x7 (wrap64 (x8 + 1))) else (if x7 < 0 then (corollaryref13_Sort.l2 k x0 x5 x6 x8 (wrap64 (x8 + 1))) else (if 0 ≤ x8 then (if x8 < (x0.length : Int) then (if 0 ≤ x7 then (if x7 < (x0.length : Int) then ((corollaryref01_Rows.f k ((rd_T27 x0 x8).f0) ((rd_T27 x0 x7).f0)).bind fun t282 => (if t282 = (-1) then (corollaryref13_Sort.l2 k x0 x5 x6 x8 (wrap64 (x8 + 1))) else (corollaryref13_Sort.l2 k x0 x5 x6 x7 (wrap64 (x8 + 1))))) else (none)) else (none)) else (none)) else (none)))
end
def corollaryref13_Sort.f (k : Nat) (l0 : List (S27)) : Option ((List (S27)) × Int) := corollaryref13_Sort.l0 k l0 0
theorem corollaryref13_Sort.mono_l : ∀ k, (∀ y0 y1, LeO (corollaryref13_Sort.l0 k y0 y1) (corollaryref13_Sort.l0 (k + 1) y0 y1)) ∧ (∀ y0 y1 y2, LeO (corollaryref13_Sort.l1 k y0 y1 y2) (corollaryref13_Sort.l1 (k + 1) y0 y1 y2)) ∧ (∀ y0 y1 y2 y3 y4, LeO (corollaryref13_Sort.l2 k y0 y1 y2 y3 y4) (corollaryref13_Sort.l2 (k + 1) y0 y1 y2 y3 y4)) ∧ (∀ y0 y1 y2 y3 y4 y5, LeO (corollaryref13_Sort.j3 k y0 y1 y2 y3 y4 y5) (corollaryref13_Sort.j3 (k + 1) y0 y1 y2 y3 y4 y5))
 | 0 => ⟨fun _ _ r h => by simp [corollaryref13_Sort.l0] at h, fun _ _ _ r h => by simp [corollaryref13_Sort.l1] at h, fun _ _ _ _ _ r h => by simp [corollaryref13_Sort.l2] at h, fun _ _ _ _ _ _ r h => by simp [corollaryref13_Sort.j3] at h⟩
 | k + 1 => by
  obtain ⟨ih0, ih1, ih2, ih3⟩ := corollaryref13_Sort.mono_l k
  refine ⟨?_, ?_, ?_, ?_⟩
  all_goals intros
  all_goals first
   | unfold corollaryref13_Sort.l0
   | unfold corollaryref13_Sort.l1
   | unfold corollaryref13_Sort.l2
   | unfold corollaryref13_Sort.j3
  all_goals repeat' first
   | (with_reducible exact ih0 _ _)
   | (with_reducible exact ih1 _ _ _)
   | (with_reducible exact ih2 _ _ _ _ _)
   | (with_reducible exact ih3 _ _ _ _ _ _)
   | (with_reducible exact corollaryref01_Rows.mono _ _ _)
   | (with_reducible exact corollaryref13_N.mono _ _ _)
   | (with_reducible exact corollaryref13_right.mono _ _)
   | (with_reducible exact LeO.refl _)
   | (with_reducible exact LeO.none _)
   | (with_reducible refine LeO.ite ?_ ?_)
   | (with_reducible refine LeO.bind ?_ (fun _ => ?_))
   | exact ih0 _ _
   | exact ih1 _ _ _
   | exact ih2 _ _ _ _ _
   | exact ih3 _ _ _ _ _ _
   | exact corollaryref01_Rows.mono _ _ _
   | exact corollaryref13_N.mono _ _ _
   | exact corollaryref13_right.mono _ _
   | exact LeO.none _
   | refine LeO.ite ?_ ?_
   | refine LeO.bind ?_ (fun _ => ?_)
theorem corollaryref13_Sort.mono : ∀ a0 k, LeO (corollaryref13_Sort.f k a0) (corollaryref13_Sort.f (k + 1) a0) := by
 intro a0 k
 obtain ⟨ih0, ih1, ih2, ih3⟩ := corollaryref13_Sort.mono_l k
 unfold corollaryref13_Sort.f
 repeat' first
   | (with_reducible exact ih0 _ _)
   | (with_reducible exact ih1 _ _ _)
   | (with_reducible exact ih2 _ _ _ _ _)
   | (with_reducible exact ih3 _ _ _ _ _ _)
   | (with_reducible exact corollaryref01_Rows.mono _ _ _)
   | (with_reducible exact corollaryref13_N.mono _ _ _)
   | (with_reducible exact corollaryref13_right.mono _ _)
   | (with_reducible exact LeO.refl _)
   | (with_reducible exact LeO.none _)
   | (with_reducible refine LeO.ite ?_ ?_)
   | (with_reducible refine LeO.bind ?_ (fun _ => ?_))
   | exact ih0 _ _
   | exact ih1 _ _ _
   | exact ih2 _ _ _ _ _
   | exact ih3 _ _ _ _ _ _
   | exact corollaryref01_Rows.mono _ _ _
   | exact corollaryref13_N.mono _ _ _
   | exact corollaryref13_right.mono _ _
   | exact LeO.none _
   | refine LeO.ite ?_ ?_
   | refine LeO.bind ?_ (fun _ => ?_)
def corollaryref13_Sort.T12 : Bool × List (List Nat × List Nat) := (true, [([], []), ([0], [0]), ([1], [1]), ([2], [2]), ([3], [3]), ([3], [3]), ([4, 5, 3], [3, 4, 5]), ([6, 3], [3, 6]), ([7, 3], [3, 7]), ([3], [3]), ([3], [3]), ([10, 3], [3, 10]), ([11, 3], [3, 11]), ([9, 12, 3], [3, 9, 12]), ([13, 3], [3, 13]), ([8, 14, 3, 3], [3, 8, 14]), ([15, 3], [3, 15]), ([3, 16], [3, 16])])
def corollaryref13_Sort.B12 : List Nat := [0, 1, 3, 7, 15, 15, 63, 127, 255, 15, 15, 1039, 3087, 7695, 15887, 32767, 65535, 131071]
theorem corollaryref13_Sort.tab12 : rtab .any (opsOf Tryd.f19 12) = corollaryref13_Sort.T12 := by kernel_rfl
theorem corollaryref13_Sort.bits12 : waitsOk corollaryref13_Sort.T12.2 corollaryref13_Sort.B12 = true := by kernel_rfl
def corollaryref13_Sort.T13 : Bool × List (List Nat × List Nat) := (true, [([], []), ([0], [0]), ([1], [1]), ([2], [2]), ([2], [2]), ([3, 4, 2], [2, 3, 4]), ([5, 2], [2, 5]), ([6, 2], [2, 6]), ([2], [2]), ([2], [2]), ([8, 9, 2], [2, 8, 9]), ([10, 2], [2, 10]), ([11, 2], [2, 11]), ([7, 12, 2, 2], [2, 7, 12]), ([13, 2], [2, 13]), ([2, 14], [2, 14])])
def corollaryref13_Sort.B13 : List Nat := [0, 1, 3, 7, 7, 31, 63, 127, 7, 7, 775, 1799, 3847, 8191, 16383, 32767]
theorem corollaryref13_Sort.tab13 : rtab .any (opsOf Tryd.f19 13) = corollaryref13_Sort.T13 := by kernel_rfl
theorem corollaryref13_Sort.bits13 : waitsOk corollaryref13_Sort.T13.2 corollaryref13_Sort.B13 = true := by kernel_rfl
set_option maxHeartbeats 8000000 in
set_option maxRecDepth 100000 in
theorem corollaryref13_Sort.calls (k : Nat) (P0_ : Nat → Prop) (A0 : Option Addr) (c0 : Nat) (l0 : List (S27)) (r1 : List (S27)) (r2 : Int) (w : World) (hs0 : Kd.V k27 27 w w.heap.size (fun k_ => P0_ k_) (.slice A0 l0.length c0) l0) (h : corollaryref13_Sort.f k l0 = some (r1, r2)) :
  Calls Tryd.prog 19 #[.slice A0 l0.length c0] w fun e w' => ∃ v0_ : Value, e = .returned (.tuple #[v0_, .int .i64 r2]) ∧ Kd.N k27 27 w' w.heap.size (fun k_ => (P0_ k_ ∨ w.heap.size ≤ k_)) v0_ r1 ∧ Below w.heap.size w w' := by
 have hu27 := Tryd.underlying27
 have HO0 := Aside0.mk (show Kd.V k27 27 w w.heap.size (fun k_ => (P0_ k_ ∨ w.heap.size ≤ k_)) (.slice A0 l0.length c0) l0 from Kd.V_mono hs0 (fun k_ hk => .inl hk))
 have HB := Aside0.mk (Below.refl w.heap.size w)
 have H : (corollaryref13_Sort.l0 k l0 0) = some (r1, r2) := h
 clear h
 have H' := Aside0.mk H
 clear H
 go_enter Tryd.func19, Tryd.ntmps19
 go_wp2
 go_loopg [4] k (fun kq v4 w' => ∃ (x4_1 : Int), v4 = .int .i64 x4_1 ∧ Aside0 (corollaryref13_Sort.l0 kq l0 x4_1 = some (r1, r2)) ∧ Aside0 (kq ≤ k) ∧ Aside0 (Kd.V k27 27 w' w.heap.size (fun k_ => (P0_ k_ ∨ w.heap.size ≤ k_)) (.slice A0 l0.length c0) l0) ∧ Aside0 (Below w.heap.size w w'))
 case atStart => exact ⟨(0), q9_, H', ⟨Nat.le_refl _⟩, ⟨q24_⟩, ⟨q0_⟩⟩
 case round =>
  clear H'
  try clear c1
  obtain ⟨x4_1, rfl, HA, HK1, HO_0, HB⟩ := hrel
  cases gk with
  | zero => exact absurd HA.out (by simp [corollaryref13_Sort.l0])
  | succ k1 =>
   have H := HA.out
   clear HA
   simp only [corollaryref13_Sort.l0] at H
   by_cases c2 : x4_1 < (l0.length : Int)
   ·rw [if_pos c2] at H
    have c2b0 : decide (x4_1 < (l0.length : Int)) = true := decide_eq_true c2
    clear c2
    by_cases c3 : 0 ≤ x4_1
    ·rw [if_pos c3] at H
     have c3b0 : decide (0 ≤ x4_1) = true := decide_eq_true c3
     clear c3
     replace H := Option.bind_eq_some_iff.mp H
     obtain ⟨t274, A40, H⟩ := H
     replace H : (if t274 = true then ((corollaryref13_fits.f ((rd_T27 l0 x4_1).f1)).bind fun t276 => (if t276 = true then (corollaryref13_Sort.l0 k1 l0 (wrap64 (x4_1 + 1))) else (some (([] : List (S27)), 1)))) else (some (([] : List (S27)), 1))) = some (r1, r2) := H
     have A4 := Aside0.mk A40
     clear A40
     by_cases c5 : t274 = true
     ·subst c5
      replace H := ifT_ H
      replace H := Option.bind_eq_some_iff.mp H
      obtain ⟨t276, A60, H⟩ := H
      replace H : (if t276 = true then (corollaryref13_Sort.l0 k1 l0 (wrap64 (x4_1 + 1))) else (some (([] : List (S27)), 1))) = some (r1, r2) := H
      have A6 := Aside0.mk A60
      clear A60
      by_cases c7 : t276 = true
      ·subst c7
       replace H := ifT_ H
       have H' := Aside0.mk H
       clear H
       have p273 : 0 ≤ (x4_1 : Int) := of_decide_eq_true q5_
       have q273 : x4_1 < (l0.length : Int) := of_decide_eq_true q5_
       obtain ⟨ad273, A273_0, c273_0, e273, hx273_0, hx273_1, hl273_0, hi273_0⟩ := at_T27 (Kd.V_reads' HO_0.out).2.2 x4_1 p273 q273
       cases e273
       obtain ⟨ce273, hce273, hMe273, hcc273⟩ := Kd.V_get HO_0.out z27 x4_1 p273 q61_
       obtain ⟨ua273_0, uc273_0, rfl, ul273_0, ge273_0⟩ := k27_openF hMe273
       have hv273_0 := hcc273 0 _ rfl
       rw [Nat.add_zero] at hv273_0
       replace hv273_0 := Option.some.inj (hv273_0.symm.trans hx273_0)
       injection hv273_0 with hva_ hvn_ hvc_
       rw [hva_] at ge273_0
       rw [hvc_] at ul273_0
       have HL273_0 := Aside0.mk (show Kd.V k51 51 _ w.heap.size _ _ ((rd_T27 l0 x4_1).f0) from Kd.V_mk ul273_0 ge273_0)
       clear hva_ hvn_ hvc_ ge273_0 ul273_0
       clear hcc273 hce273
       have HR273_0 := Aside0.mk hi273_0
       have HC273_0 := Aside0.mk hl273_0
       clear hi273_0 hl273_0
       replace p273 := eq_true p273
       replace q273 := eq_true q273
       go_wp2_with (first | ((with_reducible refine gate_callee (f := 26) rfl ?_); refine goesL_ (some 21) rfl rfl Tryd.func26 (by kernel_rfl) rfl #[.slice A273_0 ((rd_T27 l0 x4_1).f0).length c273_0] rfl q2_ ?_; (with_reducible refine (corollaryref13_right.calls k1 _ _ ((rd_T27 l0 x4_1).f0) true _ ?side1 ?side2 A4.out).mono ?_); (case side1 => repeat (first | exact q30_ | (with_reducible refine Kd.C_alloc ?_ _) | (with_reducible refine Kd.C_drewN ?_ _) | (with_reducible refine Kd.C_drew ?_))); (case side2 => exact HC273_0.out); rintro e w8 ⟨rfl, hb⟩; refine ⟨_, rfl, ?_⟩; have n0_ := Aside0.mk (Kd.V_below q6_ hb); have n1_ := Aside0.mk (Kd.V_below q69_ hb); have n2_ := Aside0.mk (Kd.C_below q30_ hb); have n3_ := Aside0.mk (below_step q0_ hb); clear HO_0; clear HL273_0; clear HR273_0; clear HB; have HO_0 := n0_; have HL273_0 := n1_; have HR273_0 := n2_; have HB := n3_; clear n0_ n1_ n2_ n3_; (try clear hb); (try clear hb2); (try clear hk); (try clear hi); have p275 : 0 ≤ (x4_1 : Int) := of_decide_eq_true q5_; have q275 : x4_1 < (l0.length : Int) := of_decide_eq_true q5_; obtain ⟨ad275, A275_0, c275_0, e275, hx275_0, hx275_1, hl275_0, hi275_0⟩ := at_T27 (Kd.V_reads' HO_0.out).2.2 x4_1 p275 q275; obtain rfl : ad273 = ad275 := (by injection e275); obtain ⟨ce275, hce275, hMe275, hcc275⟩ := Kd.V_get HO_0.out z27 x4_1 p275 (by first | exact q275 | exact of_decide_eq_true q5_ | (have e_ := (Kd.V_reads' HO_0.out).1; omega)); obtain ⟨ua275_0, uc275_0, rfl, ul275_0, ge275_0⟩ := k27_openF hMe275; have hv275_0 := hcc275 0 _ rfl; rw [Nat.add_zero] at hv275_0; replace hv275_0 := Option.some.inj (hv275_0.symm.trans hx275_0); injection hv275_0 with hva_ hvn_ hvc_; rw [hva_] at ge275_0; rw [hvc_] at ul275_0; have HL275_0 := Aside0.mk (show Kd.V k51 51 _ w.heap.size _ _ ((rd_T27 l0 x4_1).f0) from Kd.V_mk ul275_0 ge275_0); clear hva_ hvn_ hvc_ ge275_0 ul275_0; clear hcc275 hce275; have HR275_0 := Aside0.mk hi275_0; have HC275_0 := Aside0.mk hl275_0; clear hi275_0 hl275_0; replace p275 := eq_true p275; replace q275 := eq_true q275) | (go_at_call 25; (with_reducible refine (corollaryref13_fits.calls ((rd_T27 l0 x4_1).f1) true _ A6.out).mono ?_); rintro e w' ⟨rfl, ⟨nd, rfl⟩⟩))
       go_roundg k1
       case measure => have := HK1.out; omega
       case rel => exact ⟨(wrap64 (x4_1 + 1)), q9_, H', ⟨by have := HK1.out; omega⟩, ⟨q6_⟩, ⟨q0_⟩⟩
      ·replace c7 := Bool.eq_false_iff.mpr c7
       subst c7
       replace H := ifF_ H
       simp only [Option.some.injEq, Prod.mk.injEq] at H
       obtain ⟨rfl, rfl⟩ := H
       have p273 : 0 ≤ (x4_1 : Int) := of_decide_eq_true q5_
       have q273 : x4_1 < (l0.length : Int) := of_decide_eq_true q5_
       obtain ⟨ad273, A273_0, c273_0, e273, hx273_0, hx273_1, hl273_0, hi273_0⟩ := at_T27 (Kd.V_reads' HO_0.out).2.2 x4_1 p273 q273
       cases e273
       obtain ⟨ce273, hce273, hMe273, hcc273⟩ := Kd.V_get HO_0.out z27 x4_1 p273 q61_
       obtain ⟨ua273_0, uc273_0, rfl, ul273_0, ge273_0⟩ := k27_openF hMe273
       have hv273_0 := hcc273 0 _ rfl
       rw [Nat.add_zero] at hv273_0
       replace hv273_0 := Option.some.inj (hv273_0.symm.trans hx273_0)
       injection hv273_0 with hva_ hvn_ hvc_
       rw [hva_] at ge273_0
       rw [hvc_] at ul273_0
       have HL273_0 := Aside0.mk (show Kd.V k51 51 _ w.heap.size _ _ ((rd_T27 l0 x4_1).f0) from Kd.V_mk ul273_0 ge273_0)
       clear hva_ hvn_ hvc_ ge273_0 ul273_0
       clear hcc273 hce273
       have HR273_0 := Aside0.mk hi273_0
       have HC273_0 := Aside0.mk hl273_0
       clear hi273_0 hl273_0
       replace p273 := eq_true p273
       replace q273 := eq_true q273
       go_wp2_with (first | ((with_reducible refine gate_callee (f := 26) rfl ?_); refine goesL_ (some 21) rfl rfl Tryd.func26 (by kernel_rfl) rfl #[.slice A273_0 ((rd_T27 l0 x4_1).f0).length c273_0] rfl q2_ ?_; (with_reducible refine (corollaryref13_right.calls k1 _ _ ((rd_T27 l0 x4_1).f0) true _ ?side1 ?side2 A4.out).mono ?_); (case side1 => repeat (first | exact q30_ | (with_reducible refine Kd.C_alloc ?_ _) | (with_reducible refine Kd.C_drewN ?_ _) | (with_reducible refine Kd.C_drew ?_))); (case side2 => exact HC273_0.out); rintro e w9 ⟨rfl, hb⟩; refine ⟨_, rfl, ?_⟩; have n0_ := Aside0.mk (Kd.V_below q6_ hb); have n1_ := Aside0.mk (Kd.V_below q69_ hb); have n2_ := Aside0.mk (Kd.C_below q30_ hb); have n3_ := Aside0.mk (below_step q0_ hb); clear HO_0; clear HL273_0; clear HR273_0; clear HB; have HO_0 := n0_; have HL273_0 := n1_; have HR273_0 := n2_; have HB := n3_; clear n0_ n1_ n2_ n3_; (try clear hb); (try clear hb2); (try clear hk); (try clear hi); have p275 : 0 ≤ (x4_1 : Int) := of_decide_eq_true q5_; have q275 : x4_1 < (l0.length : Int) := of_decide_eq_true q5_; obtain ⟨ad275, A275_0, c275_0, e275, hx275_0, hx275_1, hl275_0, hi275_0⟩ := at_T27 (Kd.V_reads' HO_0.out).2.2 x4_1 p275 q275; obtain rfl : ad273 = ad275 := (by injection e275); obtain ⟨ce275, hce275, hMe275, hcc275⟩ := Kd.V_get HO_0.out z27 x4_1 p275 (by first | exact q275 | exact of_decide_eq_true q5_ | (have e_ := (Kd.V_reads' HO_0.out).1; omega)); obtain ⟨ua275_0, uc275_0, rfl, ul275_0, ge275_0⟩ := k27_openF hMe275; have hv275_0 := hcc275 0 _ rfl; rw [Nat.add_zero] at hv275_0; replace hv275_0 := Option.some.inj (hv275_0.symm.trans hx275_0); injection hv275_0 with hva_ hvn_ hvc_; rw [hva_] at ge275_0; rw [hvc_] at ul275_0; have HL275_0 := Aside0.mk (show Kd.V k51 51 _ w.heap.size _ _ ((rd_T27 l0 x4_1).f0) from Kd.V_mk ul275_0 ge275_0); clear hva_ hvn_ hvc_ ge275_0 ul275_0; clear hcc275 hce275; have HR275_0 := Aside0.mk hi275_0; have HC275_0 := Aside0.mk hl275_0; clear hi275_0 hl275_0; replace p275 := eq_true p275; replace q275 := eq_true q275) | (go_at_call 25; (with_reducible refine (corollaryref13_fits.calls ((rd_T27 l0 x4_1).f1) false _ A6.out).mono ?_); rintro e w' ⟨rfl, ⟨nd, rfl⟩⟩))
       go_ret2
       exact ⟨_, q4_, q19_, q0_⟩
     ·replace c5 := Bool.eq_false_iff.mpr c5
      subst c5
      replace H := ifF_ H
      simp only [Option.some.injEq, Prod.mk.injEq] at H
      obtain ⟨rfl, rfl⟩ := H
      have p273 : 0 ≤ (x4_1 : Int) := of_decide_eq_true q5_
      have q273 : x4_1 < (l0.length : Int) := of_decide_eq_true q5_
      obtain ⟨ad273, A273_0, c273_0, e273, hx273_0, hx273_1, hl273_0, hi273_0⟩ := at_T27 (Kd.V_reads' HO_0.out).2.2 x4_1 p273 q273
      cases e273
      obtain ⟨ce273, hce273, hMe273, hcc273⟩ := Kd.V_get HO_0.out z27 x4_1 p273 q61_
      obtain ⟨ua273_0, uc273_0, rfl, ul273_0, ge273_0⟩ := k27_openF hMe273
      have hv273_0 := hcc273 0 _ rfl
      rw [Nat.add_zero] at hv273_0
      replace hv273_0 := Option.some.inj (hv273_0.symm.trans hx273_0)
      injection hv273_0 with hva_ hvn_ hvc_
      rw [hva_] at ge273_0
      rw [hvc_] at ul273_0
      have HL273_0 := Aside0.mk (show Kd.V k51 51 _ w.heap.size _ _ ((rd_T27 l0 x4_1).f0) from Kd.V_mk ul273_0 ge273_0)
      clear hva_ hvn_ hvc_ ge273_0 ul273_0
      clear hcc273 hce273
      have HR273_0 := Aside0.mk hi273_0
      have HC273_0 := Aside0.mk hl273_0
      clear hi273_0 hl273_0
      replace p273 := eq_true p273
      replace q273 := eq_true q273
      go_wp2_with (first | ((with_reducible refine gate_callee (f := 26) rfl ?_); refine goesL_ (some 21) rfl rfl Tryd.func26 (by kernel_rfl) rfl #[.slice A273_0 ((rd_T27 l0 x4_1).f0).length c273_0] rfl q2_ ?_; (with_reducible refine (corollaryref13_right.calls k1 _ _ ((rd_T27 l0 x4_1).f0) false _ ?side1 ?side2 A4.out).mono ?_); (case side1 => repeat (first | exact q30_ | (with_reducible refine Kd.C_alloc ?_ _) | (with_reducible refine Kd.C_drewN ?_ _) | (with_reducible refine Kd.C_drew ?_))); (case side2 => exact HC273_0.out); rintro e w10 ⟨rfl, hb⟩; refine ⟨_, rfl, ?_⟩; have n0_ := Aside0.mk (Kd.V_below q6_ hb); have n1_ := Aside0.mk (Kd.V_below q69_ hb); have n2_ := Aside0.mk (Kd.C_below q30_ hb); have n3_ := Aside0.mk (below_step q0_ hb); clear HO_0; clear HL273_0; clear HR273_0; clear HB; have HO_0 := n0_; have HL273_0 := n1_; have HR273_0 := n2_; have HB := n3_; clear n0_ n1_ n2_ n3_; (try clear hb); (try clear hb2); (try clear hk); (try clear hi)))
      go_ret2
      exact ⟨_, q4_, q19_, q0_⟩
    ·rw [if_neg c3] at H
     exact absurd H (by simp)
   ·rw [if_neg c2] at H
    have c2b0 : decide (x4_1 < (l0.length : Int)) = false := decide_eq_false c2
    clear c2
    have H' := Aside0.mk H
    clear H
    go_wp2
    go_loopg [5, 6] k1 (fun kq v5 v6 w' => ∃ (x5_2 : List (S27)) (x6_2 : List (List (S51))), Aside0 (corollaryref13_Sort.l1 kq l0 x5_2 x6_2 = some (r1, r2)) ∧ Aside0 (kq ≤ k1) ∧ Aside0 (Kd.V k27 27 w' w.heap.size (fun k_ => (P0_ k_ ∨ w.heap.size ≤ k_) ∧ some k_ ≠ (v5 : Value).ownBlock ∧ some k_ ≠ (v6 : Value).ownBlock) (.slice A0 l0.length c0) l0) ∧ Aside0 (Kd.N k27 27 w' w.heap.size (fun k_ => (P0_ k_ ∨ w.heap.size ≤ k_) ∧ some k_ ≠ (v6 : Value).ownBlock) v5 x5_2) ∧ Aside0 (Kd.N (Kd.slice 51 k51) 23 w' w.heap.size (fun k_ => (P0_ k_ ∨ w.heap.size ≤ k_) ∧ some k_ ≠ (v5 : Value).ownBlock) v6 x6_2) ∧ Aside0 (Below w.heap.size w w'))
    case atStart => exact ⟨(([] : List (S27))), (([] : List (List (S51)))), H', ⟨Nat.le_refl _⟩, ⟨by (with_reducible repeat (first | apply Kd.V_alloc | apply Kd.V_drewN | apply Kd.V_drew)); exact Kd.V_mono HO_0.out (fun _ hk => ⟨hk, ⟨(by simp [Value.ownBlock]), (by simp [Value.ownBlock])⟩⟩)⟩, ⟨q19_⟩, ⟨q19_⟩, ⟨q0_⟩⟩
    case round =>
     clear H'
     try clear c1
     try clear c2
     try clear c2b0
     try clear p2
     try clear q2
     try clear hx2
     try clear c3
     try clear c3b0
     try clear c5
     try clear p6
     try clear c7
     try clear hx273_0
     try clear hx273_1
     try clear hx275_0
     try clear hx275_1
     try clear p273
     try clear p275
     try clear q273
     try clear q275
     obtain ⟨x5_2, x6_2, HA, HK2, HO_0, HO_5, HO_6, HB⟩ := hrel
     cases gk with
     | zero => exact absurd HA.out (by simp [corollaryref13_Sort.l1])
     | succ k2 =>
      have H := HA.out
      clear HA
      simp only [corollaryref13_Sort.l1] at H
      have H' := Aside0.mk H
      clear H
      go_wp2
      go_loopg [7, 8] k2 (fun kq v7 v8 w' => ∃ (x7_3 : Int) (x8_3 : Int), v7 = .int .i64 x7_3 ∧ v8 = .int .i64 x8_3 ∧ Aside0 (corollaryref13_Sort.l2 kq l0 x5_2 x6_2 x7_3 x8_3 = some (r1, r2)) ∧ Aside0 (kq ≤ k2) ∧ Aside0 (Kd.V k27 27 w' w.heap.size (fun k_ => (P0_ k_ ∨ w.heap.size ≤ k_) ∧ some k_ ≠ (u5 : Value).ownBlock ∧ some k_ ≠ (u6 : Value).ownBlock) (.slice A0 l0.length c0) l0) ∧ Aside0 (Kd.N k27 27 w' w.heap.size (fun k_ => (P0_ k_ ∨ w.heap.size ≤ k_) ∧ some k_ ≠ (u6 : Value).ownBlock) u5 x5_2) ∧ Aside0 (Kd.N (Kd.slice 51 k51) 23 w' w.heap.size (fun k_ => (P0_ k_ ∨ w.heap.size ≤ k_) ∧ some k_ ≠ (u5 : Value).ownBlock) u6 x6_2) ∧ Aside0 (Below w.heap.size w w'))
      case atStart => exact ⟨((-1)), (0), q9_, q9_, H', ⟨Nat.le_refl _⟩, ⟨q6_⟩, ⟨q7_⟩, ⟨q27_⟩, ⟨q0_⟩⟩
      case round =>
       clear H'
       try clear c1
       try clear c2
       try clear c2b0
       try clear p2
       try clear q2
       try clear hx2
       try clear c3
       try clear c3b0
       try clear c5
       try clear p6
       try clear c7
       try clear hx273_0
       try clear hx273_1
       try clear hx275_0
       try clear hx275_1
       try clear p2
       try clear p273
       try clear p275
       try clear p6
       try clear q2
       try clear q273
       try clear q275
       obtain ⟨x7_3, x8_3, rfl, rfl, HA, HK3, HO_0, HO_5, HO_6, HB⟩ := hrel
       cases gk with
       | zero => exact absurd HA.out (by simp [corollaryref13_Sort.l2])
       | succ k3 =>
        have H := HA.out
        clear HA
        simp only [corollaryref13_Sort.l2] at H
        by_cases c11 : x8_3 < (l0.length : Int)
        ·rw [if_pos c11] at H
         have c11b0 : decide (x8_3 < (l0.length : Int)) = true := decide_eq_true c11
         clear c11
         have HC12 := Aside0.mk H
         clear H
         go_upto_region 12 with (fail)
         go_cut [55] (fun v55 wc => ∃ (kq : Nat) (x55_11 : Bool), v55 = .bool x55_11 ∧ Aside0 (corollaryref13_Sort.j3 kq l0 x5_2 x6_2 x7_3 x8_3 x55_11 = some (r1, r2)) ∧ Aside0 (kq ≤ k3) ∧ Aside0 (Kd.V k27 27 wc w.heap.size (fun k_ => (P0_ k_ ∨ w.heap.size ≤ k_) ∧ some k_ ≠ (u5 : Value).ownBlock ∧ some k_ ≠ (u6 : Value).ownBlock) (.slice A0 l0.length c0) l0) ∧ Aside0 (Kd.N k27 27 wc w.heap.size (fun k_ => (P0_ k_ ∨ w.heap.size ≤ k_) ∧ some k_ ≠ (u6 : Value).ownBlock) u5 x5_2) ∧ Aside0 (Kd.N (Kd.slice 51 k51) 23 wc w.heap.size (fun k_ => (P0_ k_ ∨ w.heap.size ≤ k_) ∧ some k_ ≠ (u5 : Value).ownBlock) u6 x6_2) ∧ Aside0 (Below w.heap.size w wc))
         case first =>
          have H := HC12.out
          clear HC12
          by_cases c13 : (x6_2.length : Int) > 0
          ·rw [if_pos c13] at H
           have c13b0 : decide (0 < (x6_2.length : Int)) = true := decide_eq_true c13
           have c13b1 : decide (0 < x6_2.length) = true := decide_eq_true (by omega)
           clear c13
           (first | rw [c13b0] | (simp only [i64_w, i32_w]; rw [c13b0]) | skip)
           by_cases c14 : 0 ≤ x8_3
           ·rw [if_pos c14] at H
            have c14b0 : decide (0 ≤ x8_3) = true := decide_eq_true c14
            clear c14
            obtain ⟨ji15, hji15⟩ : ∃ j_ : Int, (wrap64 ((x6_2.length : Int) - 1)) = j_ := ⟨_, rfl⟩
            replace H : (if 0 ≤ (ji15) then (if (ji15) < (x6_2.length : Int) then ((corollaryref01_Rows.f k3 ((rd_T27 l0 x8_3).f0) (rd_L3 x6_2 (ji15))).bind fun t279 => (corollaryref13_Sort.j3 k3 l0 x5_2 x6_2 x7_3 x8_3 (t279 != 1))) else (none)) else (none)) = some (r1, r2) := by first | (rw [hji15] at H; exact H) | (simp only [hji15] at H ⊢; exact H)
            have hji15w : (IntKind.i64.wrap ((x6_2.length : Int) - 1)) = ji15 := (i64_w _).trans hji15
            by_cases c16 : 0 ≤ (ji15)
            ·rw [if_pos c16] at H
             have c16b0 : decide (0 ≤ (ji15)) = true := decide_eq_true c16
             clear c16
             by_cases c17 : (ji15) < (x6_2.length : Int)
             ·rw [if_pos c17] at H
              have c17b0 : decide ((ji15) < (x6_2.length : Int)) = true := decide_eq_true c17
              clear c17
              replace H := Option.bind_eq_some_iff.mp H
              obtain ⟨t279, A180, H⟩ := H
              replace H : (corollaryref13_Sort.j3 k3 l0 x5_2 x6_2 x7_3 x8_3 (t279 != 1)) = some (r1, r2) := H
              have A18 := Aside0.mk A180
              clear A180
              have H' := Aside0.mk H
              clear H
              try go_wp2
              have n0_ := Aside0.mk (Kd.V_drew HO_0.out)
              have n1_ := Aside0.mk (Kd.N_drew HO_5.out)
              have n2_ := Aside0.mk (Kd.N_drew HO_6.out)
              have n3_ := Aside0.mk (below_drew1 HB.out)
              clear HO_0
              clear HO_5
              clear HO_6
              clear HB
              have HO_0 := n0_
              have HO_5 := n1_
              have HO_6 := n2_
              have HB := n3_
              clear n0_ n1_ n2_ n3_
              obtain ⟨Ao20, co20, eo20⟩ := Kd.N_slice HO_6.out
              (first | subst eo20 | (injection eo20 with f1_ f2_ f3_; have f4_ := f1_.symm; have f5_ := f3_.symm; clear f1_ f2_ f3_; subst f4_; subst f5_))
              have p277 : 0 ≤ (x8_3 : Int) := of_decide_eq_true q5_
              have q277 : x8_3 < (l0.length : Int) := of_decide_eq_true q5_
              obtain ⟨ad277, A277_0, c277_0, e277, hx277_0, hx277_1, hl277_0, hi277_0⟩ := at_T27 (Kd.V_reads' HO_0.out).2.2 x8_3 p277 q277
              cases e277
              obtain ⟨ce277, hce277, hMe277, hcc277⟩ := Kd.V_get HO_0.out z27 x8_3 p277 (by first | exact q277 | exact of_decide_eq_true q5_ | (have e_ := (Kd.V_reads' HO_0.out).1; omega))
              obtain ⟨ua277_0, uc277_0, rfl, ul277_0, ge277_0⟩ := k27_openF hMe277
              have hv277_0 := hcc277 0 _ rfl
              rw [Nat.add_zero] at hv277_0
              replace hv277_0 := Option.some.inj (hv277_0.symm.trans hx277_0)
              injection hv277_0 with hva_ hvn_ hvc_
              rw [hva_] at ge277_0
              rw [hvc_] at ul277_0
              have HL277_0 := Aside0.mk (show Kd.V k51 51 _ w.heap.size _ _ ((rd_T27 l0 x8_3).f0) from Kd.V_mk ul277_0 ge277_0)
              clear hva_ hvn_ hvc_ ge277_0 ul277_0
              clear hcc277 hce277
              have HR277_0 := Aside0.mk hi277_0
              have HC277_0 := Aside0.mk hl277_0
              clear hi277_0 hl277_0
              replace p277 := eq_true p277
              replace q277 := eq_true q277
              have p278 : 0 ≤ ((ji15) : Int) := of_decide_eq_true q5_
              have q278 : (ji15) < (x6_2.length : Int) := of_decide_eq_true q5_
              obtain ⟨ad278, A278_0, c278_0, e278, hx278_0, hl278_0, hi278_0⟩ := at_L3 (Kd.N_reads' HO_6.out).2.2 (ji15) p278 q278
              cases e278
              obtain ⟨ce278, hce278, hMe278, hcc278⟩ := Kd.N_get HO_6.out [] (ji15) p278 (by first | exact q278 | exact of_decide_eq_true q5_ | (have e_ := (Kd.N_reads' HO_6.out).1; omega))
              obtain ⟨ua278_0, uc278_0, rfl, ul278_0, ge278_0⟩ := Kd.FK_slice_open hMe278
              have hv278_0 := hcc278 0 _ rfl
              rw [Nat.add_zero, show ((Kd.slice 51 k51)).sz = 1 from rfl, Nat.mul_one] at hv278_0
              replace hv278_0 := Option.some.inj (hv278_0.symm.trans hx278_0)
              injection hv278_0 with hva_ hvn_ hvc_
              rw [hva_] at ge278_0
              rw [hvc_] at ul278_0
              have HL278_0 := Aside0.mk (show Kd.V k51 51 _ w.heap.size _ _ (rd_L3 x6_2 (ji15)) from Kd.V_mk ul278_0 ge278_0)
              clear hva_ hvn_ hvc_ ge278_0 ul278_0
              clear hcc278 hce278
              have HR278_0 := Aside0.mk hi278_0
              have HC278_0 := Aside0.mk hl278_0
              clear hi278_0 hl278_0
              replace p278 := eq_true p278
              replace q278 := eq_true q278
              refine start_ (n := 18) (S := fun w' => w'.cell? (ad277.add ((x8_3).toNat * 2)) = some (.slice A277_0 ((rd_T27 l0 x8_3).f0).length c277_0) ∧ w'.cell? ⟨(ad277.add ((x8_3).toNat * 2)).block, (ad277.add ((x8_3).toNat * 2)).off + 1, none⟩ = some (.int .i64 ((rd_T27 l0 x8_3).f1)) ∧ w'.cell? (ad278.add ((ji15)).toNat) = some (.slice A278_0 (rd_L3 x6_2 (ji15)).length c278_0)) (ds := []) b64_0 (by kernel_rfl) rfl rfl ⟨hx277_0, hx277_1, hx278_0⟩ (fun hHeld => ?_); refine with_tabW corollaryref13_Sort.tab12 corollaryref13_Sort.bits12 (fun HT_ HW_ => ?_)
              generalize wr.drew = w19 at HO_0 HO_5 HO_6 HB HL277_0 HL278_0 HR277_0 HR278_0 hx277_0 hx277_1 hx278_0 hHeld ⊢
              refine pure_ (i := 0) (N := some 38) (v := ?_) (a' := ?_) b64_1 rfl rfl qh_ qi_ (Or.inl ⟨qr_, ?_⟩) ?_ ?_; rotate_left; (intro w'; go_simp; with_reducible rfl); rotate_left; exact qa_
              refine pure_ (i := 1) (N := some 39) (v := ?_) (a' := ?_) b64_2 rfl rfl qh_ qi_ (Or.inl ⟨qr_, ?_⟩) ?_ ?_; rotate_left; (intro w'; go_simp; with_reducible rfl); rotate_left; exact qa_
              refine pure_ (i := 2) (N := some 40) (v := ?_) (a' := ?_) b64_3 rfl rfl qh_ qi_ (Or.inl ⟨qr_, ?_⟩) ?_ ?_; rotate_left; (intro w'; go_simp; with_reducible rfl); rotate_left; exact qa_
              refine pure_ (i := 3) (N := some 41) (v := ?_) (a' := ?_) b64_4 rfl rfl qh_ qi_ (Or.inl ⟨qr_, ?_⟩) ?_ ?_; rotate_left; (intro w'; go_simp; with_reducible rfl); rotate_left; exact qa_
              refine pure_ (i := 4) (N := some 42) (v := ?_) (a' := ?_) b64_5 rfl rfl qh_ qi_ (Or.inl ⟨qr_, ?_⟩) ?_ ?_; rotate_left; (intro w'; go_simp; with_reducible rfl); rotate_left; exact qa_
              refine pure_ (i := 5) (N := some 43) (v := ?_) (a' := ?_) b64_6 rfl rfl qh_ qi_ (Or.inl ⟨qr_, ?_⟩) ?_ ?_; rotate_left; (intro w'; go_simp; with_reducible rfl); rotate_left; exact qa_
              refine pure_ (i := 6) (N := some 44) (v := ?_) (a' := ?_) b64_7 rfl rfl qh_ qi_ (Or.inl ⟨qr_, ?_⟩) ?_ ?_; rotate_left; (intro w'; go_simp; with_reducible rfl); rotate_left; exact qa_
              refine pure_ (i := 7) (N := some 45) (v := ?_) (a' := ?_) b64_8 rfl rfl qh_ qi_ (Or.inl ⟨qr_, ?_⟩) ?_ ?_; rotate_left; (intro w'; go_simp; with_reducible rfl); rotate_left; exact qa_
              refine pure_ (i := 9) (N := some 47) (v := ?_) (a' := ?_) b64_9 rfl rfl qh_ qi_ (Or.inl ⟨qr_, ?_⟩) ?_ ?_; rotate_left; (intro w'; go_simp; with_reducible rfl); rotate_left; exact qa_
              refine pure_ (i := 10) (N := some 48) (v := ?_) (a' := ?_) b64_10 rfl rfl qh_ qi_ (Or.inl ⟨qr_, ?_⟩) ?_ ?_; rotate_left; (intro w'; go_simp; with_reducible rfl); rotate_left; exact qa_
              refine pure_ (i := 11) (N := some 49) (v := ?_) (a' := ?_) b64_11 rfl rfl qh_ qi_ (Or.inl ⟨qr_, ?_⟩) ?_ ?_; rotate_left; (intro w'; go_simp; with_reducible rfl); rotate_left; exact qa_
              refine pure_ (i := 12) (N := some 50) (v := ?_) (a' := ?_) b64_12 rfl rfl qh_ qi_ (Or.inl ⟨qr_, ?_⟩) ?_ ?_; rotate_left; (intro w'; go_simp; with_reducible rfl); rotate_left; exact qa_
              refine pure_ (i := 13) (N := some 51) (v := ?_) (a' := ?_) b64_13 rfl rfl qh_ qi_ (Or.inl ⟨qr_, ?_⟩) ?_ ?_; rotate_left; (intro w'; go_simp; with_reducible rfl); rotate_left; exact qa_
              refine take_ (i := 8) (N := some 46) (v := ?_) (a' := ?_) b64_14 rfl rfl (take_ofW HT_.out HW_.out (by kernel_rfl)) (fun _ _ _ h => h) (Or.inl ⟨by rfl, ?_⟩) hHeld ?_ ?_; rotate_left; (rintro w' ⟨s0, s1, s2⟩; go_simp; with_reducible rfl); rotate_left; exact qa_
              refine take_ (i := 14) (N := some 52) (v := ?_) (a' := ?_) b64_15 rfl rfl (take_ofW HT_.out HW_.out (by kernel_rfl)) (fun _ _ _ h => h) (Or.inl ⟨by rfl, ?_⟩) hHeld ?_ ?_; rotate_left; (rintro w' ⟨s0, s1, s2⟩; go_simp; with_reducible rfl); rotate_left; exact qa_
              refine one_ (i := 15) (N := some 53) b64_16 rfl rfl (one_of HT_.out (by kernel_rfl)) (by decide) (fun K hK => ?_)
              refine goes_ Tryd.func27 (by kernel_rfl) rfl #[.slice A277_0 ((rd_T27 l0 x8_3).f0).length c277_0, .slice A278_0 (rd_L3 x6_2 (ji15)).length c278_0] (by rfl) rfl rfl (by (try simp only [List.map_toArray, List.map_cons, List.map_nil]); first | done | (simp only [hji15]; rfl) | rfl | (simp only [List.length_drop, List.length_take]; rfl)) ?_
              with_reducible refine (corollaryref01_Rows.calls k3 _ _ ((rd_T27 l0 x8_3).f0) _ _ (rd_L3 x6_2 (ji15)) t279 _ ?side1 ?side2 ?side3 ?side4 A18.out).mono ?_
              (case side1 => repeat (first | exact (by repeat (first | (with_reducible exact HR277_0.out) | (with_reducible refine Kd.C_alloc ?_ _) | (with_reducible refine Kd.C_drewN ?_ _) | (with_reducible refine Kd.C_drew ?_) | exact HR277_0.out)) | (with_reducible refine Kd.C_alloc ?_ _) | (with_reducible refine Kd.C_drewN ?_ _) | (with_reducible refine Kd.C_drew ?_)))
              (case side2 => exact HC277_0.out)
              (case side3 => repeat (first | exact (by repeat (first | (with_reducible exact HR278_0.out) | (with_reducible refine Kd.C_alloc ?_ _) | (with_reducible refine Kd.C_drewN ?_ _) | (with_reducible refine Kd.C_drew ?_) | exact HR278_0.out)) | (with_reducible refine Kd.C_alloc ?_ _) | (with_reducible refine Kd.C_drewN ?_ _) | (with_reducible refine Kd.C_drew ?_)))
              (case side4 => exact HC278_0.out)
              rintro e w21 ⟨rfl, hb⟩
              have HS0_ := (hb.cell (World.block_lt_of_cell? _ _ (hHeld.1))).trans (hHeld.1)
              have HS1_ := (hb.cell (World.block_lt_of_cell? _ _ (hHeld.2.1))).trans (hHeld.2.1)
              have HS2_ := (hb.cell (World.block_lt_of_cell? _ _ (hHeld.2.2))).trans (hHeld.2.2)
              refine ⟨_, rfl, ?_⟩
              have n0_ := Aside0.mk (Kd.V_below q6_ hb)
              have n1_ := Aside0.mk (Kd.N_below q7_ hb)
              have n2_ := Aside0.mk (Kd.N_below q27_ hb)
              have n3_ := Aside0.mk (Kd.V_below (by (with_reducible repeat (first | apply Kd.V_alloc | apply Kd.V_drewN | apply Kd.V_drew)); exact HL277_0.out) hb)
              have n4_ := Aside0.mk (Kd.V_below (by (with_reducible repeat (first | apply Kd.V_alloc | apply Kd.V_drewN | apply Kd.V_drew)); exact HL278_0.out) hb)
              have n5_ := Aside0.mk (Kd.C_below (by repeat (first | (with_reducible exact HR277_0.out) | (with_reducible refine Kd.C_alloc ?_ _) | (with_reducible refine Kd.C_drewN ?_ _) | (with_reducible refine Kd.C_drew ?_) | exact HR277_0.out)) hb)
              have n6_ := Aside0.mk (Kd.C_below (by repeat (first | (with_reducible exact HR278_0.out) | (with_reducible refine Kd.C_alloc ?_ _) | (with_reducible refine Kd.C_drewN ?_ _) | (with_reducible refine Kd.C_drew ?_) | exact HR278_0.out)) hb)
              have n7_ := Aside0.mk (below_step q0_ hb)
              clear HO_0
              clear HO_5
              clear HO_6
              clear HL277_0
              clear HL278_0
              clear HR277_0
              clear HR278_0
              clear HB
              have HO_0 := n0_
              have HO_5 := n1_
              have HO_6 := n2_
              have HL277_0 := n3_
              have HL278_0 := n4_
              have HR277_0 := n5_
              have HR278_0 := n6_
              have HB := n7_
              clear n0_ n1_ n2_ n3_ n4_ n5_ n6_ n7_
              (try clear hb)
              (try clear hb2)
              (try clear hk)
              (try clear hi)
              refine hK.out _ _ ⟨HS0_, HS1_, HS2_⟩ (fun hHeld => ?_)
              clear hK K
              refine norm_ (a' := ?_) ?_ ?_
              rotate_left
              ·show Act.put _ (some 53) _ = _
               simp only [Act.put, List.setIfInBounds_toArray, List.set_cons_zero, List.set_cons_succ, i64_w, i32_w]
               rfl
              refine pure_ (i := 16) (N := some 54) (v := ?_) (a' := ?_) b64_17 rfl rfl qh_ qi_ (Or.inl ⟨qr_, ?_⟩) ?_ ?_; rotate_left; (intro w'; go_simp; with_reducible rfl); rotate_left; exact qa_
              refine pure_ (i := 17) (N := some 55) (v := ?_) (a' := ?_) b64_18 rfl rfl qh_ qi_ (Or.inl ⟨qr_, ?_⟩) ?_ ?_; rotate_left; (intro w'; go_simp; with_reducible rfl); rotate_left; exact qa_
              refine done_ (done_of HT_.out (by kernel_rfl)) ?_
              try go_wp2
              go_meet
              case rel => exact ⟨_, ((t279 != 1)), q9_, H', ⟨by have := HK1.out; have := HK2.out; have := HK3.out; first | omega | exact Nat.le_refl _⟩, ⟨q6_⟩, ⟨q7_⟩, ⟨q27_⟩, ⟨q0_⟩⟩
             ·rw [if_neg c17] at H
              exact absurd H (by simp)
            ·rw [if_neg c16] at H
             exact absurd H (by simp)
           ·rw [if_neg c14] at H
            exact absurd H (by simp)
          ·rw [if_neg c13] at H
           have c13b0 : decide (0 < (x6_2.length : Int)) = false := decide_eq_false c13
           have c13b1 : decide (0 < x6_2.length) = false := decide_eq_false (by omega)
           clear c13
           (first | rw [c13b0] | (simp only [i64_w, i32_w]; rw [c13b0]) | skip)
           have H' := Aside0.mk H
           clear H
           try go_wp2
           have n0_ := Aside0.mk (Kd.V_drew HO_0.out)
           have n1_ := Aside0.mk (Kd.N_drew HO_5.out)
           have n2_ := Aside0.mk (Kd.N_drew HO_6.out)
           have n3_ := Aside0.mk (below_drew1 HB.out)
           clear HO_0
           clear HO_5
           clear HO_6
           clear HB
           have HO_0 := n0_
           have HO_5 := n1_
           have HO_6 := n2_
           have HB := n3_
           clear n0_ n1_ n2_ n3_
           obtain ⟨Ao23, co23, eo23⟩ := Kd.N_slice HO_6.out
           (first | subst eo23 | (injection eo23 with f1_ f2_ f3_; have f4_ := f1_.symm; have f5_ := f3_.symm; clear f1_ f2_ f3_; subst f4_; subst f5_))
           refine start_ (n := 18) (S := fun w' => True) (ds := []) b64_0 (by kernel_rfl) rfl rfl trivial (fun hHeld => ?_); refine with_tabW corollaryref13_Sort.tab12 corollaryref13_Sort.bits12 (fun HT_ HW_ => ?_)
           generalize wr.drew = w22 at HO_0 HO_5 HO_6 HB hHeld ⊢
           refine pure_ (i := 0) (N := some 38) (v := ?_) (a' := ?_) b64_1 rfl rfl qh_ qi_ (Or.inl ⟨qr_, ?_⟩) ?_ ?_; rotate_left; (intro w'; go_simp; with_reducible rfl); rotate_left; exact qa_
           refine pure_ (i := 1) (N := some 39) (v := ?_) (a' := ?_) b64_2 rfl rfl qh_ qi_ (Or.inl ⟨qr_, ?_⟩) ?_ ?_; rotate_left; (intro w'; go_simp; with_reducible rfl); rotate_left; exact qa_
           refine pure_ (i := 2) (N := some 40) (v := ?_) (a' := ?_) b64_3 rfl rfl qh_ qi_ (Or.inl ⟨qr_, ?_⟩) ?_ ?_; rotate_left; (intro w'; go_simp; with_reducible rfl); rotate_left; exact qa_
           refine pure_ (i := 3) (N := some 41) (v := ?_) (a' := ?_) b64_4 rfl rfl qh_ qi_ (Or.inl ⟨qr_, ?_⟩) ?_ ?_; rotate_left; (intro w'; go_simp; with_reducible rfl); rotate_left; exact qa_
           refine pure_ (i := 4) (N := some 42) (v := undef) (a' := ?_) b64_5 rfl rfl qh_ qi_ (Or.inr ⟨qr_, rfl⟩) ?_ ?_; rotate_left; exact qa_
           refine pure_ (i := 5) (N := some 43) (v := undef) (a' := ?_) b64_6 rfl rfl qh_ qi_ (Or.inr ⟨qr_, rfl⟩) ?_ ?_; rotate_left; exact qa_
           refine pure_ (i := 6) (N := some 44) (v := undef) (a' := ?_) b64_7 rfl rfl qh_ qi_ (Or.inr ⟨qr_, rfl⟩) ?_ ?_; rotate_left; exact qa_
           refine pure_ (i := 7) (N := some 45) (v := undef) (a' := ?_) b64_8 rfl rfl qh_ qi_ (Or.inr ⟨qr_, rfl⟩) ?_ ?_; rotate_left; exact qa_
           refine pure_ (i := 8) (N := some 46) (v := undef) (a' := ?_) b64_19 rfl rfl qh_ qi_ (Or.inr ⟨qr_, rfl⟩) ?_ ?_; rotate_left; exact qa_
           refine pure_ (i := 9) (N := some 47) (v := undef) (a' := ?_) b64_20 rfl rfl qh_ qi_ (Or.inr ⟨qr_, rfl⟩) ?_ ?_; rotate_left; exact qa_
           refine pure_ (i := 10) (N := some 48) (v := undef) (a' := ?_) b64_21 rfl rfl qh_ qi_ (Or.inr ⟨qr_, rfl⟩) ?_ ?_; rotate_left; exact qa_
           refine pure_ (i := 11) (N := some 49) (v := undef) (a' := ?_) b64_22 rfl rfl qh_ qi_ (Or.inr ⟨qr_, rfl⟩) ?_ ?_; rotate_left; exact qa_
           refine pure_ (i := 12) (N := some 50) (v := undef) (a' := ?_) b64_23 rfl rfl qh_ qi_ (Or.inr ⟨qr_, rfl⟩) ?_ ?_; rotate_left; exact qa_
           refine pure_ (i := 13) (N := some 51) (v := undef) (a' := ?_) b64_14 rfl rfl qh_ qi_ (Or.inr ⟨qr_, rfl⟩) ?_ ?_; rotate_left; exact qa_
           refine pure_ (i := 14) (N := some 52) (v := undef) (a' := ?_) b64_15 rfl rfl qh_ qi_ (Or.inr ⟨qr_, rfl⟩) ?_ ?_; rotate_left; exact qa_
           refine pure_ (i := 15) (N := some 53) (v := undef) (a' := ?_) b64_16 rfl rfl qh_ qi_ (Or.inr ⟨qr_, rfl⟩) ?_ ?_; rotate_left; exact qa_
           refine pure_ (i := 16) (N := some 54) (v := undef) (a' := ?_) b64_17 rfl rfl qh_ qi_ (Or.inr ⟨qr_, rfl⟩) ?_ ?_; rotate_left; exact qa_
           refine pure_ (i := 17) (N := some 55) (v := ?_) (a' := ?_) b64_18 rfl rfl qh_ qi_ (Or.inl ⟨qr_, ?_⟩) ?_ ?_; rotate_left; (intro w'; go_simp; with_reducible rfl); rotate_left; exact qa_
           refine done_ (done_of HT_.out (by kernel_rfl)) ?_
           try go_wp2
           go_meet
           case rel => exact ⟨_, (false), q9_, H', ⟨by have := HK1.out; have := HK2.out; have := HK3.out; first | omega | exact Nat.le_refl _⟩, ⟨q6_⟩, ⟨q7_⟩, ⟨q27_⟩, ⟨q0_⟩⟩
         case rest =>
          clear HC12
          try clear c1
          try clear c2
          try clear c2b0
          try clear p2
          try clear q2
          try clear hx2
          try clear c3
          try clear c3b0
          try clear c5
          try clear p6
          try clear c7
          try clear c11
          try clear c11b0
          try clear c13
          try clear c13b0
          try clear c13b1
          try clear c14
          try clear c14b0
          try clear c16
          try clear c16b0
          try clear c17
          try clear c17b0
          try clear hx273_0
          try clear hx273_1
          try clear hx275_0
          try clear hx275_1
          try clear hx277_0
          try clear hx277_1
          try clear hx278_0
          try clear p2
          try clear p273
          try clear p275
          try clear p277
          try clear p278
          try clear p6
          try clear q2
          try clear q273
          try clear q275
          try clear q277
          try clear q278
          obtain ⟨kq, x55_11, rfl, HA, HJ11, HO_0, HO_5, HO_6, HB⟩ := hcut
          cases kq with
          | zero => exact absurd HA.out (by simp [corollaryref13_Sort.j3])
          | succ kj11 =>
           have H := HA.out
           clear HA
           simp only [corollaryref13_Sort.j3] at H
           by_cases c24 : x55_11 = true
           ·subst c24
            replace H := ifT_ H
            have H' := Aside0.mk H
            clear H
            go_wp2
            go_roundg kj11
            case measure => have := HK1.out; have := HK2.out; have := HK3.out; have := HJ11.out; omega
            case rel => exact ⟨(x7_3), (wrap64 (x8_3 + 1)), q9_, q9_, H', ⟨q68_⟩, ⟨q6_⟩, ⟨q7_⟩, ⟨q27_⟩, ⟨q0_⟩⟩
           ·replace c24 := Bool.eq_false_iff.mpr c24
            subst c24
            replace H := ifF_ H
            by_cases c25 : x7_3 < 0
            ·rw [if_pos c25] at H
             have c25b0 : decide (x7_3 < 0) = true := decide_eq_true c25
             clear c25
             have H' := Aside0.mk H
             clear H
             try go_wp2
             have n0_ := Aside0.mk (Kd.V_drew HO_0.out)
             have n1_ := Aside0.mk (Kd.N_drew HO_5.out)
             have n2_ := Aside0.mk (Kd.N_drew HO_6.out)
             have n3_ := Aside0.mk (below_drew1 HB.out)
             clear HO_0
             clear HO_5
             clear HO_6
             clear HB
             have HO_0 := n0_
             have HO_5 := n1_
             have HO_6 := n2_
             have HB := n3_
             clear n0_ n1_ n2_ n3_
             refine start_ (n := 16) (S := fun w' => True) (ds := []) b64_24 (by kernel_rfl) rfl rfl trivial (fun hHeld => ?_); refine with_tabW corollaryref13_Sort.tab13 corollaryref13_Sort.bits13 (fun HT_ HW_ => ?_)
             generalize wc.drew = w26 at HO_0 HO_5 HO_6 HB hHeld ⊢
             refine pure_ (i := 0) (N := some 56) (v := ?_) (a' := ?_) b64_25 rfl rfl qh_ qi_ (Or.inl ⟨qr_, ?_⟩) ?_ ?_; rotate_left; (intro w'; go_simp; with_reducible rfl); rotate_left; exact qa_
             refine pure_ (i := 1) (N := some 57) (v := ?_) (a' := ?_) b64_26 rfl rfl qh_ qi_ (Or.inl ⟨qr_, ?_⟩) ?_ ?_; rotate_left; (intro w'; go_simp; with_reducible rfl); rotate_left; exact qa_
             refine pure_ (i := 2) (N := some 58) (v := ?_) (a' := ?_) b64_27 rfl rfl qh_ qi_ (Or.inl ⟨qr_, ?_⟩) ?_ ?_; rotate_left; (intro w'; go_simp; with_reducible rfl); rotate_left; exact qa_
             refine pure_ (i := 3) (N := some 59) (v := undef) (a' := ?_) b64_28 rfl rfl qh_ qi_ (Or.inr ⟨qr_, rfl⟩) ?_ ?_; rotate_left; exact qa_
             refine pure_ (i := 4) (N := some 60) (v := undef) (a' := ?_) b64_29 rfl rfl qh_ qi_ (Or.inr ⟨qr_, rfl⟩) ?_ ?_; rotate_left; exact qa_
             refine pure_ (i := 5) (N := some 61) (v := undef) (a' := ?_) b64_30 rfl rfl qh_ qi_ (Or.inr ⟨qr_, rfl⟩) ?_ ?_; rotate_left; exact qa_
             refine pure_ (i := 6) (N := some 62) (v := undef) (a' := ?_) b64_31 rfl rfl qh_ qi_ (Or.inr ⟨qr_, rfl⟩) ?_ ?_; rotate_left; exact qa_
             refine pure_ (i := 7) (N := some 63) (v := undef) (a' := ?_) b64_32 rfl rfl qh_ qi_ (Or.inr ⟨qr_, rfl⟩) ?_ ?_; rotate_left; exact qa_
             refine pure_ (i := 8) (N := some 64) (v := undef) (a' := ?_) b64_33 rfl rfl qh_ qi_ (Or.inr ⟨qr_, rfl⟩) ?_ ?_; rotate_left; exact qa_
             refine pure_ (i := 9) (N := some 65) (v := undef) (a' := ?_) b64_34 rfl rfl qh_ qi_ (Or.inr ⟨qr_, rfl⟩) ?_ ?_; rotate_left; exact qa_
             refine pure_ (i := 10) (N := some 66) (v := undef) (a' := ?_) b64_35 rfl rfl qh_ qi_ (Or.inr ⟨qr_, rfl⟩) ?_ ?_; rotate_left; exact qa_
             refine pure_ (i := 11) (N := some 67) (v := undef) (a' := ?_) b64_36 rfl rfl qh_ qi_ (Or.inr ⟨qr_, rfl⟩) ?_ ?_; rotate_left; exact qa_
             refine pure_ (i := 12) (N := some 68) (v := undef) (a' := ?_) b64_37 rfl rfl qh_ qi_ (Or.inr ⟨qr_, rfl⟩) ?_ ?_; rotate_left; exact qa_
             refine pure_ (i := 13) (N := some 69) (v := undef) (a' := ?_) b64_38 rfl rfl qh_ qi_ (Or.inr ⟨qr_, rfl⟩) ?_ ?_; rotate_left; exact qa_
             refine pure_ (i := 14) (N := some 70) (v := undef) (a' := ?_) b64_39 rfl rfl qh_ qi_ (Or.inr ⟨qr_, rfl⟩) ?_ ?_; rotate_left; exact qa_
             refine pure_ (i := 15) (N := some 71) (v := ?_) (a' := ?_) b64_40 rfl rfl qh_ qi_ (Or.inl ⟨qr_, ?_⟩) ?_ ?_; rotate_left; (intro w'; go_simp; with_reducible rfl); rotate_left; exact qa_
             refine done_ (done_of HT_.out (by kernel_rfl)) ?_
             try go_wp2
             go_roundg kj11
             case measure => have := HK1.out; have := HK2.out; have := HK3.out; have := HJ11.out; omega
             case rel => exact ⟨(x8_3), (wrap64 (x8_3 + 1)), q9_, q9_, H', ⟨q68_⟩, ⟨q6_⟩, ⟨q7_⟩, ⟨q27_⟩, ⟨q0_⟩⟩
            ·rw [if_neg c25] at H
             have c25b0 : decide (x7_3 < 0) = false := decide_eq_false c25
             clear c25
             by_cases c27 : 0 ≤ x8_3
             ·rw [if_pos c27] at H
              have c27b0 : decide (0 ≤ x8_3) = true := decide_eq_true c27
              clear c27
              by_cases c28 : x8_3 < (l0.length : Int)
              ·rw [if_pos c28] at H
               have c28b0 : decide (x8_3 < (l0.length : Int)) = true := decide_eq_true c28
               clear c28
               by_cases c29 : 0 ≤ x7_3
               ·rw [if_pos c29] at H
                have c29b0 : decide (0 ≤ x7_3) = true := decide_eq_true c29
                clear c29
                by_cases c30 : x7_3 < (l0.length : Int)
                ·rw [if_pos c30] at H
                 have c30b0 : decide (x7_3 < (l0.length : Int)) = true := decide_eq_true c30
                 clear c30
                 replace H := Option.bind_eq_some_iff.mp H
                 obtain ⟨t282, A310, H⟩ := H
                 replace H : (if t282 = (-1) then (corollaryref13_Sort.l2 kj11 l0 x5_2 x6_2 x8_3 (wrap64 (x8_3 + 1))) else (corollaryref13_Sort.l2 kj11 l0 x5_2 x6_2 x7_3 (wrap64 (x8_3 + 1)))) = some (r1, r2) := H
                 have A31 := Aside0.mk A310
                 clear A310
                 by_cases c32 : t282 = (-1)
                 ·rw [if_pos c32] at H
                  have c32b0 : (t282 == (-1)) = true := beq_iff_eq.mpr c32
                  have c32b1 : (t282 != (-1)) = false := bne_eq_false_iff_eq.mpr c32
                  clear c32
                  have H' := Aside0.mk H
                  clear H
                  try go_wp2
                  have n0_ := Aside0.mk (Kd.V_drew HO_0.out)
                  have n1_ := Aside0.mk (Kd.N_drew HO_5.out)
                  have n2_ := Aside0.mk (Kd.N_drew HO_6.out)
                  have n3_ := Aside0.mk (below_drew1 HB.out)
                  clear HO_0
                  clear HO_5
                  clear HO_6
                  clear HB
                  have HO_0 := n0_
                  have HO_5 := n1_
                  have HO_6 := n2_
                  have HB := n3_
                  clear n0_ n1_ n2_ n3_
                  have p280 : 0 ≤ (x8_3 : Int) := of_decide_eq_true q5_
                  have q280 : x8_3 < (l0.length : Int) := of_decide_eq_true q5_
                  obtain ⟨ad280, A280_0, c280_0, e280, hx280_0, hx280_1, hl280_0, hi280_0⟩ := at_T27 (Kd.V_reads' HO_0.out).2.2 x8_3 p280 q280
                  cases e280
                  obtain ⟨ce280, hce280, hMe280, hcc280⟩ := Kd.V_get HO_0.out z27 x8_3 p280 (by first | exact q280 | exact of_decide_eq_true q5_ | (have e_ := (Kd.V_reads' HO_0.out).1; omega))
                  obtain ⟨ua280_0, uc280_0, rfl, ul280_0, ge280_0⟩ := k27_openF hMe280
                  have hv280_0 := hcc280 0 _ rfl
                  rw [Nat.add_zero] at hv280_0
                  replace hv280_0 := Option.some.inj (hv280_0.symm.trans hx280_0)
                  injection hv280_0 with hva_ hvn_ hvc_
                  rw [hva_] at ge280_0
                  rw [hvc_] at ul280_0
                  have HL280_0 := Aside0.mk (show Kd.V k51 51 _ w.heap.size _ _ ((rd_T27 l0 x8_3).f0) from Kd.V_mk ul280_0 ge280_0)
                  clear hva_ hvn_ hvc_ ge280_0 ul280_0
                  clear hcc280 hce280
                  have HR280_0 := Aside0.mk hi280_0
                  have HC280_0 := Aside0.mk hl280_0
                  clear hi280_0 hl280_0
                  replace p280 := eq_true p280
                  replace q280 := eq_true q280
                  have p281 : 0 ≤ (x7_3 : Int) := of_decide_eq_true q5_
                  have q281 : x7_3 < (l0.length : Int) := of_decide_eq_true q5_
                  obtain ⟨ad281, A281_0, c281_0, e281, hx281_0, hx281_1, hl281_0, hi281_0⟩ := at_T27 (Kd.V_reads' HO_0.out).2.2 x7_3 p281 q281
                  obtain rfl : ad280 = ad281 := (by injection e281)
                  obtain ⟨ce281, hce281, hMe281, hcc281⟩ := Kd.V_get HO_0.out z27 x7_3 p281 (by first | exact q281 | exact of_decide_eq_true q5_ | (have e_ := (Kd.V_reads' HO_0.out).1; omega))
                  obtain ⟨ua281_0, uc281_0, rfl, ul281_0, ge281_0⟩ := k27_openF hMe281
                  have hv281_0 := hcc281 0 _ rfl
                  rw [Nat.add_zero] at hv281_0
                  replace hv281_0 := Option.some.inj (hv281_0.symm.trans hx281_0)
                  injection hv281_0 with hva_ hvn_ hvc_
                  rw [hva_] at ge281_0
                  rw [hvc_] at ul281_0
                  have HL281_0 := Aside0.mk (show Kd.V k51 51 _ w.heap.size _ _ ((rd_T27 l0 x7_3).f0) from Kd.V_mk ul281_0 ge281_0)
                  clear hva_ hvn_ hvc_ ge281_0 ul281_0
                  clear hcc281 hce281
                  have HR281_0 := Aside0.mk hi281_0
                  have HC281_0 := Aside0.mk hl281_0
                  clear hi281_0 hl281_0
                  replace p281 := eq_true p281
                  replace q281 := eq_true q281
                  refine start_ (n := 16) (S := fun w' => w'.cell? (ad280.add ((x8_3).toNat * 2)) = some (.slice A280_0 ((rd_T27 l0 x8_3).f0).length c280_0) ∧ w'.cell? ⟨(ad280.add ((x8_3).toNat * 2)).block, (ad280.add ((x8_3).toNat * 2)).off + 1, none⟩ = some (.int .i64 ((rd_T27 l0 x8_3).f1)) ∧ w'.cell? (ad280.add ((x7_3).toNat * 2)) = some (.slice A281_0 ((rd_T27 l0 x7_3).f0).length c281_0) ∧ w'.cell? ⟨(ad280.add ((x7_3).toNat * 2)).block, (ad280.add ((x7_3).toNat * 2)).off + 1, none⟩ = some (.int .i64 ((rd_T27 l0 x7_3).f1))) (ds := []) b64_24 (by kernel_rfl) rfl rfl ⟨hx280_0, hx280_1, hx281_0, hx281_1⟩ (fun hHeld => ?_); refine with_tabW corollaryref13_Sort.tab13 corollaryref13_Sort.bits13 (fun HT_ HW_ => ?_)
                  generalize wc.drew = w33 at HO_0 HO_5 HO_6 HB HL280_0 HL281_0 HR280_0 HR281_0 hx280_0 hx280_1 hx281_0 hx281_1 hHeld ⊢
                  refine pure_ (i := 0) (N := some 56) (v := ?_) (a' := ?_) b64_25 rfl rfl qh_ qi_ (Or.inl ⟨qr_, ?_⟩) ?_ ?_; rotate_left; (intro w'; go_simp; with_reducible rfl); rotate_left; exact qa_
                  refine pure_ (i := 1) (N := some 57) (v := ?_) (a' := ?_) b64_26 rfl rfl qh_ qi_ (Or.inl ⟨qr_, ?_⟩) ?_ ?_; rotate_left; (intro w'; go_simp; with_reducible rfl); rotate_left; exact qa_
                  refine pure_ (i := 2) (N := some 58) (v := ?_) (a' := ?_) b64_27 rfl rfl qh_ qi_ (Or.inl ⟨qr_, ?_⟩) ?_ ?_; rotate_left; (intro w'; go_simp; with_reducible rfl); rotate_left; exact qa_
                  refine pure_ (i := 3) (N := some 59) (v := ?_) (a' := ?_) b64_28 rfl rfl qh_ qi_ (Or.inl ⟨qr_, ?_⟩) ?_ ?_; rotate_left; (intro w'; go_simp; with_reducible rfl); rotate_left; exact qa_
                  refine pure_ (i := 4) (N := some 60) (v := ?_) (a' := ?_) b64_29 rfl rfl qh_ qi_ (Or.inl ⟨qr_, ?_⟩) ?_ ?_; rotate_left; (intro w'; go_simp; with_reducible rfl); rotate_left; exact qa_
                  refine pure_ (i := 5) (N := some 61) (v := ?_) (a' := ?_) b64_30 rfl rfl qh_ qi_ (Or.inl ⟨qr_, ?_⟩) ?_ ?_; rotate_left; (intro w'; go_simp; with_reducible rfl); rotate_left; exact qa_
                  refine pure_ (i := 6) (N := some 62) (v := ?_) (a' := ?_) b64_31 rfl rfl qh_ qi_ (Or.inl ⟨qr_, ?_⟩) ?_ ?_; rotate_left; (intro w'; go_simp; with_reducible rfl); rotate_left; exact qa_
                  refine pure_ (i := 8) (N := some 64) (v := ?_) (a' := ?_) b64_41 rfl rfl qh_ qi_ (Or.inl ⟨qr_, ?_⟩) ?_ ?_; rotate_left; (intro w'; go_simp; with_reducible rfl); rotate_left; exact qa_
                  refine pure_ (i := 9) (N := some 65) (v := ?_) (a' := ?_) b64_42 rfl rfl qh_ qi_ (Or.inl ⟨qr_, ?_⟩) ?_ ?_; rotate_left; (intro w'; go_simp; with_reducible rfl); rotate_left; exact qa_
                  refine pure_ (i := 10) (N := some 66) (v := ?_) (a' := ?_) b64_43 rfl rfl qh_ qi_ (Or.inl ⟨qr_, ?_⟩) ?_ ?_; rotate_left; (intro w'; go_simp; with_reducible rfl); rotate_left; exact qa_
                  refine pure_ (i := 11) (N := some 67) (v := ?_) (a' := ?_) b64_44 rfl rfl qh_ qi_ (Or.inl ⟨qr_, ?_⟩) ?_ ?_; rotate_left; (intro w'; go_simp; with_reducible rfl); rotate_left; exact qa_
                  refine take_ (i := 7) (N := some 63) (v := ?_) (a' := ?_) b64_36 rfl rfl (take_ofW HT_.out HW_.out (by kernel_rfl)) (fun _ _ _ h => h) (Or.inl ⟨by rfl, ?_⟩) hHeld ?_ ?_; rotate_left; (rintro w' ⟨s0, s1, s2, s3⟩; go_simp; with_reducible rfl); rotate_left; exact qa_
                  refine take_ (i := 12) (N := some 68) (v := ?_) (a' := ?_) b64_37 rfl rfl (take_ofW HT_.out HW_.out (by kernel_rfl)) (fun _ _ _ h => h) (Or.inl ⟨by rfl, ?_⟩) hHeld ?_ ?_; rotate_left; (rintro w' ⟨s0, s1, s2, s3⟩; go_simp; with_reducible rfl); rotate_left; exact qa_
                  refine one_ (i := 13) (N := some 69) b64_38 rfl rfl (one_of HT_.out (by kernel_rfl)) (by decide) (fun K hK => ?_)
                  refine goes_ Tryd.func27 (by kernel_rfl) rfl #[.slice A280_0 ((rd_T27 l0 x8_3).f0).length c280_0, .slice A281_0 ((rd_T27 l0 x7_3).f0).length c281_0] (by rfl) rfl rfl q2_ ?_
                  with_reducible refine (corollaryref01_Rows.calls kj11 _ _ ((rd_T27 l0 x8_3).f0) _ _ ((rd_T27 l0 x7_3).f0) t282 _ ?side1 ?side2 ?side3 ?side4 A31.out).mono ?_
                  (case side1 => repeat (first | exact q40_ | (with_reducible refine Kd.C_alloc ?_ _) | (with_reducible refine Kd.C_drewN ?_ _) | (with_reducible refine Kd.C_drew ?_)))
                  (case side2 => exact HC280_0.out)
                  (case side3 => repeat (first | exact q39_ | (with_reducible refine Kd.C_alloc ?_ _) | (with_reducible refine Kd.C_drewN ?_ _) | (with_reducible refine Kd.C_drew ?_)))
                  (case side4 => exact HC281_0.out)
                  rintro e w34 ⟨rfl, hb⟩
                  have HS0_ := (hb.cell (World.block_lt_of_cell? _ _ (hHeld.1))).trans (hHeld.1)
                  have HS1_ := (hb.cell (World.block_lt_of_cell? _ _ (hHeld.2.1))).trans (hHeld.2.1)
                  have HS2_ := (hb.cell (World.block_lt_of_cell? _ _ (hHeld.2.2.1))).trans (hHeld.2.2.1)
                  have HS3_ := (hb.cell (World.block_lt_of_cell? _ _ (hHeld.2.2.2))).trans (hHeld.2.2.2)
                  refine ⟨_, rfl, ?_⟩
                  have n0_ := Aside0.mk (Kd.V_below q6_ hb)
                  have n1_ := Aside0.mk (Kd.N_below q7_ hb)
                  have n2_ := Aside0.mk (Kd.N_below q27_ hb)
                  have n3_ := Aside0.mk (Kd.V_below (by (with_reducible repeat (first | apply Kd.V_alloc | apply Kd.V_drewN | apply Kd.V_drew)); exact HL280_0.out) hb)
                  have n4_ := Aside0.mk (Kd.V_below (by (with_reducible repeat (first | apply Kd.V_alloc | apply Kd.V_drewN | apply Kd.V_drew)); exact HL281_0.out) hb)
                  have n5_ := Aside0.mk (Kd.C_below q40_ hb)
                  have n6_ := Aside0.mk (Kd.C_below q39_ hb)
                  have n7_ := Aside0.mk (below_step q0_ hb)
                  clear HO_0
                  clear HO_5
                  clear HO_6
                  clear HL280_0
                  clear HL281_0
                  clear HR280_0
                  clear HR281_0
                  clear HB
                  have HO_0 := n0_
                  have HO_5 := n1_
                  have HO_6 := n2_
                  have HL280_0 := n3_
                  have HL281_0 := n4_
                  have HR280_0 := n5_
                  have HR281_0 := n6_
                  have HB := n7_
                  clear n0_ n1_ n2_ n3_ n4_ n5_ n6_ n7_
                  (try clear hb)
                  (try clear hb2)
                  (try clear hk)
                  (try clear hi)
                  refine hK.out _ _ ⟨HS0_, HS1_, HS2_, HS3_⟩ (fun hHeld => ?_)
                  clear hK K
                  refine norm_ (a' := ?_) ?_ ?_
                  rotate_left
                  ·show Act.put _ (some 69) _ = _
                   simp only [Act.put, List.setIfInBounds_toArray, List.set_cons_zero, List.set_cons_succ, i64_w, i32_w]
                   rfl
                  refine pure_ (i := 14) (N := some 70) (v := ?_) (a' := ?_) b64_39 rfl rfl qh_ qi_ (Or.inl ⟨qr_, ?_⟩) ?_ ?_; rotate_left; (intro w'; go_simp; with_reducible rfl); rotate_left; exact qa_
                  refine pure_ (i := 15) (N := some 71) (v := ?_) (a' := ?_) b64_40 rfl rfl qh_ qi_ (Or.inl ⟨qr_, ?_⟩) ?_ ?_; rotate_left; (intro w'; go_simp; with_reducible rfl); rotate_left; exact qa_
                  refine done_ (done_of HT_.out (by kernel_rfl)) ?_
                  try go_wp2
                  go_roundg kj11
                  case measure => have := HK1.out; have := HK2.out; have := HK3.out; have := HJ11.out; omega
                  case rel => exact ⟨(x8_3), (wrap64 (x8_3 + 1)), q9_, q9_, H', ⟨q68_⟩, ⟨q6_⟩, ⟨q7_⟩, ⟨q27_⟩, ⟨q0_⟩⟩
                 ·rw [if_neg c32] at H
                  have c32b0 : (t282 == (-1)) = false := beq_eq_false_iff_ne.mpr c32
                  have c32b1 : (t282 != (-1)) = true := bne_iff_ne.mpr c32
                  have H' := Aside0.mk H
                  clear H
                  try go_wp2
                  have n0_ := Aside0.mk (Kd.V_drew HO_0.out)
                  have n1_ := Aside0.mk (Kd.N_drew HO_5.out)
                  have n2_ := Aside0.mk (Kd.N_drew HO_6.out)
                  have n3_ := Aside0.mk (below_drew1 HB.out)
                  clear HO_0
                  clear HO_5
                  clear HO_6
                  clear HB
                  have HO_0 := n0_
                  have HO_5 := n1_
                  have HO_6 := n2_
                  have HB := n3_
                  clear n0_ n1_ n2_ n3_
                  have p280 : 0 ≤ (x8_3 : Int) := of_decide_eq_true q5_
                  have q280 : x8_3 < (l0.length : Int) := of_decide_eq_true q5_
                  obtain ⟨ad280, A280_0, c280_0, e280, hx280_0, hx280_1, hl280_0, hi280_0⟩ := at_T27 (Kd.V_reads' HO_0.out).2.2 x8_3 p280 q280
                  cases e280
                  obtain ⟨ce280, hce280, hMe280, hcc280⟩ := Kd.V_get HO_0.out z27 x8_3 p280 (by first | exact q280 | exact of_decide_eq_true q5_ | (have e_ := (Kd.V_reads' HO_0.out).1; omega))
                  obtain ⟨ua280_0, uc280_0, rfl, ul280_0, ge280_0⟩ := k27_openF hMe280
                  have hv280_0 := hcc280 0 _ rfl
                  rw [Nat.add_zero] at hv280_0
                  replace hv280_0 := Option.some.inj (hv280_0.symm.trans hx280_0)
                  injection hv280_0 with hva_ hvn_ hvc_
                  rw [hva_] at ge280_0
                  rw [hvc_] at ul280_0
                  have HL280_0 := Aside0.mk (show Kd.V k51 51 _ w.heap.size _ _ ((rd_T27 l0 x8_3).f0) from Kd.V_mk ul280_0 ge280_0)
                  clear hva_ hvn_ hvc_ ge280_0 ul280_0
                  clear hcc280 hce280
                  have HR280_0 := Aside0.mk hi280_0
                  have HC280_0 := Aside0.mk hl280_0
                  clear hi280_0 hl280_0
                  replace p280 := eq_true p280
                  replace q280 := eq_true q280
                  have p281 : 0 ≤ (x7_3 : Int) := of_decide_eq_true q5_
                  have q281 : x7_3 < (l0.length : Int) := of_decide_eq_true q5_
                  obtain ⟨ad281, A281_0, c281_0, e281, hx281_0, hx281_1, hl281_0, hi281_0⟩ := at_T27 (Kd.V_reads' HO_0.out).2.2 x7_3 p281 q281
                  obtain rfl : ad280 = ad281 := (by injection e281)
                  obtain ⟨ce281, hce281, hMe281, hcc281⟩ := Kd.V_get HO_0.out z27 x7_3 p281 (by first | exact q281 | exact of_decide_eq_true q5_ | (have e_ := (Kd.V_reads' HO_0.out).1; omega))
                  obtain ⟨ua281_0, uc281_0, rfl, ul281_0, ge281_0⟩ := k27_openF hMe281
                  have hv281_0 := hcc281 0 _ rfl
                  rw [Nat.add_zero] at hv281_0
                  replace hv281_0 := Option.some.inj (hv281_0.symm.trans hx281_0)
                  injection hv281_0 with hva_ hvn_ hvc_
                  rw [hva_] at ge281_0
                  rw [hvc_] at ul281_0
                  have HL281_0 := Aside0.mk (show Kd.V k51 51 _ w.heap.size _ _ ((rd_T27 l0 x7_3).f0) from Kd.V_mk ul281_0 ge281_0)
                  clear hva_ hvn_ hvc_ ge281_0 ul281_0
                  clear hcc281 hce281
                  have HR281_0 := Aside0.mk hi281_0
                  have HC281_0 := Aside0.mk hl281_0
                  clear hi281_0 hl281_0
                  replace p281 := eq_true p281
                  replace q281 := eq_true q281
                  refine start_ (n := 16) (S := fun w' => w'.cell? (ad280.add ((x8_3).toNat * 2)) = some (.slice A280_0 ((rd_T27 l0 x8_3).f0).length c280_0) ∧ w'.cell? ⟨(ad280.add ((x8_3).toNat * 2)).block, (ad280.add ((x8_3).toNat * 2)).off + 1, none⟩ = some (.int .i64 ((rd_T27 l0 x8_3).f1)) ∧ w'.cell? (ad280.add ((x7_3).toNat * 2)) = some (.slice A281_0 ((rd_T27 l0 x7_3).f0).length c281_0) ∧ w'.cell? ⟨(ad280.add ((x7_3).toNat * 2)).block, (ad280.add ((x7_3).toNat * 2)).off + 1, none⟩ = some (.int .i64 ((rd_T27 l0 x7_3).f1))) (ds := []) b64_24 (by kernel_rfl) rfl rfl ⟨hx280_0, hx280_1, hx281_0, hx281_1⟩ (fun hHeld => ?_); refine with_tabW corollaryref13_Sort.tab13 corollaryref13_Sort.bits13 (fun HT_ HW_ => ?_)
                  generalize wc.drew = w35 at HO_0 HO_5 HO_6 HB HL280_0 HL281_0 HR280_0 HR281_0 hx280_0 hx280_1 hx281_0 hx281_1 hHeld ⊢
                  refine pure_ (i := 0) (N := some 56) (v := ?_) (a' := ?_) b64_25 rfl rfl qh_ qi_ (Or.inl ⟨qr_, ?_⟩) ?_ ?_; rotate_left; (intro w'; go_simp; with_reducible rfl); rotate_left; exact qa_
                  refine pure_ (i := 1) (N := some 57) (v := ?_) (a' := ?_) b64_26 rfl rfl qh_ qi_ (Or.inl ⟨qr_, ?_⟩) ?_ ?_; rotate_left; (intro w'; go_simp; with_reducible rfl); rotate_left; exact qa_
                  refine pure_ (i := 2) (N := some 58) (v := ?_) (a' := ?_) b64_27 rfl rfl qh_ qi_ (Or.inl ⟨qr_, ?_⟩) ?_ ?_; rotate_left; (intro w'; go_simp; with_reducible rfl); rotate_left; exact qa_
                  refine pure_ (i := 3) (N := some 59) (v := ?_) (a' := ?_) b64_28 rfl rfl qh_ qi_ (Or.inl ⟨qr_, ?_⟩) ?_ ?_; rotate_left; (intro w'; go_simp; with_reducible rfl); rotate_left; exact qa_
                  refine pure_ (i := 4) (N := some 60) (v := ?_) (a' := ?_) b64_29 rfl rfl qh_ qi_ (Or.inl ⟨qr_, ?_⟩) ?_ ?_; rotate_left; (intro w'; go_simp; with_reducible rfl); rotate_left; exact qa_
                  refine pure_ (i := 5) (N := some 61) (v := ?_) (a' := ?_) b64_30 rfl rfl qh_ qi_ (Or.inl ⟨qr_, ?_⟩) ?_ ?_; rotate_left; (intro w'; go_simp; with_reducible rfl); rotate_left; exact qa_
                  refine pure_ (i := 6) (N := some 62) (v := ?_) (a' := ?_) b64_31 rfl rfl qh_ qi_ (Or.inl ⟨qr_, ?_⟩) ?_ ?_; rotate_left; (intro w'; go_simp; with_reducible rfl); rotate_left; exact qa_
                  refine pure_ (i := 8) (N := some 64) (v := ?_) (a' := ?_) b64_41 rfl rfl qh_ qi_ (Or.inl ⟨qr_, ?_⟩) ?_ ?_; rotate_left; (intro w'; go_simp; with_reducible rfl); rotate_left; exact qa_
                  refine pure_ (i := 9) (N := some 65) (v := ?_) (a' := ?_) b64_42 rfl rfl qh_ qi_ (Or.inl ⟨qr_, ?_⟩) ?_ ?_; rotate_left; (intro w'; go_simp; with_reducible rfl); rotate_left; exact qa_
                  refine pure_ (i := 10) (N := some 66) (v := ?_) (a' := ?_) b64_43 rfl rfl qh_ qi_ (Or.inl ⟨qr_, ?_⟩) ?_ ?_; rotate_left; (intro w'; go_simp; with_reducible rfl); rotate_left; exact qa_
                  refine pure_ (i := 11) (N := some 67) (v := ?_) (a' := ?_) b64_44 rfl rfl qh_ qi_ (Or.inl ⟨qr_, ?_⟩) ?_ ?_; rotate_left; (intro w'; go_simp; with_reducible rfl); rotate_left; exact qa_
                  refine take_ (i := 7) (N := some 63) (v := ?_) (a' := ?_) b64_36 rfl rfl (take_ofW HT_.out HW_.out (by kernel_rfl)) (fun _ _ _ h => h) (Or.inl ⟨by rfl, ?_⟩) hHeld ?_ ?_; rotate_left; (rintro w' ⟨s0, s1, s2, s3⟩; go_simp; with_reducible rfl); rotate_left; exact qa_
                  refine take_ (i := 12) (N := some 68) (v := ?_) (a' := ?_) b64_37 rfl rfl (take_ofW HT_.out HW_.out (by kernel_rfl)) (fun _ _ _ h => h) (Or.inl ⟨by rfl, ?_⟩) hHeld ?_ ?_; rotate_left; (rintro w' ⟨s0, s1, s2, s3⟩; go_simp; with_reducible rfl); rotate_left; exact qa_
                  refine one_ (i := 13) (N := some 69) b64_38 rfl rfl (one_of HT_.out (by kernel_rfl)) (by decide) (fun K hK => ?_)
                  refine goes_ Tryd.func27 (by kernel_rfl) rfl #[.slice A280_0 ((rd_T27 l0 x8_3).f0).length c280_0, .slice A281_0 ((rd_T27 l0 x7_3).f0).length c281_0] (by rfl) rfl rfl q2_ ?_
                  with_reducible refine (corollaryref01_Rows.calls kj11 _ _ ((rd_T27 l0 x8_3).f0) _ _ ((rd_T27 l0 x7_3).f0) t282 _ ?side1 ?side2 ?side3 ?side4 A31.out).mono ?_
                  (case side1 => repeat (first | exact q40_ | (with_reducible refine Kd.C_alloc ?_ _) | (with_reducible refine Kd.C_drewN ?_ _) | (with_reducible refine Kd.C_drew ?_)))
                  (case side2 => exact HC280_0.out)
                  (case side3 => repeat (first | exact q39_ | (with_reducible refine Kd.C_alloc ?_ _) | (with_reducible refine Kd.C_drewN ?_ _) | (with_reducible refine Kd.C_drew ?_)))
                  (case side4 => exact HC281_0.out)
                  rintro e w36 ⟨rfl, hb⟩
                  have HS0_ := (hb.cell (World.block_lt_of_cell? _ _ (hHeld.1))).trans (hHeld.1)
                  have HS1_ := (hb.cell (World.block_lt_of_cell? _ _ (hHeld.2.1))).trans (hHeld.2.1)
                  have HS2_ := (hb.cell (World.block_lt_of_cell? _ _ (hHeld.2.2.1))).trans (hHeld.2.2.1)
                  have HS3_ := (hb.cell (World.block_lt_of_cell? _ _ (hHeld.2.2.2))).trans (hHeld.2.2.2)
                  refine ⟨_, rfl, ?_⟩
                  have n0_ := Aside0.mk (Kd.V_below q6_ hb)
                  have n1_ := Aside0.mk (Kd.N_below q7_ hb)
                  have n2_ := Aside0.mk (Kd.N_below q27_ hb)
                  have n3_ := Aside0.mk (Kd.V_below (by (with_reducible repeat (first | apply Kd.V_alloc | apply Kd.V_drewN | apply Kd.V_drew)); exact HL280_0.out) hb)
                  have n4_ := Aside0.mk (Kd.V_below (by (with_reducible repeat (first | apply Kd.V_alloc | apply Kd.V_drewN | apply Kd.V_drew)); exact HL281_0.out) hb)
                  have n5_ := Aside0.mk (Kd.C_below q40_ hb)
                  have n6_ := Aside0.mk (Kd.C_below q39_ hb)
                  have n7_ := Aside0.mk (below_step q0_ hb)
                  clear HO_0
                  clear HO_5
                  clear HO_6
                  clear HL280_0
                  clear HL281_0
                  clear HR280_0
                  clear HR281_0
                  clear HB
                  have HO_0 := n0_
                  have HO_5 := n1_
                  have HO_6 := n2_
                  have HL280_0 := n3_
                  have HL281_0 := n4_
                  have HR280_0 := n5_
                  have HR281_0 := n6_
                  have HB := n7_
                  clear n0_ n1_ n2_ n3_ n4_ n5_ n6_ n7_
                  (try clear hb)
                  (try clear hb2)
                  (try clear hk)
                  (try clear hi)
                  refine hK.out _ _ ⟨HS0_, HS1_, HS2_, HS3_⟩ (fun hHeld => ?_)
                  clear hK K
                  refine norm_ (a' := ?_) ?_ ?_
                  rotate_left
                  ·show Act.put _ (some 69) _ = _
                   simp only [Act.put, List.setIfInBounds_toArray, List.set_cons_zero, List.set_cons_succ, i64_w, i32_w]
                   rfl
                  refine pure_ (i := 14) (N := some 70) (v := ?_) (a' := ?_) b64_39 rfl rfl qh_ qi_ (Or.inl ⟨qr_, ?_⟩) ?_ ?_; rotate_left; (intro w'; go_simp; with_reducible rfl); rotate_left; exact qa_
                  refine pure_ (i := 15) (N := some 71) (v := ?_) (a' := ?_) b64_40 rfl rfl qh_ qi_ (Or.inl ⟨qr_, ?_⟩) ?_ ?_; rotate_left; (intro w'; go_simp; with_reducible rfl); rotate_left; exact qa_
                  refine done_ (done_of HT_.out (by kernel_rfl)) ?_
                  try go_wp2
                  go_roundg kj11
                  case measure => have := HK1.out; have := HK2.out; have := HK3.out; have := HJ11.out; omega
                  case rel => exact ⟨(x7_3), (wrap64 (x8_3 + 1)), q9_, q9_, H', ⟨q68_⟩, ⟨q6_⟩, ⟨q7_⟩, ⟨q27_⟩, ⟨q0_⟩⟩
                ·rw [if_neg c30] at H
                 exact absurd H (by simp)
               ·rw [if_neg c29] at H
                exact absurd H (by simp)
              ·rw [if_neg c28] at H
               exact absurd H (by simp)
             ·rw [if_neg c27] at H
              exact absurd H (by simp)
        ·rw [if_neg c11] at H
         have c11b0 : decide (x8_3 < (l0.length : Int)) = false := decide_eq_false c11
         clear c11
         by_cases c37 : x7_3 < 0
         ·rw [if_pos c37] at H
          have c37b0 : decide (x7_3 < 0) = true := decide_eq_true c37
          clear c37
          simp only [Option.some.injEq, Prod.mk.injEq] at H
          obtain ⟨rfl, rfl⟩ := H
          go_wp2
          go_ret2
          exact ⟨_, q4_, q63_, q0_⟩
         ·rw [if_neg c37] at H
          have c37b0 : decide (x7_3 < 0) = false := decide_eq_false c37
          clear c37
          by_cases c38 : 0 ≤ x7_3
          ·rw [if_pos c38] at H
           have c38b0 : decide (0 ≤ x7_3) = true := decide_eq_true c38
           clear c38
           by_cases c39 : x7_3 < (l0.length : Int)
           ·rw [if_pos c39] at H
            have c39b0 : decide (x7_3 < (l0.length : Int)) = true := decide_eq_true c39
            clear c39
            by_cases c40 : x6_2.length < 5864062014805
            ·rw [if_pos c40] at H
             have LMc40 := Aside0.mk c40
             clear c40
             obtain ⟨y284, hy284⟩ : ∃ y_ : List (List (S51)), y_ = (x6_2 ++ [(rd_T27 l0 x7_3).f0]) := ⟨_, rfl⟩
             replace H : ((corollaryref13_N.f k3 l0 ((rd_T27 l0 x7_3).f0)).bind fun t288 => ((corollaryref13_fits.f t288).bind fun t289 => (if t289 = true then (if t288 = 0 then (corollaryref13_Sort.l1 k3 l0 x5_2 y284) else (if x5_2.length < 4398046511104 then (corollaryref13_Sort.l1 k3 l0 (x5_2 ++ [(⟨(rd_T27 l0 x7_3).f0, t288⟩ : S27)]) y284) else (none))) else (some (([] : List (S27)), 14))))) = some (r1, r2) := by first | (rw [hy284]; with_reducible exact H) | (have H2_ := (Option.bind_some _ _).symm.trans H; rw [hy284]; with_reducible exact H2_) | (have H2_ := (Option.bind_some _ _).symm.trans H; with_reducible exact H2_) | with_reducible exact H | (rw [hy284]; exact H) | exact H
             have Ny284 := Aside0.mk hy284
             clear hy284
             replace H := Option.bind_eq_some_iff.mp H
             obtain ⟨t288, A410, H⟩ := H
             replace H : ((corollaryref13_fits.f t288).bind fun t289 => (if t289 = true then (if t288 = 0 then (corollaryref13_Sort.l1 k3 l0 x5_2 y284) else (if x5_2.length < 4398046511104 then (corollaryref13_Sort.l1 k3 l0 (x5_2 ++ [(⟨(rd_T27 l0 x7_3).f0, t288⟩ : S27)]) y284) else (none))) else (some (([] : List (S27)), 14)))) = some (r1, r2) := H
             have A41 := Aside0.mk A410
             clear A410
             replace H := Option.bind_eq_some_iff.mp H
             obtain ⟨t289, A420, H⟩ := H
             replace H : (if t289 = true then (if t288 = 0 then (corollaryref13_Sort.l1 k3 l0 x5_2 y284) else (if x5_2.length < 4398046511104 then (corollaryref13_Sort.l1 k3 l0 (x5_2 ++ [(⟨(rd_T27 l0 x7_3).f0, t288⟩ : S27)]) y284) else (none))) else (some (([] : List (S27)), 14))) = some (r1, r2) := H
             have A42 := Aside0.mk A420
             clear A420
             by_cases c43 : t289 = true
             ·subst c43
              replace H := ifT_ H
              by_cases c44 : t288 = 0
              ·rw [if_pos c44] at H
               have c44b0 : (t288 == 0) = true := beq_iff_eq.mpr c44
               have c44b1 : (t288 != 0) = false := bne_eq_false_iff_eq.mpr c44
               clear c44
               have H' := Aside0.mk H
               clear H
               have p283 : 0 ≤ (x7_3 : Int) := of_decide_eq_true q5_
               have q283 : x7_3 < (l0.length : Int) := of_decide_eq_true q5_
               obtain ⟨ad283, A283_0, c283_0, e283, hx283_0, hx283_1, hl283_0, hi283_0⟩ := at_T27 (Kd.V_reads' HO_0.out).2.2 x7_3 p283 q283
               cases e283
               obtain ⟨ce283, hce283, hMe283, hcc283⟩ := Kd.V_get HO_0.out z27 x7_3 p283 q60_
               obtain ⟨ua283_0, uc283_0, rfl, ul283_0, ge283_0⟩ := k27_openF hMe283
               have hv283_0 := hcc283 0 _ rfl
               rw [Nat.add_zero] at hv283_0
               replace hv283_0 := Option.some.inj (hv283_0.symm.trans hx283_0)
               injection hv283_0 with hva_ hvn_ hvc_
               rw [hva_] at ge283_0
               rw [hvc_] at ul283_0
               have HL283_0 := Aside0.mk (show Kd.V k51 51 _ w.heap.size _ _ ((rd_T27 l0 x7_3).f0) from Kd.V_mk ul283_0 ge283_0)
               clear hva_ hvn_ hvc_ ge283_0 ul283_0
               clear hcc283 hce283
               have HR283_0 := Aside0.mk hi283_0
               have HC283_0 := Aside0.mk hl283_0
               clear hi283_0 hl283_0
               replace p283 := eq_true p283
               replace q283 := eq_true q283
               go_wp2_with (first | ((with_reducible refine gate_builtin (b := .append) (xs := #[.tmp 76, .tmp 82]) rfl ?_); (try (refine gate_guard (by rfl) ?_; dsimp only)); at_builtin; refine Kd.N_append (Kd.slice 51 k51) (w0 := w) w.heap.size rfl (.tmp 76) (.tmp 82) 31 23 (.slice none 0 0) 24 rfl Tryd.underlying31 info23 rfl (by decide) (by omega) u6 x6_2 ((rd_T27 l0 x7_3).f0) [.slice A283_0 ((rd_T27 l0 x7_3).f0).length c283_0] (fun k_ => (P0_ k_ ∨ w.heap.size ≤ k_) ∧ some k_ ≠ (u5 : Value).ownBlock) (fun k_ => ((fun k_ => (P0_ k_ ∨ w.heap.size ≤ k_) ∧ some k_ ≠ (u5 : Value).ownBlock)) k_ ∧ some k_ ≠ (u6 : Value).ownBlock) rfl rfl ?aP (fun _ hk => hk) ?aF ?aO ?aB ?aS ?aL ?_; (case aP => exact (Kd.FK_slice_mk (Kd.V_reads' (Kd.V_mono (ok' := (fun k_ => ((fun k_ => (P0_ k_ ∨ w.heap.size ≤ k_) ∧ some k_ ≠ (u5 : Value).ownBlock)) k_ ∧ some k_ ≠ (u6 : Value).ownBlock)) (HL283_0.out) (fun k_ hk => ⟨⟨hk.1, hk.2.1⟩, hk.2.2⟩))).2.1 (Kd.V_F (Kd.V_mono (ok' := (fun k_ => ((fun k_ => (P0_ k_ ∨ w.heap.size ≤ k_) ∧ some k_ ≠ (u5 : Value).ownBlock)) k_ ∧ some k_ ≠ (u6 : Value).ownBlock)) (HL283_0.out) (fun k_ hk => ⟨⟨hk.1, hk.2.1⟩, hk.2.2⟩))))); (case aB => exact q0_); (case aF => exact (fun k_ hk => ⟨(.inr (Nat.le_trans (below_size q0_) hk)), Kd.fresh' (Kd.N_lt q7_) k_ hk⟩)); (case aO => exact q27_); (case aS => exact (below_size q0_)); (case aL => have := LMc40.out; omega); intro v285 w45 ho hb hg hat; rw [← Ny284.out] at ho; have n0_ := Aside0.mk (Kd.V_afterv (ok := (fun k_ => (P0_ k_ ∨ w.heap.size ≤ k_) ∧ some k_ ≠ (u5 : Value).ownBlock)) q54_ hg hat); have n1_ := Aside0.mk (Kd.N_afterv (ok := (fun k_ => (P0_ k_ ∨ w.heap.size ≤ k_))) q7_ hg hat); have n2_ := Aside0.mk (Kd.V_afterv (ok := (fun k_ => (P0_ k_ ∨ w.heap.size ≤ k_) ∧ some k_ ≠ (u5 : Value).ownBlock)) q53_ hg hat); have n3_ := Aside0.mk (hb); have n4_ := Aside0.mk (ho); clear HO_0; clear HO_5; clear HL283_0; clear HB; clear HO_6; have HO_0 := n0_; have HO_5 := n1_; have HL283_0 := n2_; have HB := n3_; have HO286 := n4_; clear n0_ n1_ n2_ n3_ n4_; clear ho hb hg hat; have p287 : 0 ≤ (x7_3 : Int) := of_decide_eq_true q5_; have q287 : x7_3 < (l0.length : Int) := of_decide_eq_true q5_; obtain ⟨ad287, A287_0, c287_0, e287, hx287_0, hx287_1, hl287_0, hi287_0⟩ := at_T27 (Kd.V_reads' HO_0.out).2.2 x7_3 p287 q287; obtain rfl : ad283 = ad287 := (by injection e287); obtain ⟨ce287, hce287, hMe287, hcc287⟩ := Kd.V_get HO_0.out z27 x7_3 p287 q59_; obtain ⟨ua287_0, uc287_0, rfl, ul287_0, ge287_0⟩ := k27_openF hMe287; have hv287_0 := hcc287 0 _ rfl; rw [Nat.add_zero] at hv287_0; replace hv287_0 := Option.some.inj (hv287_0.symm.trans hx287_0); injection hv287_0 with hva_ hvn_ hvc_; rw [hva_] at ge287_0; rw [hvc_] at ul287_0; have HL287_0 := Aside0.mk (show Kd.V k51 51 _ w.heap.size _ _ ((rd_T27 l0 x7_3).f0) from Kd.V_mk ul287_0 ge287_0); clear hva_ hvn_ hvc_ ge287_0 ul287_0; clear hcc287 hce287; have HR287_0 := Aside0.mk hi287_0; have HC287_0 := Aside0.mk hl287_0; clear hi287_0 hl287_0; replace p287 := eq_true p287; replace q287 := eq_true q287) | ((with_reducible refine gate_callee (f := 16) rfl ?_); refine goesL_ (some 90) rfl rfl Tryd.func16 (by kernel_rfl) rfl #[.slice (some ad283) l0.length c0, .slice A287_0 ((rd_T27 l0 x7_3).f0).length c287_0] rfl q2_ ?_; (with_reducible refine (corollaryref13_N.calls k3 _ _ l0 _ _ ((rd_T27 l0 x7_3).f0) t288 _ ?side1 ?side2 ?side3 ?side4 A41.out).mono ?_); (case side1 => repeat (first | exact (Kd.V_reads' HO_0.out).2.2 | (with_reducible refine Kd.C_alloc ?_ _) | (with_reducible refine Kd.C_drewN ?_ _) | (with_reducible refine Kd.C_drew ?_))); (case side2 => exact (Kd.V_reads' HO_0.out).2.1); (case side3 => repeat (first | exact q51_ | (with_reducible refine Kd.C_alloc ?_ _) | (with_reducible refine Kd.C_drewN ?_ _) | (with_reducible refine Kd.C_drew ?_))); (case side4 => exact HC287_0.out); rintro e w' ⟨rfl, ⟨nd, rfl⟩⟩; refine ⟨_, rfl, ?_⟩) | ((with_reducible refine gate_callee (f := 25) rfl ?_); refine goesL_ (some 92) rfl rfl Tryd.func25 (by kernel_rfl) rfl #[.int .i64 t288] rfl q2_ ?_; (with_reducible refine (corollaryref13_fits.calls t288 true _ A42.out).mono ?_); rintro e w' ⟨rfl, ⟨nd, rfl⟩⟩; refine ⟨_, rfl, ?_⟩))
               go_roundg k3
               case measure => have := HK1.out; have := HK2.out; have := HK3.out; omega
               case rel => exact ⟨(x5_2), (y284), H', ⟨by have := HK1.out; have := HK2.out; have := HK3.out; omega⟩, ⟨by (with_reducible repeat (first | apply Kd.V_alloc | apply Kd.V_drewN | apply Kd.V_drew)); exact Kd.V_mono HO_0.out (fun _ hk => ⟨hk.1.1, ⟨hk.1.2, hk.2⟩⟩)⟩, ⟨q7_⟩, ⟨q57_⟩, ⟨q0_⟩⟩
              ·rw [if_neg c44] at H
               have c44b0 : (t288 == 0) = false := beq_eq_false_iff_ne.mpr c44
               have c44b1 : (t288 != 0) = true := bne_iff_ne.mpr c44
               by_cases c46 : x5_2.length < 4398046511104
               ·rw [if_pos c46] at H
                have LMc46 := Aside0.mk c46
                clear c46
                obtain ⟨y291, hy291⟩ : ∃ y_ : List (S27), y_ = (x5_2 ++ [(⟨(rd_T27 l0 x7_3).f0, t288⟩ : S27)]) := ⟨_, rfl⟩
                replace H : (corollaryref13_Sort.l1 k3 l0 y291 y284) = some (r1, r2) := by first | (rw [hy291]; with_reducible exact H) | (have H2_ := (Option.bind_some _ _).symm.trans H; rw [hy291]; with_reducible exact H2_) | (have H2_ := (Option.bind_some _ _).symm.trans H; with_reducible exact H2_) | with_reducible exact H | (rw [hy291]; exact H) | exact H
                have Ny291 := Aside0.mk hy291
                clear hy291
                have H' := Aside0.mk H
                clear H
                have p283 : 0 ≤ (x7_3 : Int) := of_decide_eq_true q5_
                have q283 : x7_3 < (l0.length : Int) := of_decide_eq_true q5_
                obtain ⟨ad283, A283_0, c283_0, e283, hx283_0, hx283_1, hl283_0, hi283_0⟩ := at_T27 (Kd.V_reads' HO_0.out).2.2 x7_3 p283 q283
                cases e283
                obtain ⟨ce283, hce283, hMe283, hcc283⟩ := Kd.V_get HO_0.out z27 x7_3 p283 q60_
                obtain ⟨ua283_0, uc283_0, rfl, ul283_0, ge283_0⟩ := k27_openF hMe283
                have hv283_0 := hcc283 0 _ rfl
                rw [Nat.add_zero] at hv283_0
                replace hv283_0 := Option.some.inj (hv283_0.symm.trans hx283_0)
                injection hv283_0 with hva_ hvn_ hvc_
                rw [hva_] at ge283_0
                rw [hvc_] at ul283_0
                have HL283_0 := Aside0.mk (show Kd.V k51 51 _ w.heap.size _ _ ((rd_T27 l0 x7_3).f0) from Kd.V_mk ul283_0 ge283_0)
                clear hva_ hvn_ hvc_ ge283_0 ul283_0
                clear hcc283 hce283
                have HR283_0 := Aside0.mk hi283_0
                have HC283_0 := Aside0.mk hl283_0
                clear hi283_0 hl283_0
                replace p283 := eq_true p283
                replace q283 := eq_true q283
                go_wp2_with (first | ((with_reducible refine gate_builtin (b := .append) (xs := #[.tmp 76, .tmp 82]) rfl ?_); (try (refine gate_guard (by rfl) ?_; dsimp only)); at_builtin; refine Kd.N_append (Kd.slice 51 k51) (w0 := w) w.heap.size rfl (.tmp 76) (.tmp 82) 31 23 (.slice none 0 0) 24 rfl Tryd.underlying31 info23 rfl (by decide) (by omega) u6 x6_2 ((rd_T27 l0 x7_3).f0) [.slice A283_0 ((rd_T27 l0 x7_3).f0).length c283_0] (fun k_ => (P0_ k_ ∨ w.heap.size ≤ k_) ∧ some k_ ≠ (u5 : Value).ownBlock) (fun k_ => ((fun k_ => (P0_ k_ ∨ w.heap.size ≤ k_) ∧ some k_ ≠ (u5 : Value).ownBlock)) k_ ∧ some k_ ≠ (u6 : Value).ownBlock) rfl rfl ?aP (fun _ hk => hk) ?aF ?aO ?aB ?aS ?aL ?_; (case aP => exact (Kd.FK_slice_mk (Kd.V_reads' (Kd.V_mono (ok' := (fun k_ => ((fun k_ => (P0_ k_ ∨ w.heap.size ≤ k_) ∧ some k_ ≠ (u5 : Value).ownBlock)) k_ ∧ some k_ ≠ (u6 : Value).ownBlock)) (HL283_0.out) (fun k_ hk => ⟨⟨hk.1, hk.2.1⟩, hk.2.2⟩))).2.1 (Kd.V_F (Kd.V_mono (ok' := (fun k_ => ((fun k_ => (P0_ k_ ∨ w.heap.size ≤ k_) ∧ some k_ ≠ (u5 : Value).ownBlock)) k_ ∧ some k_ ≠ (u6 : Value).ownBlock)) (HL283_0.out) (fun k_ hk => ⟨⟨hk.1, hk.2.1⟩, hk.2.2⟩))))); (case aB => exact q0_); (case aF => exact (fun k_ hk => ⟨(.inr (Nat.le_trans (below_size q0_) hk)), Kd.fresh' (Kd.N_lt q7_) k_ hk⟩)); (case aO => exact q27_); (case aS => exact (below_size q0_)); (case aL => have := LMc40.out; omega); intro v285 w47 ho hb hg hat; rw [← Ny284.out] at ho; have n0_ := Aside0.mk (Kd.V_afterv (ok := (fun k_ => (P0_ k_ ∨ w.heap.size ≤ k_) ∧ some k_ ≠ (u5 : Value).ownBlock)) q54_ hg hat); have n1_ := Aside0.mk (Kd.N_afterv (ok := (fun k_ => (P0_ k_ ∨ w.heap.size ≤ k_))) q7_ hg hat); have n2_ := Aside0.mk (Kd.V_afterv (ok := (fun k_ => (P0_ k_ ∨ w.heap.size ≤ k_) ∧ some k_ ≠ (u5 : Value).ownBlock)) q53_ hg hat); have n3_ := Aside0.mk (hb); have n4_ := Aside0.mk (ho); clear HO_0; clear HO_5; clear HL283_0; clear HB; clear HO_6; have HO_0 := n0_; have HO_5 := n1_; have HL283_0 := n2_; have HB := n3_; have HO286 := n4_; clear n0_ n1_ n2_ n3_ n4_; clear ho hb hg hat; have p287 : 0 ≤ (x7_3 : Int) := of_decide_eq_true q5_; have q287 : x7_3 < (l0.length : Int) := of_decide_eq_true q5_; obtain ⟨ad287, A287_0, c287_0, e287, hx287_0, hx287_1, hl287_0, hi287_0⟩ := at_T27 (Kd.V_reads' HO_0.out).2.2 x7_3 p287 q287; obtain rfl : ad283 = ad287 := (by injection e287); obtain ⟨ce287, hce287, hMe287, hcc287⟩ := Kd.V_get HO_0.out z27 x7_3 p287 q59_; obtain ⟨ua287_0, uc287_0, rfl, ul287_0, ge287_0⟩ := k27_openF hMe287; have hv287_0 := hcc287 0 _ rfl; rw [Nat.add_zero] at hv287_0; replace hv287_0 := Option.some.inj (hv287_0.symm.trans hx287_0); injection hv287_0 with hva_ hvn_ hvc_; rw [hva_] at ge287_0; rw [hvc_] at ul287_0; have HL287_0 := Aside0.mk (show Kd.V k51 51 _ w.heap.size _ _ ((rd_T27 l0 x7_3).f0) from Kd.V_mk ul287_0 ge287_0); clear hva_ hvn_ hvc_ ge287_0 ul287_0; clear hcc287 hce287; have HR287_0 := Aside0.mk hi287_0; have HC287_0 := Aside0.mk hl287_0; clear hi287_0 hl287_0; replace p287 := eq_true p287; replace q287 := eq_true q287) | ((with_reducible refine gate_callee (f := 16) rfl ?_); refine goesL_ (some 90) rfl rfl Tryd.func16 (by kernel_rfl) rfl #[.slice (some ad283) l0.length c0, .slice A287_0 ((rd_T27 l0 x7_3).f0).length c287_0] rfl q2_ ?_; (with_reducible refine (corollaryref13_N.calls k3 _ _ l0 _ _ ((rd_T27 l0 x7_3).f0) t288 _ ?side1 ?side2 ?side3 ?side4 A41.out).mono ?_); (case side1 => repeat (first | exact (Kd.V_reads' HO_0.out).2.2 | (with_reducible refine Kd.C_alloc ?_ _) | (with_reducible refine Kd.C_drewN ?_ _) | (with_reducible refine Kd.C_drew ?_))); (case side2 => exact (Kd.V_reads' HO_0.out).2.1); (case side3 => repeat (first | exact q51_ | (with_reducible refine Kd.C_alloc ?_ _) | (with_reducible refine Kd.C_drewN ?_ _) | (with_reducible refine Kd.C_drew ?_))); (case side4 => exact HC287_0.out); rintro e w' ⟨rfl, ⟨nd, rfl⟩⟩; refine ⟨_, rfl, ?_⟩) | ((with_reducible refine gate_callee (f := 25) rfl ?_); refine goesL_ (some 92) rfl rfl Tryd.func25 (by kernel_rfl) rfl #[.int .i64 t288] rfl q2_ ?_; (with_reducible refine (corollaryref13_fits.calls t288 true _ A42.out).mono ?_); rintro e w' ⟨rfl, ⟨nd, rfl⟩⟩; refine ⟨_, rfl, ?_⟩; have p290 : 0 ≤ (x7_3 : Int) := of_decide_eq_true q5_; have q290 : x7_3 < (l0.length : Int) := of_decide_eq_true q5_; obtain ⟨ad290, A290_0, c290_0, e290, hx290_0, hx290_1, hl290_0, hi290_0⟩ := at_T27 (Kd.V_reads' HO_0.out).2.2 x7_3 p290 q290; obtain rfl : ad283 = ad290 := (by injection e290); obtain ⟨ce290, hce290, hMe290, hcc290⟩ := Kd.V_get HO_0.out z27 x7_3 p290 (by first | exact q290 | exact of_decide_eq_true q5_ | (have e_ := (Kd.V_reads' HO_0.out).1; omega)); obtain ⟨ua290_0, uc290_0, rfl, ul290_0, ge290_0⟩ := k27_openF hMe290; have hv290_0 := hcc290 0 _ rfl; rw [Nat.add_zero] at hv290_0; replace hv290_0 := Option.some.inj (hv290_0.symm.trans hx290_0); injection hv290_0 with hva_ hvn_ hvc_; rw [hva_] at ge290_0; rw [hvc_] at ul290_0; have HL290_0 := Aside0.mk (show Kd.V k51 51 _ w.heap.size _ _ ((rd_T27 l0 x7_3).f0) from Kd.V_mk ul290_0 ge290_0); clear hva_ hvn_ hvc_ ge290_0 ul290_0; clear hcc290 hce290; have HR290_0 := Aside0.mk hi290_0; have HC290_0 := Aside0.mk hl290_0; clear hi290_0 hl290_0; replace p290 := eq_true p290; replace q290 := eq_true q290; have ea_ := Option.some.inj (hx287_0.symm.trans hx290_0); injection ea_ with ea_ en_ ec_; subst ea_; subst ec_; clear en_) | ((with_reducible refine gate_builtin (b := .append) (xs := #[.tmp 96, .tmp 104]) rfl ?_); (try (refine gate_guard (by rfl) ?_; dsimp only)); at_builtin; refine Kd.N_append k27 (w0 := w) w.heap.size rfl (.tmp 96) (.tmp 104) 22 27 (.agg #[(.slice none 0 0), (.int .i64 0)]) 32 rfl Tryd.underlying22 info27 rfl (by decide) (by omega) u5 x5_2 (⟨(rd_T27 l0 x7_3).f0, t288⟩ : S27) [.slice A287_0 ((rd_T27 l0 x7_3).f0).length c287_0, .int .i64 t288] (fun k_ => (P0_ k_ ∨ w.heap.size ≤ k_) ∧ some k_ ≠ (v285 : Value).ownBlock) (fun k_ => ((fun k_ => (P0_ k_ ∨ w.heap.size ≤ k_) ∧ some k_ ≠ (v285 : Value).ownBlock)) k_ ∧ some k_ ≠ (u5 : Value).ownBlock) rfl rfl ?aP (fun _ hk => hk) ?aF ?aO ?aB ?aS ?aL ?_; (case aP => first | exact (k27_mkF _ _ (⟨(rd_T27 l0 x7_3).f0, t288⟩ : S27) (Kd.V_reads' (Kd.V_mono (ok' := (fun k_ => ((fun k_ => (P0_ k_ ∨ w.heap.size ≤ k_) ∧ some k_ ≠ (v285 : Value).ownBlock)) k_ ∧ some k_ ≠ (u5 : Value).ownBlock)) (HL290_0.out) (fun k_ hk => ⟨⟨hk.1.1, hk.2⟩, hk.1.2⟩))).2.1 (Kd.V_F (Kd.V_mono (ok' := (fun k_ => ((fun k_ => (P0_ k_ ∨ w.heap.size ≤ k_) ∧ some k_ ≠ (v285 : Value).ownBlock)) k_ ∧ some k_ ≠ (u5 : Value).ownBlock)) (HL290_0.out) (fun k_ hk => ⟨⟨hk.1.1, hk.2⟩, hk.1.2⟩)))) | exact (k27_mkF _ _ (⟨(rd_T27 l0 x7_3).f0, t288⟩ : S27) (Kd.V_reads' (Kd.V_mono (ok' := (fun k_ => ((fun k_ => (P0_ k_ ∨ w.heap.size ≤ k_) ∧ some k_ ≠ (v285 : Value).ownBlock)) k_ ∧ some k_ ≠ (u5 : Value).ownBlock)) (HL290_0.out) (fun k_ hk => ⟨⟨hk.1.1, hk.2⟩, hk.1.2⟩))).2.1 (Kd.V_F (Kd.V_mono (ok' := (fun k_ => ((fun k_ => (P0_ k_ ∨ w.heap.size ≤ k_) ∧ some k_ ≠ (v285 : Value).ownBlock)) k_ ∧ some k_ ≠ (u5 : Value).ownBlock)) (Kd.V_drewN HL290_0.out _) (fun k_ hk => ⟨⟨hk.1.1, hk.2⟩, hk.1.2⟩))))); (case aB => exact q0_); (case aF => exact (fun k_ hk => ⟨(.inr (Nat.le_trans (below_size q0_) hk)), Kd.fresh' (Kd.N_lt q57_) k_ hk⟩)); (case aO => exact q7_); (case aS => exact (below_size q0_)); (case aL => have := LMc46.out; omega); intro v292 w48 ho hb hg hat; rw [← Ny291.out] at ho; have n0_ := Aside0.mk (Kd.V_afterv (ok := (fun k_ => (P0_ k_ ∨ w.heap.size ≤ k_) ∧ some k_ ≠ (v285 : Value).ownBlock)) (by (with_reducible repeat (first | apply Kd.V_alloc | apply Kd.V_drewN | apply Kd.V_drew)); exact Kd.V_mono HO_0.out (fun _ hk => ⟨⟨hk.1.1, hk.2⟩, hk.1.2⟩)) hg hat); have n1_ := Aside0.mk (Kd.V_afterv (ok := (fun k_ => (P0_ k_ ∨ w.heap.size ≤ k_) ∧ some k_ ≠ (v285 : Value).ownBlock)) (by (with_reducible repeat (first | apply Kd.V_alloc | apply Kd.V_drewN | apply Kd.V_drew)); exact Kd.V_mono HL283_0.out (fun _ hk => ⟨⟨hk.1.1, hk.2⟩, hk.1.2⟩)) hg hat); have n2_ := Aside0.mk (Kd.N_afterv (ok := (fun k_ => (P0_ k_ ∨ w.heap.size ≤ k_))) q57_ hg hat); have n3_ := Aside0.mk (Kd.V_afterv (ok := (fun k_ => (P0_ k_ ∨ w.heap.size ≤ k_) ∧ some k_ ≠ (v285 : Value).ownBlock)) (by (with_reducible repeat (first | apply Kd.V_alloc | apply Kd.V_drewN | apply Kd.V_drew)); exact Kd.V_mono HL287_0.out (fun _ hk => ⟨⟨hk.1.1, hk.2⟩, hk.1.2⟩)) hg hat); have n4_ := Aside0.mk (Kd.V_afterv (ok := (fun k_ => (P0_ k_ ∨ w.heap.size ≤ k_) ∧ some k_ ≠ (v285 : Value).ownBlock)) (by (with_reducible repeat (first | apply Kd.V_alloc | apply Kd.V_drewN | apply Kd.V_drew)); exact Kd.V_mono HL290_0.out (fun _ hk => ⟨⟨hk.1.1, hk.2⟩, hk.1.2⟩)) hg hat); have n5_ := Aside0.mk (hb); have n6_ := Aside0.mk (ho); clear HO_0; clear HL283_0; clear HO286; clear HL287_0; clear HL290_0; clear HB; clear HO_5; have HO_0 := n0_; have HL283_0 := n1_; have HO286 := n2_; have HL287_0 := n3_; have HL290_0 := n4_; have HB := n5_; have HO293 := n6_; clear n0_ n1_ n2_ n3_ n4_ n5_ n6_; clear ho hb hg hat))
                go_roundg k3
                case measure => have := HK1.out; have := HK2.out; have := HK3.out; omega
                case rel => exact ⟨(y291), (y284), H', ⟨by have := HK1.out; have := HK2.out; have := HK3.out; omega⟩, ⟨by (with_reducible repeat (first | apply Kd.V_alloc | apply Kd.V_drewN | apply Kd.V_drew)); exact Kd.V_mono HO_0.out (fun _ hk => ⟨hk.1.1, ⟨hk.2, hk.1.2⟩⟩)⟩, ⟨by (with_reducible repeat (first | apply Kd.N_alloc | apply Kd.N_drewN | apply Kd.N_drew)); exact HO293.out⟩, ⟨q57_⟩, ⟨q0_⟩⟩
               ·rw [if_neg c46] at H
                exact absurd H (by simp)
             ·replace c43 := Bool.eq_false_iff.mpr c43
              subst c43
              replace H := ifF_ H
              simp only [Option.some.injEq, Prod.mk.injEq] at H
              obtain ⟨rfl, rfl⟩ := H
              have p283 : 0 ≤ (x7_3 : Int) := of_decide_eq_true q5_
              have q283 : x7_3 < (l0.length : Int) := of_decide_eq_true q5_
              obtain ⟨ad283, A283_0, c283_0, e283, hx283_0, hx283_1, hl283_0, hi283_0⟩ := at_T27 (Kd.V_reads' HO_0.out).2.2 x7_3 p283 q283
              cases e283
              obtain ⟨ce283, hce283, hMe283, hcc283⟩ := Kd.V_get HO_0.out z27 x7_3 p283 q60_
              obtain ⟨ua283_0, uc283_0, rfl, ul283_0, ge283_0⟩ := k27_openF hMe283
              have hv283_0 := hcc283 0 _ rfl
              rw [Nat.add_zero] at hv283_0
              replace hv283_0 := Option.some.inj (hv283_0.symm.trans hx283_0)
              injection hv283_0 with hva_ hvn_ hvc_
              rw [hva_] at ge283_0
              rw [hvc_] at ul283_0
              have HL283_0 := Aside0.mk (show Kd.V k51 51 _ w.heap.size _ _ ((rd_T27 l0 x7_3).f0) from Kd.V_mk ul283_0 ge283_0)
              clear hva_ hvn_ hvc_ ge283_0 ul283_0
              clear hcc283 hce283
              have HR283_0 := Aside0.mk hi283_0
              have HC283_0 := Aside0.mk hl283_0
              clear hi283_0 hl283_0
              replace p283 := eq_true p283
              replace q283 := eq_true q283
              go_wp2_with (first | ((with_reducible refine gate_builtin (b := .append) (xs := #[.tmp 76, .tmp 82]) rfl ?_); (try (refine gate_guard (by rfl) ?_; dsimp only)); at_builtin; refine Kd.N_append (Kd.slice 51 k51) (w0 := w) w.heap.size rfl (.tmp 76) (.tmp 82) 31 23 (.slice none 0 0) 24 rfl Tryd.underlying31 info23 rfl (by decide) (by omega) u6 x6_2 ((rd_T27 l0 x7_3).f0) [.slice A283_0 ((rd_T27 l0 x7_3).f0).length c283_0] (fun k_ => (P0_ k_ ∨ w.heap.size ≤ k_) ∧ some k_ ≠ (u5 : Value).ownBlock) (fun k_ => ((fun k_ => (P0_ k_ ∨ w.heap.size ≤ k_) ∧ some k_ ≠ (u5 : Value).ownBlock)) k_ ∧ some k_ ≠ (u6 : Value).ownBlock) rfl rfl ?aP (fun _ hk => hk) ?aF ?aO ?aB ?aS ?aL ?_; (case aP => exact (Kd.FK_slice_mk (Kd.V_reads' (Kd.V_mono (ok' := (fun k_ => ((fun k_ => (P0_ k_ ∨ w.heap.size ≤ k_) ∧ some k_ ≠ (u5 : Value).ownBlock)) k_ ∧ some k_ ≠ (u6 : Value).ownBlock)) (HL283_0.out) (fun k_ hk => ⟨⟨hk.1, hk.2.1⟩, hk.2.2⟩))).2.1 (Kd.V_F (Kd.V_mono (ok' := (fun k_ => ((fun k_ => (P0_ k_ ∨ w.heap.size ≤ k_) ∧ some k_ ≠ (u5 : Value).ownBlock)) k_ ∧ some k_ ≠ (u6 : Value).ownBlock)) (HL283_0.out) (fun k_ hk => ⟨⟨hk.1, hk.2.1⟩, hk.2.2⟩))))); (case aB => exact q0_); (case aF => exact (fun k_ hk => ⟨(.inr (Nat.le_trans (below_size q0_) hk)), Kd.fresh' (Kd.N_lt q7_) k_ hk⟩)); (case aO => exact q27_); (case aS => exact (below_size q0_)); (case aL => have := LMc40.out; omega); intro v285 w49 ho hb hg hat; rw [← Ny284.out] at ho; have n0_ := Aside0.mk (Kd.V_afterv (ok := (fun k_ => (P0_ k_ ∨ w.heap.size ≤ k_) ∧ some k_ ≠ (u5 : Value).ownBlock)) q54_ hg hat); have n1_ := Aside0.mk (Kd.N_afterv (ok := (fun k_ => (P0_ k_ ∨ w.heap.size ≤ k_))) q7_ hg hat); have n2_ := Aside0.mk (Kd.V_afterv (ok := (fun k_ => (P0_ k_ ∨ w.heap.size ≤ k_) ∧ some k_ ≠ (u5 : Value).ownBlock)) q53_ hg hat); have n3_ := Aside0.mk (hb); have n4_ := Aside0.mk (ho); clear HO_0; clear HO_5; clear HL283_0; clear HB; clear HO_6; have HO_0 := n0_; have HO_5 := n1_; have HL283_0 := n2_; have HB := n3_; have HO286 := n4_; clear n0_ n1_ n2_ n3_ n4_; clear ho hb hg hat; have p287 : 0 ≤ (x7_3 : Int) := of_decide_eq_true q5_; have q287 : x7_3 < (l0.length : Int) := of_decide_eq_true q5_; obtain ⟨ad287, A287_0, c287_0, e287, hx287_0, hx287_1, hl287_0, hi287_0⟩ := at_T27 (Kd.V_reads' HO_0.out).2.2 x7_3 p287 q287; obtain rfl : ad283 = ad287 := (by injection e287); obtain ⟨ce287, hce287, hMe287, hcc287⟩ := Kd.V_get HO_0.out z27 x7_3 p287 q59_; obtain ⟨ua287_0, uc287_0, rfl, ul287_0, ge287_0⟩ := k27_openF hMe287; have hv287_0 := hcc287 0 _ rfl; rw [Nat.add_zero] at hv287_0; replace hv287_0 := Option.some.inj (hv287_0.symm.trans hx287_0); injection hv287_0 with hva_ hvn_ hvc_; rw [hva_] at ge287_0; rw [hvc_] at ul287_0; have HL287_0 := Aside0.mk (show Kd.V k51 51 _ w.heap.size _ _ ((rd_T27 l0 x7_3).f0) from Kd.V_mk ul287_0 ge287_0); clear hva_ hvn_ hvc_ ge287_0 ul287_0; clear hcc287 hce287; have HR287_0 := Aside0.mk hi287_0; have HC287_0 := Aside0.mk hl287_0; clear hi287_0 hl287_0; replace p287 := eq_true p287; replace q287 := eq_true q287) | ((with_reducible refine gate_callee (f := 16) rfl ?_); refine goesL_ (some 90) rfl rfl Tryd.func16 (by kernel_rfl) rfl #[.slice (some ad283) l0.length c0, .slice A287_0 ((rd_T27 l0 x7_3).f0).length c287_0] rfl q2_ ?_; (with_reducible refine (corollaryref13_N.calls k3 _ _ l0 _ _ ((rd_T27 l0 x7_3).f0) t288 _ ?side1 ?side2 ?side3 ?side4 A41.out).mono ?_); (case side1 => repeat (first | exact (Kd.V_reads' HO_0.out).2.2 | (with_reducible refine Kd.C_alloc ?_ _) | (with_reducible refine Kd.C_drewN ?_ _) | (with_reducible refine Kd.C_drew ?_))); (case side2 => exact (Kd.V_reads' HO_0.out).2.1); (case side3 => repeat (first | exact q51_ | (with_reducible refine Kd.C_alloc ?_ _) | (with_reducible refine Kd.C_drewN ?_ _) | (with_reducible refine Kd.C_drew ?_))); (case side4 => exact HC287_0.out); rintro e w' ⟨rfl, ⟨nd, rfl⟩⟩; refine ⟨_, rfl, ?_⟩) | ((with_reducible refine gate_callee (f := 25) rfl ?_); refine goesL_ (some 92) rfl rfl Tryd.func25 (by kernel_rfl) rfl #[.int .i64 t288] rfl q2_ ?_; (with_reducible refine (corollaryref13_fits.calls t288 false _ A42.out).mono ?_); rintro e w' ⟨rfl, ⟨nd, rfl⟩⟩; refine ⟨_, rfl, ?_⟩))
              go_ret2
              exact ⟨_, q4_, q19_, q0_⟩
            ·rw [if_neg c40] at H
             exact absurd H (by simp)
           ·rw [if_neg c39] at H
            exact absurd H (by simp)
          ·rw [if_neg c38] at H
           exact absurd H (by simp)

end Go.Proofs.YtckligjgnbgdiaaDoor.P
