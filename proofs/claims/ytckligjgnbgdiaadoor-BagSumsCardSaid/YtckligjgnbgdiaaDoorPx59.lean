-- HALVED
import Derived.Test.YtckligjgnbgdiaaDoorPx0
import Derived.Test.YtckligjgnbgdiaaDoorPx53
import Derived.Test.YtckligjgnbgdiaaDoorPx58
namespace Go.Proofs.YtckligjgnbgdiaaDoor.P
open Go.RowKit Go.Proofs.YtckligjgnbgdiaaDoorW.PrintWords Go.Proofs.YtckligjgnbgdiaaDoorW.PrintLast Go.Proofs.YtckligjgnbgdiaaDoorW.PrintMore
attribute [local go_sem] max2_int min2_mn max_two min_two max_three min_three max_four min_four   -- for this text's walks alone
set_option linter.unusedVariables false
set_option linter.unusedSimpArgs false

abbrev b59_0 : Array Bool := #[false, false, false, false, false, false, false, false, false, false, false, false, false, false, false, false, false, false, false, false, false, false, false, false, false, false, false, false, false, false, false, false, false, false, false, false, false, false, false, false, false, false, false]
abbrev b59_1 : Array Bool := #[true, false, false, false, false, false, false, false, false, false, false, false, false, false, false, false, false, false, false, false, false, false, false, false, false, false, false, false, false, false, false, false, false, false, false, false, false, false, false, false, false, false, false]
abbrev b59_2 : Array Bool := #[true, true, false, false, false, false, false, false, false, false, false, false, false, false, false, false, false, false, false, false, false, false, false, false, false, false, false, false, false, false, false, false, false, false, false, false, false, false, false, false, false, false, false]
abbrev b59_3 : Array Bool := #[true, true, true, false, false, false, false, false, false, false, false, false, false, false, false, false, false, false, false, false, false, false, false, false, false, false, false, false, false, false, false, false, false, false, false, false, false, false, false, false, false, false, false]
abbrev b59_4 : Array Bool := #[true, true, true, true, false, false, false, false, false, false, false, false, false, false, false, false, false, false, false, false, false, false, false, false, false, false, false, false, false, false, false, false, false, false, false, false, false, false, false, false, false, false, false]
abbrev b59_5 : Array Bool := #[true, true, true, true, true, false, false, false, false, false, false, false, false, false, false, false, false, false, false, false, false, false, false, false, false, false, false, false, false, false, false, false, false, false, false, false, false, false, false, false, false, false, false]
abbrev b59_6 : Array Bool := #[true, true, true, true, true, true, false, false, false, false, false, false, false, false, false, false, false, false, false, false, false, false, false, false, false, false, false, false, false, false, false, false, false, false, false, false, false, false, false, false, false, false, false]
abbrev b59_7 : Array Bool := #[true, true, true, true, true, true, true, false, false, false, false, false, false, false, false, false, false, false, false, false, false, false, false, false, false, false, false, false, false, false, false, false, false, false, false, false, false, false, false, false, false, false, false]
abbrev b59_8 : Array Bool := #[true, true, true, true, true, true, true, true, false, false, false, false, false, false, false, false, false, false, false, false, false, false, false, false, false, false, false, false, false, false, false, false, false, false, false, false, false, false, false, false, false, false, false]
abbrev b59_9 : Array Bool := #[true, true, true, true, true, true, true, true, true, false, false, false, false, false, false, false, false, false, false, false, false, false, false, false, false, false, false, false, false, false, false, false, false, false, false, false, false, false, false, false, false, false, false]
abbrev b59_10 : Array Bool := #[true, true, true, true, true, true, true, true, true, true, false, false, false, false, false, false, false, false, false, false, false, false, false, false, false, false, false, false, false, false, false, false, false, false, false, false, false, false, false, false, false, false, false]
abbrev b59_11 : Array Bool := #[true, true, true, true, true, true, true, true, true, true, true, false, false, false, false, false, false, false, false, false, false, false, false, false, false, false, false, false, false, false, false, false, false, false, false, false, false, false, false, false, false, false, false]
abbrev b59_12 : Array Bool := #[true, true, true, true, true, true, true, true, true, true, true, true, false, false, false, false, false, false, false, false, false, false, false, false, false, false, false, false, false, false, false, false, false, false, false, false, false, false, false, false, false, false, false]
abbrev b59_13 : Array Bool := #[true, true, true, true, true, true, true, true, true, true, true, true, true, false, false, false, false, false, false, false, false, false, false, false, false, false, false, false, false, false, false, false, false, false, false, false, false, false, false, false, false, false, false]
abbrev b59_14 : Array Bool := #[true, true, true, true, true, true, true, true, true, true, true, true, true, true, false, false, false, false, false, false, false, false, false, false, false, false, false, false, false, false, false, false, false, false, false, false, false, false, false, false, false, false, false]
abbrev b59_15 : Array Bool := #[true, true, true, true, true, true, true, true, true, true, true, true, true, true, true, false, false, false, false, false, false, false, false, false, false, false, false, false, false, false, false, false, false, false, false, false, false, false, false, false, false, false, false]
abbrev b59_16 : Array Bool := #[true, true, true, true, true, true, true, true, true, true, true, true, true, true, true, true, false, false, false, false, false, false, false, false, false, false, false, false, false, false, false, false, false, false, false, false, false, false, false, false, false, false, false]
abbrev b59_17 : Array Bool := #[true, true, true, true, true, true, true, true, true, true, true, true, true, true, true, true, true, false, false, false, false, false, false, false, false, false, false, false, false, false, false, false, false, false, false, false, false, false, false, false, false, false, false]
abbrev b59_18 : Array Bool := #[true, true, true, true, true, true, true, true, true, true, true, true, true, true, true, true, true, true, false, false, false, false, false, false, false, false, false, false, false, false, false, false, false, false, false, false, false, false, false, false, false, false, false]
abbrev b59_19 : Array Bool := #[true, true, true, true, true, true, true, true, true, true, true, true, true, true, true, true, true, true, true, false, false, false, false, false, false, false, false, false, false, false, false, false, false, false, false, false, false, false, false, false, false, false, false]
abbrev b59_20 : Array Bool := #[true, true, true, true, true, true, true, true, true, true, true, true, true, true, true, true, true, true, true, true, false, false, false, false, false, false, false, false, false, false, false, false, false, false, false, false, false, false, false, false, false, false, false]
abbrev b59_21 : Array Bool := #[true, true, true, true, true, true, true, true, true, true, true, true, true, true, true, true, true, true, true, true, true, false, false, false, false, false, false, false, false, false, false, false, false, false, false, false, false, false, false, false, false, false, false]
abbrev b59_22 : Array Bool := #[true, true, true, true, true, true, true, true, true, true, true, true, true, true, true, true, true, true, true, true, true, true, false, false, false, false, false, false, false, false, false, false, false, false, false, false, false, false, false, false, false, false, false]
abbrev b59_23 : Array Bool := #[true, true, true, true, true, true, true, true, true, true, true, true, true, true, true, true, true, true, true, true, true, true, true, false, false, false, false, false, false, false, false, false, false, false, false, false, false, false, false, false, false, false, false]
abbrev b59_24 : Array Bool := #[true, true, true, true, true, true, true, true, true, true, true, true, true, true, true, true, true, true, true, true, true, true, true, true, false, false, false, false, false, false, false, false, false, false, false, false, false, false, false, false, false, false, false]
abbrev b59_25 : Array Bool := #[true, true, true, true, true, true, true, true, true, true, true, true, true, true, true, true, true, true, true, true, true, true, true, true, true, false, false, false, false, false, false, false, false, false, false, false, false, false, false, false, false, false, false]
abbrev b59_26 : Array Bool := #[true, true, true, true, true, true, true, true, true, true, true, true, true, true, true, true, true, true, true, true, true, true, true, true, true, true, false, false, false, false, false, false, false, false, false, false, false, false, false, false, false, false, false]
abbrev b59_27 : Array Bool := #[true, true, true, true, true, true, true, true, true, true, true, true, true, true, true, true, true, true, true, true, true, true, true, true, true, true, true, false, false, false, false, false, false, false, false, false, false, false, false, false, false, false, false]
abbrev b59_28 : Array Bool := #[true, true, true, true, true, true, true, true, true, true, true, true, true, true, true, true, true, true, true, true, true, true, true, true, true, true, true, true, false, false, false, false, false, false, false, false, false, false, false, false, false, false, false]
abbrev b59_29 : Array Bool := #[true, true, true, true, true, true, true, true, true, true, true, true, true, true, true, true, true, true, true, true, true, true, true, true, true, true, true, true, true, false, false, false, false, false, false, false, false, false, false, false, false, false, false]
abbrev b59_30 : Array Bool := #[true, true, true, true, true, true, true, true, true, true, true, true, true, true, true, true, true, true, true, true, true, true, true, true, true, true, true, true, true, true, false, false, false, false, false, false, false, false, false, false, false, false, false]
abbrev b59_31 : Array Bool := #[true, true, true, true, true, true, true, true, true, true, true, true, true, true, true, true, true, true, true, true, true, true, true, true, true, true, true, true, true, true, true, false, false, false, false, false, false, false, false, false, false, false, false]
abbrev b59_32 : Array Bool := #[true, true, true, true, true, true, true, true, true, true, true, true, true, true, true, true, true, true, true, true, true, true, true, true, true, true, true, true, true, true, true, true, false, false, false, false, false, false, false, false, false, false, false]
abbrev b59_33 : Array Bool := #[true, true, true, true, true, true, true, true, true, true, true, true, true, true, true, true, true, true, true, true, true, true, true, true, true, true, true, true, true, true, true, true, true, false, false, false, false, false, false, false, false, false, false]
abbrev b59_34 : Array Bool := #[true, true, true, true, true, true, true, true, true, true, true, true, true, true, true, true, true, true, true, true, true, true, true, true, true, true, true, true, true, true, true, true, true, true, false, false, false, false, false, false, false, false, false]
abbrev b59_35 : Array Bool := #[true, true, true, true, true, true, true, true, true, true, true, true, true, true, true, true, true, true, true, true, true, true, true, true, true, true, true, true, true, true, true, true, true, true, true, false, false, false, false, false, false, false, false]
abbrev b59_36 : Array Bool := #[true, true, true, true, true, true, true, true, true, true, true, true, true, true, true, true, true, true, true, true, true, true, true, true, true, true, true, true, true, true, true, true, true, true, true, true, false, false, false, false, false, false, false]
abbrev b59_37 : Array Bool := #[true, true, true, true, true, true, true, true, true, true, true, true, true, true, true, true, true, true, true, true, true, true, true, true, true, true, true, true, true, true, true, true, true, true, true, true, true, false, false, false, false, false, false]
abbrev b59_38 : Array Bool := #[true, true, true, true, true, true, true, true, true, true, true, true, true, true, true, true, true, true, true, true, true, true, true, true, true, true, true, true, true, true, true, true, true, true, true, true, true, true, false, false, false, false, false]
abbrev b59_39 : Array Bool := #[true, true, true, true, true, true, true, true, true, true, true, true, true, true, true, true, true, true, true, true, true, true, true, true, true, true, true, true, true, true, true, true, true, true, true, true, true, true, true, false, false, false, false]
abbrev b59_40 : Array Bool := #[true, true, true, true, true, true, true, true, true, true, true, true, true, true, true, true, true, true, true, true, true, true, true, true, true, true, true, true, true, true, true, true, true, true, true, true, true, true, true, true, false, false, false]
abbrev b59_41 : Array Bool := #[true, true, true, true, true, true, true, true, true, true, true, true, true, true, true, true, true, true, true, true, true, true, true, true, true, true, true, true, true, true, true, true, true, true, true, true, true, true, true, true, true, false, false]
abbrev b59_42 : Array Bool := #[true, true, true, true, true, true, true, true, true, true, true, true, true, true, true, true, true, true, true, true, true, true, true, true, true, true, true, true, true, true, true, true, true, true, true, true, true, true, true, true, true, true, false]
abbrev b59_43 : Array Bool := #[true, true, true, true, true, true, true, true, true, true, true, true, true, true, true, true, true, true, true, true, true, true, true, true, true, true, true, true, true, true, true, true, true, true, true, true, true, true, true, true, true, true, true]
abbrev b59_44 : Array Bool := #[true, true, true, true, true, true, true, true, true, true, true, true, true, true, true, true, true, true, true, true, true, true, true, true, true, true, true, true, true, true, true, true, true, false, true, false, false, false, false, false, false, false, false]
abbrev b59_45 : Array Bool := #[true, true, true, true, true, true, true, true, true, true, true, true, true, true, true, true, true, true, true, true, true, true, true, true, true, true, true, true, true, true, true, true, true, false, true, true, false, false, false, false, false, false, false]
abbrev b59_46 : Array Bool := #[true, true, true, true, true, true, true, true, true, true, true, true, true, true, true, true, true, true, true, true, true, true, true, true, true, true, true, true, true, true, true, true, true, false, true, true, true, false, false, false, false, false, false]
abbrev b59_47 : Array Bool := #[true, true, true, true, true, true, true, true, true, true, true, true, true, true, true, true, true, true, true, true, true, true, true, true, true, true, true, true, true, true, true, true, true, false, true, true, true, true, false, false, false, false, false]
def corollaryref13_Right.l0 : Nat → List (S27) → Int → Option (Bool)
 | 0, _, _ => none
 | k + 1, x0, x3 => if x3 < (x0.length : Int) then (if 0 ≤ x3 then (if ((rd_T27 x0 x3).f1) = 0 then (some false) else ((corollaryref13_fits.f ((rd_T27 x0 x3).f1)).bind fun t238 => (if t238 = true then ((corollaryref13_right.f k ((rd_T27 x0 x3).f0)).bind fun t240 => (if t240 = true then (if x3 > 0 then (if 0 ≤ (wrap64 (x3 - 1)) then (if (wrap64 (x3 - 1)) < (x0.length : Int) then ((corollaryref01_Rows.f k ((rd_T27 x0 (wrap64 (x3 - 1))).f0) ((rd_T27 x0 x3).f0)).bind fun t243 => (if t243 = (-1) then (corollaryref13_Right.l0 k x0 (wrap64 (x3 + 1))) else (some false))) else (none)) else (none)) else (corollaryref13_Right.l0 k x0 (wrap64 (x3 + 1)))) else (some false))) else (some false)))) else (none)) else (some true)
def corollaryref13_Right.f (k : Nat) (l0 : List (S27)) : Option (Bool) := corollaryref13_Right.l0 k l0 0
theorem corollaryref13_Right.mono_l : ∀ k, (∀ y0 y1, LeO (corollaryref13_Right.l0 k y0 y1) (corollaryref13_Right.l0 (k + 1) y0 y1))
 | 0 => fun _ _ r h => by simp [corollaryref13_Right.l0] at h
 | k + 1 => by
  have ih0 := corollaryref13_Right.mono_l k
  ·intro y0 y1
   unfold corollaryref13_Right.l0
   repeat' first
   | (with_reducible exact ih0 _ _)
   | (with_reducible exact corollaryref01_Rows.mono _ _ _)
   | (with_reducible exact corollaryref13_right.mono _ _)
   | (with_reducible exact LeO.refl _)
   | (with_reducible exact LeO.none _)
   | (with_reducible refine LeO.ite ?_ ?_)
   | (with_reducible refine LeO.bind ?_ (fun _ => ?_))
   | exact ih0 _ _
   | exact corollaryref01_Rows.mono _ _ _
   | exact corollaryref13_right.mono _ _
   | exact LeO.none _
   | refine LeO.ite ?_ ?_
   | refine LeO.bind ?_ (fun _ => ?_)
theorem corollaryref13_Right.mono : ∀ a0 k, LeO (corollaryref13_Right.f k a0) (corollaryref13_Right.f (k + 1) a0) := by
 intro a0 k
 have ih0 := corollaryref13_Right.mono_l k
 unfold corollaryref13_Right.f
 repeat' first
   | (with_reducible exact ih0 _ _)
   | (with_reducible exact corollaryref01_Rows.mono _ _ _)
   | (with_reducible exact corollaryref13_right.mono _ _)
   | (with_reducible exact LeO.refl _)
   | (with_reducible exact LeO.none _)
   | (with_reducible refine LeO.ite ?_ ?_)
   | (with_reducible refine LeO.bind ?_ (fun _ => ?_))
   | exact ih0 _ _
   | exact corollaryref01_Rows.mono _ _ _
   | exact corollaryref13_right.mono _ _
   | exact LeO.none _
   | refine LeO.ite ?_ ?_
   | refine LeO.bind ?_ (fun _ => ?_)
def corollaryref13_Right.T4 : Bool × List (List Nat × List Nat) := (true, [([], []), ([], []), ([0, 1], [0, 1]), ([2], [2]), ([3], [3]), ([4], [4]), ([5], [5]), ([6], [6]), ([6], [6]), ([7, 8, 6], [6, 7, 8]), ([9, 6], [6, 9]), ([10, 6], [6, 10]), ([11, 6, 6], [6, 11]), ([12, 6], [6, 12]), ([6, 13], [6, 13]), ([14, 12], [14]), ([15], [15]), ([15], [15]), ([16, 17, 15], [15, 16, 17]), ([18, 15], [15, 18]), ([19, 15], [15, 19]), ([20, 15, 15], [15, 20]), ([21, 15], [15, 21]), ([15, 22], [15, 22]), ([23, 21], [23]), ([24], [24]), ([25, 24], [24, 25]), ([26, 24, 24], [24, 26]), ([27], [27]), ([27], [27]), ([29, 27], [27, 29]), ([28, 30, 27], [27, 28, 30]), ([31, 27], [27, 31]), ([32, 27], [27, 32]), ([27], [27]), ([27], [27]), ([34, 35, 27], [27, 34, 35]), ([36, 27], [27, 36]), ([37, 27], [27, 37]), ([33, 38, 27, 27], [27, 33, 38]), ([39, 27], [27, 39]), ([27, 40, 24], [24, 27, 40]), ([24, 41], [24, 41])])
def corollaryref13_Right.B4 : List Nat := [0, 0, 3, 7, 15, 31, 63, 127, 127, 511, 1023, 2047, 4095, 8191, 16383, 32767, 65535, 65535, 262143, 524287, 1048575, 2097151, 4194303, 8388607, 16777215, 33554431, 67108863, 134217727, 268435455, 268435455, 805306367, 2147483647, 4294967295, 8589934591, 268435455, 268435455, 51808043007, 120527519743, 257966473215, 549755813887, 1099511627775, 2199023255551, 4398046511103]
theorem corollaryref13_Right.tab4 : rtab .any (opsOf Tryd.f11 4) = corollaryref13_Right.T4 := by kernel_rfl
theorem corollaryref13_Right.bits4 : waitsOk corollaryref13_Right.T4.2 corollaryref13_Right.B4 = true := by kernel_rfl
set_option maxHeartbeats 8000000 in
set_option maxRecDepth 100000 in
theorem corollaryref13_Right.calls (k : Nat) (A0 : Option Addr) (c0 : Nat) (l0 : List (S27)) (r : Bool) (w : World) (hr0 : Kd.C k27 w A0 l0.length l0) (hc0 : l0.length ≤ c0) (h : corollaryref13_Right.f k l0 = some r) :
  Calls Tryd.prog 11 #[.slice A0 l0.length c0] w fun e w' => e = .returned (.bool r) ∧ Below w.heap.size w w' := by
 have HR0 := Aside0.mk hr0
 have HC0 := Aside0.mk hc0
 clear hr0 hc0
 have HB := Aside0.mk (Below.refl w.heap.size w)
 have H : (corollaryref13_Right.l0 k l0 0) = some r := h
 clear h
 have H' := Aside0.mk H
 clear H
 go_enter Tryd.func11, Tryd.ntmps11
 go_wp2
 go_loopg [3] k (fun kq v3 w' => ∃ (x3_1 : Int), v3 = .int .i64 x3_1 ∧ Aside0 (corollaryref13_Right.l0 kq l0 x3_1 = some r) ∧ Aside0 (kq ≤ k) ∧ Aside0 (Below w.heap.size w w'))
 case atStart => exact ⟨(0), q9_, H', ⟨Nat.le_refl _⟩, ⟨q0_⟩⟩
 case round =>
  clear H'
  try clear c1
  obtain ⟨x3_1, rfl, HA, HK1, HB⟩ := hrel
  cases gk with
  | zero => exact absurd HA.out (by simp [corollaryref13_Right.l0])
  | succ k1 =>
   have H := HA.out
   clear HA
   simp only [corollaryref13_Right.l0] at H
   by_cases c2 : x3_1 < (l0.length : Int)
   ·rw [if_pos c2] at H
    have c2b0 : decide (x3_1 < (l0.length : Int)) = true := decide_eq_true c2
    clear c2
    by_cases c3 : 0 ≤ x3_1
    ·rw [if_pos c3] at H
     have c3b0 : decide (0 ≤ x3_1) = true := decide_eq_true c3
     clear c3
     by_cases c4 : ((rd_T27 l0 x3_1).f1) = 0
     ·rw [if_pos c4] at H
      have c4b0 : (((rd_T27 l0 x3_1).f1) == 0) = true := beq_iff_eq.mpr c4
      have c4b1 : (((rd_T27 l0 x3_1).f1) != 0) = false := bne_eq_false_iff_eq.mpr c4
      clear c4
      obtain rfl := Option.some.inj H
      try go_wp2
      have n0_ := Aside0.mk (below_drew1 HB.out)
      clear HB
      have HB := n0_
      clear n0_
      have p236 : 0 ≤ (x3_1 : Int) := of_decide_eq_true q5_
      have q236 : x3_1 < (l0.length : Int) := of_decide_eq_true q5_
      obtain ⟨ad236, A236_0, c236_0, e236, hx236_0, hx236_1, hl236_0, hi236_0⟩ := at_T27 HR0.out x3_1 p236 q236
      have hw236_1 := hx236_1
      have hw236_0 := hx236_0
      cases e236
      replace hx236_0 := (HB.out.cell (World.block_lt_of_cell? w _ hx236_0)).trans hx236_0
      replace hx236_1 := (HB.out.cell (World.block_lt_of_cell? w _ hx236_1)).trans hx236_1
      have HR236_0 := Aside0.mk hi236_0
      have HC236_0 := Aside0.mk hl236_0
      clear hi236_0 hl236_0
      replace p236 := eq_true p236
      replace q236 := eq_true q236
      refine start_ (n := 43) (S := fun w' => w'.cell? (ad236.add ((x3_1).toNat * 2)) = some (.slice A236_0 ((rd_T27 l0 x3_1).f0).length c236_0) ∧ w'.cell? ⟨(ad236.add ((x3_1).toNat * 2)).block, (ad236.add ((x3_1).toNat * 2)).off + 1, none⟩ = some (.int .i64 ((rd_T27 l0 x3_1).f1))) (ds := []) b59_0 (by kernel_rfl) rfl rfl ⟨((HB.out.cell (World.block_lt_of_cell? w _ hw236_0)).trans hw236_0), ((HB.out.cell (World.block_lt_of_cell? w _ hw236_1)).trans hw236_1)⟩ (fun hHeld => ?_); refine with_tabW corollaryref13_Right.tab4 corollaryref13_Right.bits4 (fun HT_ HW_ => ?_)
      generalize wr.drew = w5 at HB HR236_0 hx236_0 hx236_1 hHeld ⊢
      refine pure_ (i := 0) (N := some 10) (v := ?_) (a' := ?_) b59_1 rfl rfl qh_ qi_ (Or.inl ⟨qr_, ?_⟩) ?_ ?_; rotate_left; (intro w'; go_simp; with_reducible rfl); rotate_left; exact qa_
      refine pure_ (i := 1) (N := some 11) (v := ?_) (a' := ?_) b59_2 rfl rfl qh_ qi_ (Or.inl ⟨qr_, ?_⟩) ?_ ?_; rotate_left; (intro w'; go_simp; with_reducible rfl); rotate_left; exact qa_
      refine pure_ (i := 2) (N := some 12) (v := ?_) (a' := ?_) b59_3 rfl rfl qh_ qi_ (Or.inl ⟨qr_, ?_⟩) ?_ ?_; rotate_left; (intro w'; go_simp; with_reducible rfl); rotate_left; exact qa_
      refine pure_ (i := 3) (N := some 13) (v := ?_) (a' := ?_) b59_4 rfl rfl qh_ qi_ (Or.inl ⟨qr_, ?_⟩) ?_ ?_; rotate_left; (intro w'; go_simp; with_reducible rfl); rotate_left; exact qa_
      refine take_ (i := 4) (N := some 14) (v := ?_) (a' := ?_) b59_5 rfl rfl (take_ofW HT_.out HW_.out (by kernel_rfl)) (fun _ _ _ h => h) (Or.inl ⟨by rfl, ?_⟩) hHeld ?_ ?_; rotate_left; (rintro w' ⟨s0, s1⟩; go_simp; with_reducible rfl); rotate_left; exact qa_
      refine pure_ (i := 5) (N := some 15) (v := ?_) (a' := ?_) b59_6 rfl rfl qh_ qi_ (Or.inl ⟨qr_, ?_⟩) ?_ ?_; rotate_left; (intro w'; go_simp; with_reducible rfl); rotate_left; exact qa_
      refine pure_ (i := 6) (N := some 16) (v := ?_) (a' := ?_) b59_7 rfl rfl qh_ qi_ (Or.inl ⟨qr_, ?_⟩) ?_ ?_; rotate_left; (intro w'; go_simp; with_reducible rfl); rotate_left; exact qa_
      refine pure_ (i := 7) (N := some 17) (v := undef) (a' := ?_) b59_8 rfl rfl qh_ qi_ (Or.inr ⟨qr_, rfl⟩) ?_ ?_; rotate_left; exact qa_
      refine pure_ (i := 8) (N := some 18) (v := undef) (a' := ?_) b59_9 rfl rfl qh_ qi_ (Or.inr ⟨qr_, rfl⟩) ?_ ?_; rotate_left; exact qa_
      refine pure_ (i := 9) (N := some 19) (v := undef) (a' := ?_) b59_10 rfl rfl qh_ qi_ (Or.inr ⟨qr_, rfl⟩) ?_ ?_; rotate_left; exact qa_
      refine pure_ (i := 10) (N := some 20) (v := undef) (a' := ?_) b59_11 rfl rfl qh_ qi_ (Or.inr ⟨qr_, rfl⟩) ?_ ?_; rotate_left; exact qa_
      refine pure_ (i := 11) (N := some 21) (v := undef) (a' := ?_) b59_12 rfl rfl qh_ qi_ (Or.inr ⟨qr_, rfl⟩) ?_ ?_; rotate_left; exact qa_
      refine pure_ (i := 12) (N := some 22) (v := undef) (a' := ?_) b59_13 rfl rfl qh_ qi_ (Or.inr ⟨qr_, rfl⟩) ?_ ?_; rotate_left; exact qa_
      refine pure_ (i := 13) (N := some 23) (v := undef) (a' := ?_) b59_14 rfl rfl qh_ qi_ (Or.inr ⟨qr_, rfl⟩) ?_ ?_; rotate_left; exact qa_
      refine pure_ (i := 14) (N := some 24) (v := ?_) (a' := ?_) b59_15 rfl rfl qh_ qi_ (Or.inl ⟨qr_, ?_⟩) ?_ ?_; rotate_left; (intro w'; go_simp; with_reducible rfl); rotate_left; exact qa_
      refine pure_ (i := 15) (N := some 25) (v := ?_) (a' := ?_) b59_16 rfl rfl qh_ qi_ (Or.inl ⟨qr_, ?_⟩) ?_ ?_; rotate_left; (intro w'; go_simp; with_reducible rfl); rotate_left; exact qa_
      refine pure_ (i := 16) (N := some 26) (v := undef) (a' := ?_) b59_17 rfl rfl qh_ qi_ (Or.inr ⟨qr_, rfl⟩) ?_ ?_; rotate_left; exact qa_
      refine pure_ (i := 17) (N := some 27) (v := undef) (a' := ?_) b59_18 rfl rfl qh_ qi_ (Or.inr ⟨qr_, rfl⟩) ?_ ?_; rotate_left; exact qa_
      refine pure_ (i := 18) (N := some 28) (v := undef) (a' := ?_) b59_19 rfl rfl qh_ qi_ (Or.inr ⟨qr_, rfl⟩) ?_ ?_; rotate_left; exact qa_
      refine pure_ (i := 19) (N := some 29) (v := undef) (a' := ?_) b59_20 rfl rfl qh_ qi_ (Or.inr ⟨qr_, rfl⟩) ?_ ?_; rotate_left; exact qa_
      refine pure_ (i := 20) (N := some 30) (v := undef) (a' := ?_) b59_21 rfl rfl qh_ qi_ (Or.inr ⟨qr_, rfl⟩) ?_ ?_; rotate_left; exact qa_
      refine pure_ (i := 21) (N := some 31) (v := undef) (a' := ?_) b59_22 rfl rfl qh_ qi_ (Or.inr ⟨qr_, rfl⟩) ?_ ?_; rotate_left; exact qa_
      refine pure_ (i := 22) (N := some 32) (v := undef) (a' := ?_) b59_23 rfl rfl qh_ qi_ (Or.inr ⟨qr_, rfl⟩) ?_ ?_; rotate_left; exact qa_
      refine pure_ (i := 23) (N := some 33) (v := ?_) (a' := ?_) b59_24 rfl rfl qh_ qi_ (Or.inl ⟨qr_, ?_⟩) ?_ ?_; rotate_left; (intro w'; go_simp; with_reducible rfl); rotate_left; exact qa_
      refine pure_ (i := 24) (N := some 34) (v := ?_) (a' := ?_) b59_25 rfl rfl qh_ qi_ (Or.inl ⟨qr_, ?_⟩) ?_ ?_; rotate_left; (intro w'; go_simp; with_reducible rfl); rotate_left; exact qa_
      refine pure_ (i := 25) (N := some 35) (v := undef) (a' := ?_) b59_26 rfl rfl qh_ qi_ (Or.inr ⟨qr_, rfl⟩) ?_ ?_; rotate_left; exact qa_
      refine pure_ (i := 26) (N := some 36) (v := undef) (a' := ?_) b59_27 rfl rfl qh_ qi_ (Or.inr ⟨qr_, rfl⟩) ?_ ?_; rotate_left; exact qa_
      refine pure_ (i := 27) (N := some 37) (v := undef) (a' := ?_) b59_28 rfl rfl qh_ qi_ (Or.inr ⟨qr_, rfl⟩) ?_ ?_; rotate_left; exact qa_
      refine pure_ (i := 28) (N := some 38) (v := undef) (a' := ?_) b59_29 rfl rfl qh_ qi_ (Or.inr ⟨qr_, rfl⟩) ?_ ?_; rotate_left; exact qa_
      refine pure_ (i := 29) (N := some 39) (v := undef) (a' := ?_) b59_30 rfl rfl qh_ qi_ (Or.inr ⟨qr_, rfl⟩) ?_ ?_; rotate_left; exact qa_
      refine pure_ (i := 30) (N := some 40) (v := undef) (a' := ?_) b59_31 rfl rfl qh_ qi_ (Or.inr ⟨qr_, rfl⟩) ?_ ?_; rotate_left; exact qa_
      refine pure_ (i := 31) (N := some 41) (v := undef) (a' := ?_) b59_32 rfl rfl qh_ qi_ (Or.inr ⟨qr_, rfl⟩) ?_ ?_; rotate_left; exact qa_
      refine pure_ (i := 32) (N := some 42) (v := undef) (a' := ?_) b59_33 rfl rfl qh_ qi_ (Or.inr ⟨qr_, rfl⟩) ?_ ?_; rotate_left; exact qa_
      refine pure_ (i := 33) (N := some 43) (v := undef) (a' := ?_) b59_34 rfl rfl qh_ qi_ (Or.inr ⟨qr_, rfl⟩) ?_ ?_; rotate_left; exact qa_
      refine pure_ (i := 34) (N := some 44) (v := undef) (a' := ?_) b59_35 rfl rfl qh_ qi_ (Or.inr ⟨qr_, rfl⟩) ?_ ?_; rotate_left; exact qa_
      refine pure_ (i := 35) (N := some 45) (v := undef) (a' := ?_) b59_36 rfl rfl qh_ qi_ (Or.inr ⟨qr_, rfl⟩) ?_ ?_; rotate_left; exact qa_
      refine pure_ (i := 36) (N := some 46) (v := undef) (a' := ?_) b59_37 rfl rfl qh_ qi_ (Or.inr ⟨qr_, rfl⟩) ?_ ?_; rotate_left; exact qa_
      refine pure_ (i := 37) (N := some 47) (v := undef) (a' := ?_) b59_38 rfl rfl qh_ qi_ (Or.inr ⟨qr_, rfl⟩) ?_ ?_; rotate_left; exact qa_
      refine pure_ (i := 38) (N := some 48) (v := undef) (a' := ?_) b59_39 rfl rfl qh_ qi_ (Or.inr ⟨qr_, rfl⟩) ?_ ?_; rotate_left; exact qa_
      refine pure_ (i := 39) (N := some 49) (v := undef) (a' := ?_) b59_40 rfl rfl qh_ qi_ (Or.inr ⟨qr_, rfl⟩) ?_ ?_; rotate_left; exact qa_
      refine pure_ (i := 40) (N := some 50) (v := undef) (a' := ?_) b59_41 rfl rfl qh_ qi_ (Or.inr ⟨qr_, rfl⟩) ?_ ?_; rotate_left; exact qa_
      refine pure_ (i := 41) (N := some 51) (v := undef) (a' := ?_) b59_42 rfl rfl qh_ qi_ (Or.inr ⟨qr_, rfl⟩) ?_ ?_; rotate_left; exact qa_
      refine pure_ (i := 42) (N := some 52) (v := ?_) (a' := ?_) b59_43 rfl rfl qh_ qi_ (Or.inl ⟨qr_, ?_⟩) ?_ ?_; rotate_left; (intro w'; go_simp; with_reducible rfl); rotate_left; exact qa_
      refine done_ (done_of HT_.out (by kernel_rfl)) ?_
      try go_wp2
      go_ret
      exact ⟨q4_, q0_⟩
     ·rw [if_neg c4] at H
      have c4b0 : (((rd_T27 l0 x3_1).f1) == 0) = false := beq_eq_false_iff_ne.mpr c4
      have c4b1 : (((rd_T27 l0 x3_1).f1) != 0) = true := bne_iff_ne.mpr c4
      replace H := Option.bind_eq_some_iff.mp H
      obtain ⟨t238, A60, H⟩ := H
      replace H : (if t238 = true then ((corollaryref13_right.f k1 ((rd_T27 l0 x3_1).f0)).bind fun t240 => (if t240 = true then (if x3_1 > 0 then (if 0 ≤ (wrap64 (x3_1 - 1)) then (if (wrap64 (x3_1 - 1)) < (l0.length : Int) then ((corollaryref01_Rows.f k1 ((rd_T27 l0 (wrap64 (x3_1 - 1))).f0) ((rd_T27 l0 x3_1).f0)).bind fun t243 => (if t243 = (-1) then (corollaryref13_Right.l0 k1 l0 (wrap64 (x3_1 + 1))) else (some false))) else (none)) else (none)) else (corollaryref13_Right.l0 k1 l0 (wrap64 (x3_1 + 1)))) else (some false))) else (some false)) = some r := H
      have A6 := Aside0.mk A60
      clear A60
      by_cases c7 : t238 = true
      ·subst c7
       replace H := ifT_ H
       replace H := Option.bind_eq_some_iff.mp H
       obtain ⟨t240, A80, H⟩ := H
       replace H : (if t240 = true then (if x3_1 > 0 then (if 0 ≤ (wrap64 (x3_1 - 1)) then (if (wrap64 (x3_1 - 1)) < (l0.length : Int) then ((corollaryref01_Rows.f k1 ((rd_T27 l0 (wrap64 (x3_1 - 1))).f0) ((rd_T27 l0 x3_1).f0)).bind fun t243 => (if t243 = (-1) then (corollaryref13_Right.l0 k1 l0 (wrap64 (x3_1 + 1))) else (some false))) else (none)) else (none)) else (corollaryref13_Right.l0 k1 l0 (wrap64 (x3_1 + 1)))) else (some false)) = some r := H
       have A8 := Aside0.mk A80
       clear A80
       by_cases c9 : t240 = true
       ·subst c9
        replace H := ifT_ H
        by_cases c10 : x3_1 > 0
        ·rw [if_pos c10] at H
         have c10b0 : decide (0 < x3_1) = true := decide_eq_true c10
         clear c10
         obtain ⟨ji11, hji11⟩ : ∃ j_ : Int, (wrap64 (x3_1 - 1)) = j_ := ⟨_, rfl⟩
         replace H : (if 0 ≤ (ji11) then (if (ji11) < (l0.length : Int) then ((corollaryref01_Rows.f k1 ((rd_T27 l0 (ji11)).f0) ((rd_T27 l0 x3_1).f0)).bind fun t243 => (if t243 = (-1) then (corollaryref13_Right.l0 k1 l0 (wrap64 (x3_1 + 1))) else (some false))) else (none)) else (none)) = some r := by first | (rw [hji11] at H; exact H) | (simp only [hji11] at H ⊢; exact H)
         (try rw [hji11] at A6)
         (try rw [hji11] at A8)
         have hji11w : (IntKind.i64.wrap (x3_1 - 1)) = ji11 := (i64_w _).trans hji11
         by_cases c12 : 0 ≤ (ji11)
         ·rw [if_pos c12] at H
          have c12b0 : decide (0 ≤ (ji11)) = true := decide_eq_true c12
          clear c12
          by_cases c13 : (ji11) < (l0.length : Int)
          ·rw [if_pos c13] at H
           have c13b0 : decide ((ji11) < (l0.length : Int)) = true := decide_eq_true c13
           clear c13
           replace H := Option.bind_eq_some_iff.mp H
           obtain ⟨t243, A140, H⟩ := H
           replace H : (if t243 = (-1) then (corollaryref13_Right.l0 k1 l0 (wrap64 (x3_1 + 1))) else (some false)) = some r := H
           have A14 := Aside0.mk A140
           clear A140
           by_cases c15 : t243 = (-1)
           ·rw [if_pos c15] at H
            have c15b0 : (t243 == (-1)) = true := beq_iff_eq.mpr c15
            have c15b1 : (t243 != (-1)) = false := bne_eq_false_iff_eq.mpr c15
            clear c15
            have H' := Aside0.mk H
            clear H
            try go_wp2
            have n0_ := Aside0.mk (below_drew1 HB.out)
            clear HB
            have HB := n0_
            clear n0_
            have p236 : 0 ≤ (x3_1 : Int) := of_decide_eq_true q5_
            have q236 : x3_1 < (l0.length : Int) := of_decide_eq_true q5_
            obtain ⟨ad236, A236_0, c236_0, e236, hx236_0, hx236_1, hl236_0, hi236_0⟩ := at_T27 HR0.out x3_1 p236 q236
            have hw236_1 := hx236_1
            have hw236_0 := hx236_0
            cases e236
            replace hx236_0 := (HB.out.cell (World.block_lt_of_cell? w _ hx236_0)).trans hx236_0
            replace hx236_1 := (HB.out.cell (World.block_lt_of_cell? w _ hx236_1)).trans hx236_1
            have HR236_0 := Aside0.mk hi236_0
            have HC236_0 := Aside0.mk hl236_0
            clear hi236_0 hl236_0
            replace p236 := eq_true p236
            replace q236 := eq_true q236
            have p237 : 0 ≤ (x3_1 : Int) := of_decide_eq_true q5_
            have q237 : x3_1 < (l0.length : Int) := of_decide_eq_true q5_
            obtain ⟨ad237, A237_0, c237_0, e237, hx237_0, hx237_1, hl237_0, hi237_0⟩ := at_T27 HR0.out x3_1 p237 q237
            have hw237_1 := hx237_1
            have hw237_0 := hx237_0
            obtain rfl : ad236 = ad237 := (by injection e237)
            replace hx237_0 := (HB.out.cell (World.block_lt_of_cell? w _ hx237_0)).trans hx237_0
            replace hx237_1 := (HB.out.cell (World.block_lt_of_cell? w _ hx237_1)).trans hx237_1
            have HR237_0 := Aside0.mk hi237_0
            have HC237_0 := Aside0.mk hl237_0
            clear hi237_0 hl237_0
            replace p237 := eq_true p237
            replace q237 := eq_true q237
            have ea_ := Option.some.inj (hx236_0.symm.trans hx237_0)
            injection ea_ with ea_ en_ ec_
            subst ea_
            subst ec_
            clear en_
            have p239 : 0 ≤ (x3_1 : Int) := of_decide_eq_true q5_
            have q239 : x3_1 < (l0.length : Int) := of_decide_eq_true q5_
            obtain ⟨ad239, A239_0, c239_0, e239, hx239_0, hx239_1, hl239_0, hi239_0⟩ := at_T27 HR0.out x3_1 p239 q239
            have hw239_1 := hx239_1
            have hw239_0 := hx239_0
            obtain rfl : ad236 = ad239 := (by injection e239)
            replace hx239_0 := (HB.out.cell (World.block_lt_of_cell? w _ hx239_0)).trans hx239_0
            replace hx239_1 := (HB.out.cell (World.block_lt_of_cell? w _ hx239_1)).trans hx239_1
            have HR239_0 := Aside0.mk hi239_0
            have HC239_0 := Aside0.mk hl239_0
            clear hi239_0 hl239_0
            replace p239 := eq_true p239
            replace q239 := eq_true q239
            have ea_ := Option.some.inj (hx236_0.symm.trans hx239_0)
            injection ea_ with ea_ en_ ec_
            subst ea_
            subst ec_
            clear en_
            have p241 : 0 ≤ ((ji11) : Int) := of_decide_eq_true q5_
            have q241 : (ji11) < (l0.length : Int) := of_decide_eq_true q5_
            obtain ⟨ad241, A241_0, c241_0, e241, hx241_0, hx241_1, hl241_0, hi241_0⟩ := at_T27 HR0.out (ji11) p241 q241
            have hw241_1 := hx241_1
            have hw241_0 := hx241_0
            obtain rfl : ad236 = ad241 := (by injection e241)
            replace hx241_0 := (HB.out.cell (World.block_lt_of_cell? w _ hx241_0)).trans hx241_0
            replace hx241_1 := (HB.out.cell (World.block_lt_of_cell? w _ hx241_1)).trans hx241_1
            have HR241_0 := Aside0.mk hi241_0
            have HC241_0 := Aside0.mk hl241_0
            clear hi241_0 hl241_0
            replace p241 := eq_true p241
            replace q241 := eq_true q241
            have p242 : 0 ≤ (x3_1 : Int) := of_decide_eq_true q5_
            have q242 : x3_1 < (l0.length : Int) := of_decide_eq_true q5_
            obtain ⟨ad242, A242_0, c242_0, e242, hx242_0, hx242_1, hl242_0, hi242_0⟩ := at_T27 HR0.out x3_1 p242 q242
            have hw242_1 := hx242_1
            have hw242_0 := hx242_0
            obtain rfl : ad236 = ad242 := (by injection e242)
            obtain ⟨rfl, rfl⟩ : A236_0 = A242_0 ∧ c236_0 = c242_0 := (by have hs_ := (by first | exact hw236_0.symm.trans hw242_0 | exact hx236_0.symm.trans hx242_0 : some (Value.slice A236_0 _ c236_0) = some (Value.slice A242_0 _ c242_0)); injection hs_ with hs_; injection hs_ with h1_ _ h3_; exact ⟨h1_, h3_⟩)
            replace hx242_0 := (HB.out.cell (World.block_lt_of_cell? w _ hx242_0)).trans hx242_0
            replace hx242_1 := (HB.out.cell (World.block_lt_of_cell? w _ hx242_1)).trans hx242_1
            have HR242_0 := Aside0.mk hi242_0
            have HC242_0 := Aside0.mk hl242_0
            clear hi242_0 hl242_0
            replace p242 := eq_true p242
            replace q242 := eq_true q242
            refine start_ (n := 43) (S := fun w' => w'.cell? (ad236.add ((x3_1).toNat * 2)) = some (.slice A236_0 ((rd_T27 l0 x3_1).f0).length c236_0) ∧ w'.cell? ⟨(ad236.add ((x3_1).toNat * 2)).block, (ad236.add ((x3_1).toNat * 2)).off + 1, none⟩ = some (.int .i64 ((rd_T27 l0 x3_1).f1)) ∧ w'.cell? (ad236.add ((x3_1).toNat * 2)) = some (.slice A236_0 ((rd_T27 l0 x3_1).f0).length c236_0) ∧ w'.cell? ⟨(ad236.add ((x3_1).toNat * 2)).block, (ad236.add ((x3_1).toNat * 2)).off + 1, none⟩ = some (.int .i64 ((rd_T27 l0 x3_1).f1)) ∧ w'.cell? (ad236.add ((x3_1).toNat * 2)) = some (.slice A236_0 ((rd_T27 l0 x3_1).f0).length c236_0) ∧ w'.cell? ⟨(ad236.add ((x3_1).toNat * 2)).block, (ad236.add ((x3_1).toNat * 2)).off + 1, none⟩ = some (.int .i64 ((rd_T27 l0 x3_1).f1)) ∧ w'.cell? (ad236.add (((ji11)).toNat * 2)) = some (.slice A241_0 ((rd_T27 l0 (ji11)).f0).length c241_0) ∧ w'.cell? ⟨(ad236.add (((ji11)).toNat * 2)).block, (ad236.add (((ji11)).toNat * 2)).off + 1, none⟩ = some (.int .i64 ((rd_T27 l0 (ji11)).f1)) ∧ w'.cell? (ad236.add ((x3_1).toNat * 2)) = some (.slice A236_0 ((rd_T27 l0 x3_1).f0).length c236_0) ∧ w'.cell? ⟨(ad236.add ((x3_1).toNat * 2)).block, (ad236.add ((x3_1).toNat * 2)).off + 1, none⟩ = some (.int .i64 ((rd_T27 l0 x3_1).f1))) (ds := []) b59_0 (by kernel_rfl) rfl rfl ⟨((HB.out.cell (World.block_lt_of_cell? w _ hw236_0)).trans hw236_0), ((HB.out.cell (World.block_lt_of_cell? w _ hw236_1)).trans hw236_1), ((HB.out.cell (World.block_lt_of_cell? w _ hw237_0)).trans hw237_0), ((HB.out.cell (World.block_lt_of_cell? w _ hw237_1)).trans hw237_1), ((HB.out.cell (World.block_lt_of_cell? w _ hw239_0)).trans hw239_0), ((HB.out.cell (World.block_lt_of_cell? w _ hw239_1)).trans hw239_1), ((HB.out.cell (World.block_lt_of_cell? w _ hw241_0)).trans hw241_0), ((HB.out.cell (World.block_lt_of_cell? w _ hw241_1)).trans hw241_1), ((HB.out.cell (World.block_lt_of_cell? w _ hw242_0)).trans hw242_0), ((HB.out.cell (World.block_lt_of_cell? w _ hw242_1)).trans hw242_1)⟩ (fun hHeld => ?_); refine with_tabW corollaryref13_Right.tab4 corollaryref13_Right.bits4 (fun HT_ HW_ => ?_)
            generalize wr.drew = w16 at HB HR236_0 HR237_0 HR239_0 HR241_0 HR242_0 hx236_0 hx236_1 hx237_0 hx237_1 hx239_0 hx239_1 hx241_0 hx241_1 hx242_0 hx242_1 hHeld ⊢
            refine pure_ (i := 0) (N := some 10) (v := ?_) (a' := ?_) b59_1 rfl rfl qh_ qi_ (Or.inl ⟨qr_, ?_⟩) ?_ ?_; rotate_left; (intro w'; go_simp; with_reducible rfl); rotate_left; exact qa_
            refine pure_ (i := 1) (N := some 11) (v := ?_) (a' := ?_) b59_2 rfl rfl qh_ qi_ (Or.inl ⟨qr_, ?_⟩) ?_ ?_; rotate_left; (intro w'; go_simp; with_reducible rfl); rotate_left; exact qa_
            refine pure_ (i := 2) (N := some 12) (v := ?_) (a' := ?_) b59_3 rfl rfl qh_ qi_ (Or.inl ⟨qr_, ?_⟩) ?_ ?_; rotate_left; (intro w'; go_simp; with_reducible rfl); rotate_left; exact qa_
            refine pure_ (i := 3) (N := some 13) (v := ?_) (a' := ?_) b59_4 rfl rfl qh_ qi_ (Or.inl ⟨qr_, ?_⟩) ?_ ?_; rotate_left; (intro w'; go_simp; with_reducible rfl); rotate_left; exact qa_
            refine take_ (i := 4) (N := some 14) (v := ?_) (a' := ?_) b59_5 rfl rfl (take_ofW HT_.out HW_.out (by kernel_rfl)) (fun _ _ _ h => h) (Or.inl ⟨by rfl, ?_⟩) hHeld ?_ ?_; rotate_left; (rintro w' ⟨s0, s1, s2, s3, s4, s5, s6, s7, s8, s9⟩; go_simp; with_reducible rfl); rotate_left; exact qa_
            refine pure_ (i := 5) (N := some 15) (v := ?_) (a' := ?_) b59_6 rfl rfl qh_ qi_ (Or.inl ⟨qr_, ?_⟩) ?_ ?_; rotate_left; (intro w'; go_simp; with_reducible rfl); rotate_left; exact qa_
            refine pure_ (i := 6) (N := some 16) (v := ?_) (a' := ?_) b59_7 rfl rfl qh_ qi_ (Or.inl ⟨qr_, ?_⟩) ?_ ?_; rotate_left; (intro w'; go_simp; with_reducible rfl); rotate_left; exact qa_
            refine pure_ (i := 7) (N := some 17) (v := ?_) (a' := ?_) b59_8 rfl rfl qh_ qi_ (Or.inl ⟨qr_, ?_⟩) ?_ ?_; rotate_left; (intro w'; go_simp; with_reducible rfl); rotate_left; exact qa_
            refine pure_ (i := 8) (N := some 18) (v := ?_) (a' := ?_) b59_9 rfl rfl qh_ qi_ (Or.inl ⟨qr_, ?_⟩) ?_ ?_; rotate_left; (intro w'; go_simp; with_reducible rfl); rotate_left; exact qa_
            refine pure_ (i := 9) (N := some 19) (v := ?_) (a' := ?_) b59_10 rfl rfl qh_ qi_ (Or.inl ⟨qr_, ?_⟩) ?_ ?_; rotate_left; (intro w'; go_simp; with_reducible rfl); rotate_left; exact qa_
            refine pure_ (i := 10) (N := some 20) (v := ?_) (a' := ?_) b59_11 rfl rfl qh_ qi_ (Or.inl ⟨qr_, ?_⟩) ?_ ?_; rotate_left; (intro w'; go_simp; with_reducible rfl); rotate_left; exact qa_
            refine take_ (i := 11) (N := some 21) (v := ?_) (a' := ?_) b59_12 rfl rfl (take_ofW HT_.out HW_.out (by kernel_rfl)) (fun _ _ _ h => h) (Or.inl ⟨by rfl, ?_⟩) hHeld ?_ ?_; rotate_left; (rintro w' ⟨s0, s1, s2, s3, s4, s5, s6, s7, s8, s9⟩; go_simp; with_reducible rfl); rotate_left; exact qa_
            refine one_ (i := 12) (N := some 22) b59_13 rfl rfl (one_of HT_.out (by kernel_rfl)) (by decide) (fun K hK => ?_)
            refine goes_ Tryd.func25 (by kernel_rfl) rfl #[.int .i64 ((rd_T27 l0 x3_1).f1)] (by rfl) rfl rfl q2_ ?_
            with_reducible refine (corollaryref13_fits.calls ((rd_T27 l0 x3_1).f1) true _ A6.out).mono ?_
            rintro e w' ⟨rfl, ⟨nd, rfl⟩⟩
            refine ⟨_, rfl, ?_⟩
            refine hK.out _ _ ⟨((HB.out.cell (World.block_lt_of_cell? w _ hw236_0)).trans hw236_0), ((HB.out.cell (World.block_lt_of_cell? w _ hw236_1)).trans hw236_1), ((HB.out.cell (World.block_lt_of_cell? w _ hw237_0)).trans hw237_0), ((HB.out.cell (World.block_lt_of_cell? w _ hw237_1)).trans hw237_1), ((HB.out.cell (World.block_lt_of_cell? w _ hw239_0)).trans hw239_0), ((HB.out.cell (World.block_lt_of_cell? w _ hw239_1)).trans hw239_1), ((HB.out.cell (World.block_lt_of_cell? w _ hw241_0)).trans hw241_0), ((HB.out.cell (World.block_lt_of_cell? w _ hw241_1)).trans hw241_1), ((HB.out.cell (World.block_lt_of_cell? w _ hw242_0)).trans hw242_0), ((HB.out.cell (World.block_lt_of_cell? w _ hw242_1)).trans hw242_1)⟩ (fun hHeld => ?_)
            clear hK K
            refine norm_ (a' := ?_) ?_ ?_
            rotate_left
            ·show Act.put _ (some 22) _ = _
             simp only [Act.put, List.setIfInBounds_toArray, List.set_cons_zero, List.set_cons_succ, i64_w, i32_w]
             rfl
            refine pure_ (i := 13) (N := some 23) (v := ?_) (a' := ?_) b59_14 rfl rfl qh_ qi_ (Or.inl ⟨qr_, ?_⟩) ?_ ?_; rotate_left; (intro w'; go_simp; with_reducible rfl); rotate_left; exact qa_
            refine pure_ (i := 14) (N := some 24) (v := ?_) (a' := ?_) b59_15 rfl rfl qh_ qi_ (Or.inl ⟨qr_, ?_⟩) ?_ ?_; rotate_left; (intro w'; go_simp; with_reducible rfl); rotate_left; exact qa_
            refine pure_ (i := 15) (N := some 25) (v := ?_) (a' := ?_) b59_16 rfl rfl qh_ qi_ (Or.inl ⟨qr_, ?_⟩) ?_ ?_; rotate_left; (intro w'; go_simp; with_reducible rfl); rotate_left; exact qa_
            refine pure_ (i := 16) (N := some 26) (v := ?_) (a' := ?_) b59_17 rfl rfl qh_ qi_ (Or.inl ⟨qr_, ?_⟩) ?_ ?_; rotate_left; (intro w'; go_simp; with_reducible rfl); rotate_left; exact qa_
            refine pure_ (i := 17) (N := some 27) (v := ?_) (a' := ?_) b59_18 rfl rfl qh_ qi_ (Or.inl ⟨qr_, ?_⟩) ?_ ?_; rotate_left; (intro w'; go_simp; with_reducible rfl); rotate_left; exact qa_
            refine pure_ (i := 18) (N := some 28) (v := ?_) (a' := ?_) b59_19 rfl rfl qh_ qi_ (Or.inl ⟨qr_, ?_⟩) ?_ ?_; rotate_left; (intro w'; go_simp; with_reducible rfl); rotate_left; exact qa_
            refine pure_ (i := 19) (N := some 29) (v := ?_) (a' := ?_) b59_20 rfl rfl qh_ qi_ (Or.inl ⟨qr_, ?_⟩) ?_ ?_; rotate_left; (intro w'; go_simp; with_reducible rfl); rotate_left; exact qa_
            refine take_ (i := 20) (N := some 30) (v := ?_) (a' := ?_) b59_21 rfl rfl (take_ofW HT_.out HW_.out (by kernel_rfl)) (fun _ _ _ h => h) (Or.inl ⟨by rfl, ?_⟩) hHeld ?_ ?_; rotate_left; (rintro w' ⟨s0, s1, s2, s3, s4, s5, s6, s7, s8, s9⟩; go_simp; with_reducible rfl); rotate_left; exact qa_
            refine one_ (i := 21) (N := some 31) b59_22 rfl rfl (one_of HT_.out (by kernel_rfl)) (by decide) (fun K hK => ?_)
            refine goes_ Tryd.func26 (by kernel_rfl) rfl #[.slice A236_0 ((rd_T27 l0 x3_1).f0).length c236_0] (by rfl) rfl rfl q2_ ?_
            with_reducible refine (corollaryref13_right.calls k1 _ _ ((rd_T27 l0 x3_1).f0) true _ ?side1 ?side2 A8.out).mono ?_
            (case side1 => repeat (first | exact (Kd.C_below HR239_0.out q0_) | (with_reducible refine Kd.C_alloc ?_ _) | (with_reducible refine Kd.C_drewN ?_ _) | (with_reducible refine Kd.C_drew ?_)))
            (case side2 => exact HC239_0.out)
            rintro e w17 ⟨rfl, hb⟩
            refine ⟨_, rfl, ?_⟩
            have n0_ := Aside0.mk (below_step q0_ hb)
            clear HB
            have HB := n0_
            clear n0_
            (try clear hb)
            (try clear hb2)
            (try clear hk)
            (try clear hi)
            refine hK.out _ _ ⟨((HB.out.cell (World.block_lt_of_cell? w _ hw236_0)).trans hw236_0), ((HB.out.cell (World.block_lt_of_cell? w _ hw236_1)).trans hw236_1), ((HB.out.cell (World.block_lt_of_cell? w _ hw237_0)).trans hw237_0), ((HB.out.cell (World.block_lt_of_cell? w _ hw237_1)).trans hw237_1), ((HB.out.cell (World.block_lt_of_cell? w _ hw239_0)).trans hw239_0), ((HB.out.cell (World.block_lt_of_cell? w _ hw239_1)).trans hw239_1), ((HB.out.cell (World.block_lt_of_cell? w _ hw241_0)).trans hw241_0), ((HB.out.cell (World.block_lt_of_cell? w _ hw241_1)).trans hw241_1), ((HB.out.cell (World.block_lt_of_cell? w _ hw242_0)).trans hw242_0), ((HB.out.cell (World.block_lt_of_cell? w _ hw242_1)).trans hw242_1)⟩ (fun hHeld => ?_)
            clear hK K
            refine norm_ (a' := ?_) ?_ ?_
            rotate_left
            ·show Act.put _ (some 31) _ = _
             simp only [Act.put, List.setIfInBounds_toArray, List.set_cons_zero, List.set_cons_succ, i64_w, i32_w]
             rfl
            refine pure_ (i := 22) (N := some 32) (v := ?_) (a' := ?_) b59_23 rfl rfl qh_ qi_ (Or.inl ⟨qr_, ?_⟩) ?_ ?_; rotate_left; (intro w'; go_simp; with_reducible rfl); rotate_left; exact qa_
            refine pure_ (i := 23) (N := some 33) (v := ?_) (a' := ?_) b59_24 rfl rfl qh_ qi_ (Or.inl ⟨qr_, ?_⟩) ?_ ?_; rotate_left; (intro w'; go_simp; with_reducible rfl); rotate_left; exact qa_
            refine pure_ (i := 24) (N := some 34) (v := ?_) (a' := ?_) b59_25 rfl rfl qh_ qi_ (Or.inl ⟨qr_, ?_⟩) ?_ ?_; rotate_left; (intro w'; go_simp; with_reducible rfl); rotate_left; exact qa_
            refine pure_ (i := 25) (N := some 35) (v := ?_) (a' := ?_) b59_26 rfl rfl qh_ qi_ (Or.inl ⟨qr_, ?_⟩) ?_ ?_; rotate_left; (intro w'; go_simp; with_reducible rfl); rotate_left; exact qa_
            refine pure_ (i := 26) (N := some 36) (v := ?_) (a' := ?_) b59_27 rfl rfl qh_ qi_ (Or.inl ⟨qr_, ?_⟩) ?_ ?_; rotate_left; (intro w'; go_simp; with_reducible rfl); rotate_left; exact qa_
            refine pure_ (i := 27) (N := some 37) (v := ?_) (a' := ?_) b59_28 rfl rfl qh_ qi_ (Or.inl ⟨qr_, ?_⟩) ?_ ?_; rotate_left; (intro w'; go_simp; with_reducible rfl); rotate_left; exact qa_
            refine pure_ (i := 28) (N := some 38) (v := ?_) (a' := ?_) b59_29 rfl rfl qh_ qi_ (Or.inl ⟨qr_, ?_⟩) ?_ ?_; rotate_left; (intro w'; go_simp; with_reducible rfl); rotate_left; exact qa_
            refine pure_ (i := 29) (N := some 39) (v := ?_) (a' := ?_) b59_30 rfl rfl qh_ qi_ (Or.inl ⟨qr_, ?_⟩) ?_ ?_; rotate_left; (intro w'; go_simp; with_reducible rfl); rotate_left; exact qa_
            refine pure_ (i := 30) (N := some 40) (v := ?_) (a' := ?_) b59_31 rfl rfl qh_ qi_ (Or.inl ⟨qr_, ?_⟩) ?_ ?_; rotate_left; (intro w'; go_simp; with_reducible rfl); rotate_left; exact qa_
            refine pure_ (i := 31) (N := some 41) (v := ?_) (a' := ?_) b59_32 rfl rfl qh_ qi_ (Or.inl ⟨qr_, ?_⟩) ?_ ?_; rotate_left; (intro w'; go_simp; with_reducible rfl); rotate_left; exact qa_
            refine pure_ (i := 32) (N := some 42) (v := ?_) (a' := ?_) b59_33 rfl rfl qh_ qi_ (Or.inl ⟨qr_, ?_⟩) ?_ ?_; rotate_left; (intro w'; go_simp; with_reducible rfl); rotate_left; exact qa_
            refine pure_ (i := 34) (N := some 44) (v := ?_) (a' := ?_) b59_44 rfl rfl qh_ qi_ (Or.inl ⟨qr_, ?_⟩) ?_ ?_; rotate_left; (intro w'; go_simp; with_reducible rfl); rotate_left; exact qa_
            refine pure_ (i := 35) (N := some 45) (v := ?_) (a' := ?_) b59_45 rfl rfl qh_ qi_ (Or.inl ⟨qr_, ?_⟩) ?_ ?_; rotate_left; (intro w'; go_simp; with_reducible rfl); rotate_left; exact qa_
            refine pure_ (i := 36) (N := some 46) (v := ?_) (a' := ?_) b59_46 rfl rfl qh_ qi_ (Or.inl ⟨qr_, ?_⟩) ?_ ?_; rotate_left; (intro w'; go_simp; with_reducible rfl); rotate_left; exact qa_
            refine pure_ (i := 37) (N := some 47) (v := ?_) (a' := ?_) b59_47 rfl rfl qh_ qi_ (Or.inl ⟨qr_, ?_⟩) ?_ ?_; rotate_left; (intro w'; go_simp; with_reducible rfl); rotate_left; exact qa_
            refine take_ (i := 33) (N := some 43) (v := ?_) (a' := ?_) b59_38 rfl rfl (take_ofW HT_.out HW_.out (by kernel_rfl)) (fun _ _ _ h => h) (Or.inl ⟨by rfl, ?_⟩) hHeld ?_ ?_; rotate_left; (rintro w' ⟨s0, s1, s2, s3, s4, s5, s6, s7, s8, s9⟩; go_simp; with_reducible rfl); rotate_left; exact qa_
            refine take_ (i := 38) (N := some 48) (v := ?_) (a' := ?_) b59_39 rfl rfl (take_ofW HT_.out HW_.out (by kernel_rfl)) (fun _ _ _ h => h) (Or.inl ⟨by rfl, ?_⟩) hHeld ?_ ?_; rotate_left; (rintro w' ⟨s0, s1, s2, s3, s4, s5, s6, s7, s8, s9⟩; go_simp; with_reducible rfl); rotate_left; exact qa_
            refine one_ (i := 39) (N := some 49) b59_40 rfl rfl (one_of HT_.out (by kernel_rfl)) (by decide) (fun K hK => ?_)
            refine goes_ Tryd.func27 (by kernel_rfl) rfl #[.slice A241_0 ((rd_T27 l0 (ji11)).f0).length c241_0, .slice A236_0 ((rd_T27 l0 x3_1).f0).length c236_0] (by rfl) rfl rfl (by (try simp only [List.map_toArray, List.map_cons, List.map_nil]); first | done | (simp only [hji11]; rfl) | rfl | (simp only [List.length_drop, List.length_take]; rfl)) ?_
            with_reducible refine (corollaryref01_Rows.calls k1 _ _ ((rd_T27 l0 (ji11)).f0) _ _ ((rd_T27 l0 x3_1).f0) t243 _ ?side1 ?side2 ?side3 ?side4 A14.out).mono ?_
            (case side1 => repeat (first | exact (Kd.C_below HR241_0.out HB.out) | (with_reducible refine Kd.C_alloc ?_ _) | (with_reducible refine Kd.C_drewN ?_ _) | (with_reducible refine Kd.C_drew ?_)))
            (case side2 => exact HC241_0.out)
            (case side3 => repeat (first | exact (Kd.C_below HR242_0.out HB.out) | (with_reducible refine Kd.C_alloc ?_ _) | (with_reducible refine Kd.C_drewN ?_ _) | (with_reducible refine Kd.C_drew ?_)))
            (case side4 => exact HC242_0.out)
            rintro e w18 ⟨rfl, hb⟩
            refine ⟨_, rfl, ?_⟩
            have n0_ := Aside0.mk (below_step q0_ hb)
            clear HB
            have HB := n0_
            clear n0_
            (try clear hb)
            (try clear hb2)
            (try clear hk)
            (try clear hi)
            refine hK.out _ _ ⟨((HB.out.cell (World.block_lt_of_cell? w _ hw236_0)).trans hw236_0), ((HB.out.cell (World.block_lt_of_cell? w _ hw236_1)).trans hw236_1), ((HB.out.cell (World.block_lt_of_cell? w _ hw237_0)).trans hw237_0), ((HB.out.cell (World.block_lt_of_cell? w _ hw237_1)).trans hw237_1), ((HB.out.cell (World.block_lt_of_cell? w _ hw239_0)).trans hw239_0), ((HB.out.cell (World.block_lt_of_cell? w _ hw239_1)).trans hw239_1), ((HB.out.cell (World.block_lt_of_cell? w _ hw241_0)).trans hw241_0), ((HB.out.cell (World.block_lt_of_cell? w _ hw241_1)).trans hw241_1), ((HB.out.cell (World.block_lt_of_cell? w _ hw242_0)).trans hw242_0), ((HB.out.cell (World.block_lt_of_cell? w _ hw242_1)).trans hw242_1)⟩ (fun hHeld => ?_)
            clear hK K
            refine norm_ (a' := ?_) ?_ ?_
            rotate_left
            ·show Act.put _ (some 49) _ = _
             simp only [Act.put, List.setIfInBounds_toArray, List.set_cons_zero, List.set_cons_succ, i64_w, i32_w]
             rfl
            refine pure_ (i := 40) (N := some 50) (v := ?_) (a' := ?_) b59_41 rfl rfl qh_ qi_ (Or.inl ⟨qr_, ?_⟩) ?_ ?_; rotate_left; (intro w'; go_simp; with_reducible rfl); rotate_left; exact qa_
            refine pure_ (i := 41) (N := some 51) (v := ?_) (a' := ?_) b59_42 rfl rfl qh_ qi_ (Or.inl ⟨qr_, ?_⟩) ?_ ?_; rotate_left; (intro w'; go_simp; with_reducible rfl); rotate_left; exact qa_
            refine pure_ (i := 42) (N := some 52) (v := ?_) (a' := ?_) b59_43 rfl rfl qh_ qi_ (Or.inl ⟨qr_, ?_⟩) ?_ ?_; rotate_left; (intro w'; go_simp; with_reducible rfl); rotate_left; exact qa_
            refine done_ (done_of HT_.out (by kernel_rfl)) ?_
            try go_wp2
            go_roundg k1
            case measure => have := HK1.out; omega
            case rel => exact ⟨(wrap64 (x3_1 + 1)), q9_, H', ⟨by have := HK1.out; omega⟩, ⟨q0_⟩⟩
           ·rw [if_neg c15] at H
            have c15b0 : (t243 == (-1)) = false := beq_eq_false_iff_ne.mpr c15
            have c15b1 : (t243 != (-1)) = true := bne_iff_ne.mpr c15
            obtain rfl := Option.some.inj H
            try go_wp2
            have n0_ := Aside0.mk (below_drew1 HB.out)
            clear HB
            have HB := n0_
            clear n0_
            have p236 : 0 ≤ (x3_1 : Int) := of_decide_eq_true q5_
            have q236 : x3_1 < (l0.length : Int) := of_decide_eq_true q5_
            obtain ⟨ad236, A236_0, c236_0, e236, hx236_0, hx236_1, hl236_0, hi236_0⟩ := at_T27 HR0.out x3_1 p236 q236
            have hw236_1 := hx236_1
            have hw236_0 := hx236_0
            cases e236
            replace hx236_0 := (HB.out.cell (World.block_lt_of_cell? w _ hx236_0)).trans hx236_0
            replace hx236_1 := (HB.out.cell (World.block_lt_of_cell? w _ hx236_1)).trans hx236_1
            have HR236_0 := Aside0.mk hi236_0
            have HC236_0 := Aside0.mk hl236_0
            clear hi236_0 hl236_0
            replace p236 := eq_true p236
            replace q236 := eq_true q236
            have p237 : 0 ≤ (x3_1 : Int) := of_decide_eq_true q5_
            have q237 : x3_1 < (l0.length : Int) := of_decide_eq_true q5_
            obtain ⟨ad237, A237_0, c237_0, e237, hx237_0, hx237_1, hl237_0, hi237_0⟩ := at_T27 HR0.out x3_1 p237 q237
            have hw237_1 := hx237_1
            have hw237_0 := hx237_0
            obtain rfl : ad236 = ad237 := (by injection e237)
            replace hx237_0 := (HB.out.cell (World.block_lt_of_cell? w _ hx237_0)).trans hx237_0
            replace hx237_1 := (HB.out.cell (World.block_lt_of_cell? w _ hx237_1)).trans hx237_1
            have HR237_0 := Aside0.mk hi237_0
            have HC237_0 := Aside0.mk hl237_0
            clear hi237_0 hl237_0
            replace p237 := eq_true p237
            replace q237 := eq_true q237
            have ea_ := Option.some.inj (hx236_0.symm.trans hx237_0)
            injection ea_ with ea_ en_ ec_
            subst ea_
            subst ec_
            clear en_
            have p239 : 0 ≤ (x3_1 : Int) := of_decide_eq_true q5_
            have q239 : x3_1 < (l0.length : Int) := of_decide_eq_true q5_
            obtain ⟨ad239, A239_0, c239_0, e239, hx239_0, hx239_1, hl239_0, hi239_0⟩ := at_T27 HR0.out x3_1 p239 q239
            have hw239_1 := hx239_1
            have hw239_0 := hx239_0
            obtain rfl : ad236 = ad239 := (by injection e239)
            replace hx239_0 := (HB.out.cell (World.block_lt_of_cell? w _ hx239_0)).trans hx239_0
            replace hx239_1 := (HB.out.cell (World.block_lt_of_cell? w _ hx239_1)).trans hx239_1
            have HR239_0 := Aside0.mk hi239_0
            have HC239_0 := Aside0.mk hl239_0
            clear hi239_0 hl239_0
            replace p239 := eq_true p239
            replace q239 := eq_true q239
            have ea_ := Option.some.inj (hx236_0.symm.trans hx239_0)
            injection ea_ with ea_ en_ ec_
            subst ea_
            subst ec_
            clear en_
            have p241 : 0 ≤ ((ji11) : Int) := of_decide_eq_true q5_
            have q241 : (ji11) < (l0.length : Int) := of_decide_eq_true q5_
            obtain ⟨ad241, A241_0, c241_0, e241, hx241_0, hx241_1, hl241_0, hi241_0⟩ := at_T27 HR0.out (ji11) p241 q241
            have hw241_1 := hx241_1
            have hw241_0 := hx241_0
            obtain rfl : ad236 = ad241 := (by injection e241)
            replace hx241_0 := (HB.out.cell (World.block_lt_of_cell? w _ hx241_0)).trans hx241_0
            replace hx241_1 := (HB.out.cell (World.block_lt_of_cell? w _ hx241_1)).trans hx241_1
            have HR241_0 := Aside0.mk hi241_0
            have HC241_0 := Aside0.mk hl241_0
            clear hi241_0 hl241_0
            replace p241 := eq_true p241
            replace q241 := eq_true q241
            have p242 : 0 ≤ (x3_1 : Int) := of_decide_eq_true q5_
            have q242 : x3_1 < (l0.length : Int) := of_decide_eq_true q5_
            obtain ⟨ad242, A242_0, c242_0, e242, hx242_0, hx242_1, hl242_0, hi242_0⟩ := at_T27 HR0.out x3_1 p242 q242
            have hw242_1 := hx242_1
            have hw242_0 := hx242_0
            obtain rfl : ad236 = ad242 := (by injection e242)
            obtain ⟨rfl, rfl⟩ : A236_0 = A242_0 ∧ c236_0 = c242_0 := (by have hs_ := (by first | exact hw236_0.symm.trans hw242_0 | exact hx236_0.symm.trans hx242_0 : some (Value.slice A236_0 _ c236_0) = some (Value.slice A242_0 _ c242_0)); injection hs_ with hs_; injection hs_ with h1_ _ h3_; exact ⟨h1_, h3_⟩)
            replace hx242_0 := (HB.out.cell (World.block_lt_of_cell? w _ hx242_0)).trans hx242_0
            replace hx242_1 := (HB.out.cell (World.block_lt_of_cell? w _ hx242_1)).trans hx242_1
            have HR242_0 := Aside0.mk hi242_0
            have HC242_0 := Aside0.mk hl242_0
            clear hi242_0 hl242_0
            replace p242 := eq_true p242
            replace q242 := eq_true q242
            refine start_ (n := 43) (S := fun w' => w'.cell? (ad236.add ((x3_1).toNat * 2)) = some (.slice A236_0 ((rd_T27 l0 x3_1).f0).length c236_0) ∧ w'.cell? ⟨(ad236.add ((x3_1).toNat * 2)).block, (ad236.add ((x3_1).toNat * 2)).off + 1, none⟩ = some (.int .i64 ((rd_T27 l0 x3_1).f1)) ∧ w'.cell? (ad236.add ((x3_1).toNat * 2)) = some (.slice A236_0 ((rd_T27 l0 x3_1).f0).length c236_0) ∧ w'.cell? ⟨(ad236.add ((x3_1).toNat * 2)).block, (ad236.add ((x3_1).toNat * 2)).off + 1, none⟩ = some (.int .i64 ((rd_T27 l0 x3_1).f1)) ∧ w'.cell? (ad236.add ((x3_1).toNat * 2)) = some (.slice A236_0 ((rd_T27 l0 x3_1).f0).length c236_0) ∧ w'.cell? ⟨(ad236.add ((x3_1).toNat * 2)).block, (ad236.add ((x3_1).toNat * 2)).off + 1, none⟩ = some (.int .i64 ((rd_T27 l0 x3_1).f1)) ∧ w'.cell? (ad236.add (((ji11)).toNat * 2)) = some (.slice A241_0 ((rd_T27 l0 (ji11)).f0).length c241_0) ∧ w'.cell? ⟨(ad236.add (((ji11)).toNat * 2)).block, (ad236.add (((ji11)).toNat * 2)).off + 1, none⟩ = some (.int .i64 ((rd_T27 l0 (ji11)).f1)) ∧ w'.cell? (ad236.add ((x3_1).toNat * 2)) = some (.slice A236_0 ((rd_T27 l0 x3_1).f0).length c236_0) ∧ w'.cell? ⟨(ad236.add ((x3_1).toNat * 2)).block, (ad236.add ((x3_1).toNat * 2)).off + 1, none⟩ = some (.int .i64 ((rd_T27 l0 x3_1).f1))) (ds := []) b59_0 (by kernel_rfl) rfl rfl ⟨((HB.out.cell (World.block_lt_of_cell? w _ hw236_0)).trans hw236_0), ((HB.out.cell (World.block_lt_of_cell? w _ hw236_1)).trans hw236_1), ((HB.out.cell (World.block_lt_of_cell? w _ hw237_0)).trans hw237_0), ((HB.out.cell (World.block_lt_of_cell? w _ hw237_1)).trans hw237_1), ((HB.out.cell (World.block_lt_of_cell? w _ hw239_0)).trans hw239_0), ((HB.out.cell (World.block_lt_of_cell? w _ hw239_1)).trans hw239_1), ((HB.out.cell (World.block_lt_of_cell? w _ hw241_0)).trans hw241_0), ((HB.out.cell (World.block_lt_of_cell? w _ hw241_1)).trans hw241_1), ((HB.out.cell (World.block_lt_of_cell? w _ hw242_0)).trans hw242_0), ((HB.out.cell (World.block_lt_of_cell? w _ hw242_1)).trans hw242_1)⟩ (fun hHeld => ?_); refine with_tabW corollaryref13_Right.tab4 corollaryref13_Right.bits4 (fun HT_ HW_ => ?_)
            generalize wr.drew = w19 at HB HR236_0 HR237_0 HR239_0 HR241_0 HR242_0 hx236_0 hx236_1 hx237_0 hx237_1 hx239_0 hx239_1 hx241_0 hx241_1 hx242_0 hx242_1 hHeld ⊢
            refine pure_ (i := 0) (N := some 10) (v := ?_) (a' := ?_) b59_1 rfl rfl qh_ qi_ (Or.inl ⟨qr_, ?_⟩) ?_ ?_; rotate_left; (intro w'; go_simp; with_reducible rfl); rotate_left; exact qa_
            refine pure_ (i := 1) (N := some 11) (v := ?_) (a' := ?_) b59_2 rfl rfl qh_ qi_ (Or.inl ⟨qr_, ?_⟩) ?_ ?_; rotate_left; (intro w'; go_simp; with_reducible rfl); rotate_left; exact qa_
            refine pure_ (i := 2) (N := some 12) (v := ?_) (a' := ?_) b59_3 rfl rfl qh_ qi_ (Or.inl ⟨qr_, ?_⟩) ?_ ?_; rotate_left; (intro w'; go_simp; with_reducible rfl); rotate_left; exact qa_
            refine pure_ (i := 3) (N := some 13) (v := ?_) (a' := ?_) b59_4 rfl rfl qh_ qi_ (Or.inl ⟨qr_, ?_⟩) ?_ ?_; rotate_left; (intro w'; go_simp; with_reducible rfl); rotate_left; exact qa_
            refine take_ (i := 4) (N := some 14) (v := ?_) (a' := ?_) b59_5 rfl rfl (take_ofW HT_.out HW_.out (by kernel_rfl)) (fun _ _ _ h => h) (Or.inl ⟨by rfl, ?_⟩) hHeld ?_ ?_; rotate_left; (rintro w' ⟨s0, s1, s2, s3, s4, s5, s6, s7, s8, s9⟩; go_simp; with_reducible rfl); rotate_left; exact qa_
            refine pure_ (i := 5) (N := some 15) (v := ?_) (a' := ?_) b59_6 rfl rfl qh_ qi_ (Or.inl ⟨qr_, ?_⟩) ?_ ?_; rotate_left; (intro w'; go_simp; with_reducible rfl); rotate_left; exact qa_
            refine pure_ (i := 6) (N := some 16) (v := ?_) (a' := ?_) b59_7 rfl rfl qh_ qi_ (Or.inl ⟨qr_, ?_⟩) ?_ ?_; rotate_left; (intro w'; go_simp; with_reducible rfl); rotate_left; exact qa_
            refine pure_ (i := 7) (N := some 17) (v := ?_) (a' := ?_) b59_8 rfl rfl qh_ qi_ (Or.inl ⟨qr_, ?_⟩) ?_ ?_; rotate_left; (intro w'; go_simp; with_reducible rfl); rotate_left; exact qa_
            refine pure_ (i := 8) (N := some 18) (v := ?_) (a' := ?_) b59_9 rfl rfl qh_ qi_ (Or.inl ⟨qr_, ?_⟩) ?_ ?_; rotate_left; (intro w'; go_simp; with_reducible rfl); rotate_left; exact qa_
            refine pure_ (i := 9) (N := some 19) (v := ?_) (a' := ?_) b59_10 rfl rfl qh_ qi_ (Or.inl ⟨qr_, ?_⟩) ?_ ?_; rotate_left; (intro w'; go_simp; with_reducible rfl); rotate_left; exact qa_
            refine pure_ (i := 10) (N := some 20) (v := ?_) (a' := ?_) b59_11 rfl rfl qh_ qi_ (Or.inl ⟨qr_, ?_⟩) ?_ ?_; rotate_left; (intro w'; go_simp; with_reducible rfl); rotate_left; exact qa_
            refine take_ (i := 11) (N := some 21) (v := ?_) (a' := ?_) b59_12 rfl rfl (take_ofW HT_.out HW_.out (by kernel_rfl)) (fun _ _ _ h => h) (Or.inl ⟨by rfl, ?_⟩) hHeld ?_ ?_; rotate_left; (rintro w' ⟨s0, s1, s2, s3, s4, s5, s6, s7, s8, s9⟩; go_simp; with_reducible rfl); rotate_left; exact qa_
            refine one_ (i := 12) (N := some 22) b59_13 rfl rfl (one_of HT_.out (by kernel_rfl)) (by decide) (fun K hK => ?_)
            refine goes_ Tryd.func25 (by kernel_rfl) rfl #[.int .i64 ((rd_T27 l0 x3_1).f1)] (by rfl) rfl rfl q2_ ?_
            with_reducible refine (corollaryref13_fits.calls ((rd_T27 l0 x3_1).f1) true _ A6.out).mono ?_
            rintro e w' ⟨rfl, ⟨nd, rfl⟩⟩
            refine ⟨_, rfl, ?_⟩
            refine hK.out _ _ ⟨((HB.out.cell (World.block_lt_of_cell? w _ hw236_0)).trans hw236_0), ((HB.out.cell (World.block_lt_of_cell? w _ hw236_1)).trans hw236_1), ((HB.out.cell (World.block_lt_of_cell? w _ hw237_0)).trans hw237_0), ((HB.out.cell (World.block_lt_of_cell? w _ hw237_1)).trans hw237_1), ((HB.out.cell (World.block_lt_of_cell? w _ hw239_0)).trans hw239_0), ((HB.out.cell (World.block_lt_of_cell? w _ hw239_1)).trans hw239_1), ((HB.out.cell (World.block_lt_of_cell? w _ hw241_0)).trans hw241_0), ((HB.out.cell (World.block_lt_of_cell? w _ hw241_1)).trans hw241_1), ((HB.out.cell (World.block_lt_of_cell? w _ hw242_0)).trans hw242_0), ((HB.out.cell (World.block_lt_of_cell? w _ hw242_1)).trans hw242_1)⟩ (fun hHeld => ?_)
            clear hK K
            refine norm_ (a' := ?_) ?_ ?_
            rotate_left
            ·show Act.put _ (some 22) _ = _
             simp only [Act.put, List.setIfInBounds_toArray, List.set_cons_zero, List.set_cons_succ, i64_w, i32_w]
             rfl
            refine pure_ (i := 13) (N := some 23) (v := ?_) (a' := ?_) b59_14 rfl rfl qh_ qi_ (Or.inl ⟨qr_, ?_⟩) ?_ ?_; rotate_left; (intro w'; go_simp; with_reducible rfl); rotate_left; exact qa_
            refine pure_ (i := 14) (N := some 24) (v := ?_) (a' := ?_) b59_15 rfl rfl qh_ qi_ (Or.inl ⟨qr_, ?_⟩) ?_ ?_; rotate_left; (intro w'; go_simp; with_reducible rfl); rotate_left; exact qa_
            refine pure_ (i := 15) (N := some 25) (v := ?_) (a' := ?_) b59_16 rfl rfl qh_ qi_ (Or.inl ⟨qr_, ?_⟩) ?_ ?_; rotate_left; (intro w'; go_simp; with_reducible rfl); rotate_left; exact qa_
            refine pure_ (i := 16) (N := some 26) (v := ?_) (a' := ?_) b59_17 rfl rfl qh_ qi_ (Or.inl ⟨qr_, ?_⟩) ?_ ?_; rotate_left; (intro w'; go_simp; with_reducible rfl); rotate_left; exact qa_
            refine pure_ (i := 17) (N := some 27) (v := ?_) (a' := ?_) b59_18 rfl rfl qh_ qi_ (Or.inl ⟨qr_, ?_⟩) ?_ ?_; rotate_left; (intro w'; go_simp; with_reducible rfl); rotate_left; exact qa_
            refine pure_ (i := 18) (N := some 28) (v := ?_) (a' := ?_) b59_19 rfl rfl qh_ qi_ (Or.inl ⟨qr_, ?_⟩) ?_ ?_; rotate_left; (intro w'; go_simp; with_reducible rfl); rotate_left; exact qa_
            refine pure_ (i := 19) (N := some 29) (v := ?_) (a' := ?_) b59_20 rfl rfl qh_ qi_ (Or.inl ⟨qr_, ?_⟩) ?_ ?_; rotate_left; (intro w'; go_simp; with_reducible rfl); rotate_left; exact qa_
            refine take_ (i := 20) (N := some 30) (v := ?_) (a' := ?_) b59_21 rfl rfl (take_ofW HT_.out HW_.out (by kernel_rfl)) (fun _ _ _ h => h) (Or.inl ⟨by rfl, ?_⟩) hHeld ?_ ?_; rotate_left; (rintro w' ⟨s0, s1, s2, s3, s4, s5, s6, s7, s8, s9⟩; go_simp; with_reducible rfl); rotate_left; exact qa_
            refine one_ (i := 21) (N := some 31) b59_22 rfl rfl (one_of HT_.out (by kernel_rfl)) (by decide) (fun K hK => ?_)
            refine goes_ Tryd.func26 (by kernel_rfl) rfl #[.slice A236_0 ((rd_T27 l0 x3_1).f0).length c236_0] (by rfl) rfl rfl q2_ ?_
            with_reducible refine (corollaryref13_right.calls k1 _ _ ((rd_T27 l0 x3_1).f0) true _ ?side1 ?side2 A8.out).mono ?_
            (case side1 => repeat (first | exact (Kd.C_below HR239_0.out q0_) | (with_reducible refine Kd.C_alloc ?_ _) | (with_reducible refine Kd.C_drewN ?_ _) | (with_reducible refine Kd.C_drew ?_)))
            (case side2 => exact HC239_0.out)
            rintro e w20 ⟨rfl, hb⟩
            refine ⟨_, rfl, ?_⟩
            have n0_ := Aside0.mk (below_step q0_ hb)
            clear HB
            have HB := n0_
            clear n0_
            (try clear hb)
            (try clear hb2)
            (try clear hk)
            (try clear hi)
            refine hK.out _ _ ⟨((HB.out.cell (World.block_lt_of_cell? w _ hw236_0)).trans hw236_0), ((HB.out.cell (World.block_lt_of_cell? w _ hw236_1)).trans hw236_1), ((HB.out.cell (World.block_lt_of_cell? w _ hw237_0)).trans hw237_0), ((HB.out.cell (World.block_lt_of_cell? w _ hw237_1)).trans hw237_1), ((HB.out.cell (World.block_lt_of_cell? w _ hw239_0)).trans hw239_0), ((HB.out.cell (World.block_lt_of_cell? w _ hw239_1)).trans hw239_1), ((HB.out.cell (World.block_lt_of_cell? w _ hw241_0)).trans hw241_0), ((HB.out.cell (World.block_lt_of_cell? w _ hw241_1)).trans hw241_1), ((HB.out.cell (World.block_lt_of_cell? w _ hw242_0)).trans hw242_0), ((HB.out.cell (World.block_lt_of_cell? w _ hw242_1)).trans hw242_1)⟩ (fun hHeld => ?_)
            clear hK K
            refine norm_ (a' := ?_) ?_ ?_
            rotate_left
            ·show Act.put _ (some 31) _ = _
             simp only [Act.put, List.setIfInBounds_toArray, List.set_cons_zero, List.set_cons_succ, i64_w, i32_w]
             rfl
            refine pure_ (i := 22) (N := some 32) (v := ?_) (a' := ?_) b59_23 rfl rfl qh_ qi_ (Or.inl ⟨qr_, ?_⟩) ?_ ?_; rotate_left; (intro w'; go_simp; with_reducible rfl); rotate_left; exact qa_
            refine pure_ (i := 23) (N := some 33) (v := ?_) (a' := ?_) b59_24 rfl rfl qh_ qi_ (Or.inl ⟨qr_, ?_⟩) ?_ ?_; rotate_left; (intro w'; go_simp; with_reducible rfl); rotate_left; exact qa_
            refine pure_ (i := 24) (N := some 34) (v := ?_) (a' := ?_) b59_25 rfl rfl qh_ qi_ (Or.inl ⟨qr_, ?_⟩) ?_ ?_; rotate_left; (intro w'; go_simp; with_reducible rfl); rotate_left; exact qa_
            refine pure_ (i := 25) (N := some 35) (v := ?_) (a' := ?_) b59_26 rfl rfl qh_ qi_ (Or.inl ⟨qr_, ?_⟩) ?_ ?_; rotate_left; (intro w'; go_simp; with_reducible rfl); rotate_left; exact qa_
            refine pure_ (i := 26) (N := some 36) (v := ?_) (a' := ?_) b59_27 rfl rfl qh_ qi_ (Or.inl ⟨qr_, ?_⟩) ?_ ?_; rotate_left; (intro w'; go_simp; with_reducible rfl); rotate_left; exact qa_
            refine pure_ (i := 27) (N := some 37) (v := ?_) (a' := ?_) b59_28 rfl rfl qh_ qi_ (Or.inl ⟨qr_, ?_⟩) ?_ ?_; rotate_left; (intro w'; go_simp; with_reducible rfl); rotate_left; exact qa_
            refine pure_ (i := 28) (N := some 38) (v := ?_) (a' := ?_) b59_29 rfl rfl qh_ qi_ (Or.inl ⟨qr_, ?_⟩) ?_ ?_; rotate_left; (intro w'; go_simp; with_reducible rfl); rotate_left; exact qa_
            refine pure_ (i := 29) (N := some 39) (v := ?_) (a' := ?_) b59_30 rfl rfl qh_ qi_ (Or.inl ⟨qr_, ?_⟩) ?_ ?_; rotate_left; (intro w'; go_simp; with_reducible rfl); rotate_left; exact qa_
            refine pure_ (i := 30) (N := some 40) (v := ?_) (a' := ?_) b59_31 rfl rfl qh_ qi_ (Or.inl ⟨qr_, ?_⟩) ?_ ?_; rotate_left; (intro w'; go_simp; with_reducible rfl); rotate_left; exact qa_
            refine pure_ (i := 31) (N := some 41) (v := ?_) (a' := ?_) b59_32 rfl rfl qh_ qi_ (Or.inl ⟨qr_, ?_⟩) ?_ ?_; rotate_left; (intro w'; go_simp; with_reducible rfl); rotate_left; exact qa_
            refine pure_ (i := 32) (N := some 42) (v := ?_) (a' := ?_) b59_33 rfl rfl qh_ qi_ (Or.inl ⟨qr_, ?_⟩) ?_ ?_; rotate_left; (intro w'; go_simp; with_reducible rfl); rotate_left; exact qa_
            refine pure_ (i := 34) (N := some 44) (v := ?_) (a' := ?_) b59_44 rfl rfl qh_ qi_ (Or.inl ⟨qr_, ?_⟩) ?_ ?_; rotate_left; (intro w'; go_simp; with_reducible rfl); rotate_left; exact qa_
            refine pure_ (i := 35) (N := some 45) (v := ?_) (a' := ?_) b59_45 rfl rfl qh_ qi_ (Or.inl ⟨qr_, ?_⟩) ?_ ?_; rotate_left; (intro w'; go_simp; with_reducible rfl); rotate_left; exact qa_
            refine pure_ (i := 36) (N := some 46) (v := ?_) (a' := ?_) b59_46 rfl rfl qh_ qi_ (Or.inl ⟨qr_, ?_⟩) ?_ ?_; rotate_left; (intro w'; go_simp; with_reducible rfl); rotate_left; exact qa_
            refine pure_ (i := 37) (N := some 47) (v := ?_) (a' := ?_) b59_47 rfl rfl qh_ qi_ (Or.inl ⟨qr_, ?_⟩) ?_ ?_; rotate_left; (intro w'; go_simp; with_reducible rfl); rotate_left; exact qa_
            refine take_ (i := 33) (N := some 43) (v := ?_) (a' := ?_) b59_38 rfl rfl (take_ofW HT_.out HW_.out (by kernel_rfl)) (fun _ _ _ h => h) (Or.inl ⟨by rfl, ?_⟩) hHeld ?_ ?_; rotate_left; (rintro w' ⟨s0, s1, s2, s3, s4, s5, s6, s7, s8, s9⟩; go_simp; with_reducible rfl); rotate_left; exact qa_
            refine take_ (i := 38) (N := some 48) (v := ?_) (a' := ?_) b59_39 rfl rfl (take_ofW HT_.out HW_.out (by kernel_rfl)) (fun _ _ _ h => h) (Or.inl ⟨by rfl, ?_⟩) hHeld ?_ ?_; rotate_left; (rintro w' ⟨s0, s1, s2, s3, s4, s5, s6, s7, s8, s9⟩; go_simp; with_reducible rfl); rotate_left; exact qa_
            refine one_ (i := 39) (N := some 49) b59_40 rfl rfl (one_of HT_.out (by kernel_rfl)) (by decide) (fun K hK => ?_)
            refine goes_ Tryd.func27 (by kernel_rfl) rfl #[.slice A241_0 ((rd_T27 l0 (ji11)).f0).length c241_0, .slice A236_0 ((rd_T27 l0 x3_1).f0).length c236_0] (by rfl) rfl rfl (by (try simp only [List.map_toArray, List.map_cons, List.map_nil]); first | done | (simp only [hji11]; rfl) | rfl | (simp only [List.length_drop, List.length_take]; rfl)) ?_
            with_reducible refine (corollaryref01_Rows.calls k1 _ _ ((rd_T27 l0 (ji11)).f0) _ _ ((rd_T27 l0 x3_1).f0) t243 _ ?side1 ?side2 ?side3 ?side4 A14.out).mono ?_
            (case side1 => repeat (first | exact (Kd.C_below HR241_0.out HB.out) | (with_reducible refine Kd.C_alloc ?_ _) | (with_reducible refine Kd.C_drewN ?_ _) | (with_reducible refine Kd.C_drew ?_)))
            (case side2 => exact HC241_0.out)
            (case side3 => repeat (first | exact (Kd.C_below HR242_0.out HB.out) | (with_reducible refine Kd.C_alloc ?_ _) | (with_reducible refine Kd.C_drewN ?_ _) | (with_reducible refine Kd.C_drew ?_)))
            (case side4 => exact HC242_0.out)
            rintro e w21 ⟨rfl, hb⟩
            refine ⟨_, rfl, ?_⟩
            have n0_ := Aside0.mk (below_step q0_ hb)
            clear HB
            have HB := n0_
            clear n0_
            (try clear hb)
            (try clear hb2)
            (try clear hk)
            (try clear hi)
            refine hK.out _ _ ⟨((HB.out.cell (World.block_lt_of_cell? w _ hw236_0)).trans hw236_0), ((HB.out.cell (World.block_lt_of_cell? w _ hw236_1)).trans hw236_1), ((HB.out.cell (World.block_lt_of_cell? w _ hw237_0)).trans hw237_0), ((HB.out.cell (World.block_lt_of_cell? w _ hw237_1)).trans hw237_1), ((HB.out.cell (World.block_lt_of_cell? w _ hw239_0)).trans hw239_0), ((HB.out.cell (World.block_lt_of_cell? w _ hw239_1)).trans hw239_1), ((HB.out.cell (World.block_lt_of_cell? w _ hw241_0)).trans hw241_0), ((HB.out.cell (World.block_lt_of_cell? w _ hw241_1)).trans hw241_1), ((HB.out.cell (World.block_lt_of_cell? w _ hw242_0)).trans hw242_0), ((HB.out.cell (World.block_lt_of_cell? w _ hw242_1)).trans hw242_1)⟩ (fun hHeld => ?_)
            clear hK K
            refine norm_ (a' := ?_) ?_ ?_
            rotate_left
            ·show Act.put _ (some 49) _ = _
             simp only [Act.put, List.setIfInBounds_toArray, List.set_cons_zero, List.set_cons_succ, i64_w, i32_w]
             rfl
            refine pure_ (i := 40) (N := some 50) (v := ?_) (a' := ?_) b59_41 rfl rfl qh_ qi_ (Or.inl ⟨qr_, ?_⟩) ?_ ?_; rotate_left; (intro w'; go_simp; with_reducible rfl); rotate_left; exact qa_
            refine pure_ (i := 41) (N := some 51) (v := ?_) (a' := ?_) b59_42 rfl rfl qh_ qi_ (Or.inl ⟨qr_, ?_⟩) ?_ ?_; rotate_left; (intro w'; go_simp; with_reducible rfl); rotate_left; exact qa_
            refine pure_ (i := 42) (N := some 52) (v := ?_) (a' := ?_) b59_43 rfl rfl qh_ qi_ (Or.inl ⟨qr_, ?_⟩) ?_ ?_; rotate_left; (intro w'; go_simp; with_reducible rfl); rotate_left; exact qa_
            refine done_ (done_of HT_.out (by kernel_rfl)) ?_
            try go_wp2
            go_ret
            exact ⟨by first | rfl | (simp [errW_none, errW_some] <;> rfl) | (simp only [← hji11]; first | rfl | (simp [errW_none, errW_some] <;> rfl)) | (simp [*, errW_none, errW_some] <;> rfl), q0_⟩
          ·rw [if_neg c13] at H
           exact absurd H (by simp)
         ·rw [if_neg c12] at H
          exact absurd H (by simp)
        ·rw [if_neg c10] at H
         have c10b0 : decide (0 < x3_1) = false := decide_eq_false c10
         clear c10
         have H' := Aside0.mk H
         clear H
         try go_wp2
         have n0_ := Aside0.mk (below_drew1 HB.out)
         clear HB
         have HB := n0_
         clear n0_
         have p236 : 0 ≤ (x3_1 : Int) := of_decide_eq_true q5_
         have q236 : x3_1 < (l0.length : Int) := of_decide_eq_true q5_
         obtain ⟨ad236, A236_0, c236_0, e236, hx236_0, hx236_1, hl236_0, hi236_0⟩ := at_T27 HR0.out x3_1 p236 q236
         have hw236_1 := hx236_1
         have hw236_0 := hx236_0
         cases e236
         replace hx236_0 := (HB.out.cell (World.block_lt_of_cell? w _ hx236_0)).trans hx236_0
         replace hx236_1 := (HB.out.cell (World.block_lt_of_cell? w _ hx236_1)).trans hx236_1
         have HR236_0 := Aside0.mk hi236_0
         have HC236_0 := Aside0.mk hl236_0
         clear hi236_0 hl236_0
         replace p236 := eq_true p236
         replace q236 := eq_true q236
         have p237 : 0 ≤ (x3_1 : Int) := of_decide_eq_true q5_
         have q237 : x3_1 < (l0.length : Int) := of_decide_eq_true q5_
         obtain ⟨ad237, A237_0, c237_0, e237, hx237_0, hx237_1, hl237_0, hi237_0⟩ := at_T27 HR0.out x3_1 p237 q237
         have hw237_1 := hx237_1
         have hw237_0 := hx237_0
         obtain rfl : ad236 = ad237 := (by injection e237)
         replace hx237_0 := (HB.out.cell (World.block_lt_of_cell? w _ hx237_0)).trans hx237_0
         replace hx237_1 := (HB.out.cell (World.block_lt_of_cell? w _ hx237_1)).trans hx237_1
         have HR237_0 := Aside0.mk hi237_0
         have HC237_0 := Aside0.mk hl237_0
         clear hi237_0 hl237_0
         replace p237 := eq_true p237
         replace q237 := eq_true q237
         have ea_ := Option.some.inj (hx236_0.symm.trans hx237_0)
         injection ea_ with ea_ en_ ec_
         subst ea_
         subst ec_
         clear en_
         have p239 : 0 ≤ (x3_1 : Int) := of_decide_eq_true q5_
         have q239 : x3_1 < (l0.length : Int) := of_decide_eq_true q5_
         obtain ⟨ad239, A239_0, c239_0, e239, hx239_0, hx239_1, hl239_0, hi239_0⟩ := at_T27 HR0.out x3_1 p239 q239
         have hw239_1 := hx239_1
         have hw239_0 := hx239_0
         obtain rfl : ad236 = ad239 := (by injection e239)
         replace hx239_0 := (HB.out.cell (World.block_lt_of_cell? w _ hx239_0)).trans hx239_0
         replace hx239_1 := (HB.out.cell (World.block_lt_of_cell? w _ hx239_1)).trans hx239_1
         have HR239_0 := Aside0.mk hi239_0
         have HC239_0 := Aside0.mk hl239_0
         clear hi239_0 hl239_0
         replace p239 := eq_true p239
         replace q239 := eq_true q239
         have ea_ := Option.some.inj (hx236_0.symm.trans hx239_0)
         injection ea_ with ea_ en_ ec_
         subst ea_
         subst ec_
         clear en_
         refine start_ (n := 43) (S := fun w' => w'.cell? (ad236.add ((x3_1).toNat * 2)) = some (.slice A236_0 ((rd_T27 l0 x3_1).f0).length c236_0) ∧ w'.cell? ⟨(ad236.add ((x3_1).toNat * 2)).block, (ad236.add ((x3_1).toNat * 2)).off + 1, none⟩ = some (.int .i64 ((rd_T27 l0 x3_1).f1)) ∧ w'.cell? (ad236.add ((x3_1).toNat * 2)) = some (.slice A236_0 ((rd_T27 l0 x3_1).f0).length c236_0) ∧ w'.cell? ⟨(ad236.add ((x3_1).toNat * 2)).block, (ad236.add ((x3_1).toNat * 2)).off + 1, none⟩ = some (.int .i64 ((rd_T27 l0 x3_1).f1)) ∧ w'.cell? (ad236.add ((x3_1).toNat * 2)) = some (.slice A236_0 ((rd_T27 l0 x3_1).f0).length c236_0) ∧ w'.cell? ⟨(ad236.add ((x3_1).toNat * 2)).block, (ad236.add ((x3_1).toNat * 2)).off + 1, none⟩ = some (.int .i64 ((rd_T27 l0 x3_1).f1))) (ds := []) b59_0 (by kernel_rfl) rfl rfl ⟨((HB.out.cell (World.block_lt_of_cell? w _ hw236_0)).trans hw236_0), ((HB.out.cell (World.block_lt_of_cell? w _ hw236_1)).trans hw236_1), ((HB.out.cell (World.block_lt_of_cell? w _ hw237_0)).trans hw237_0), ((HB.out.cell (World.block_lt_of_cell? w _ hw237_1)).trans hw237_1), ((HB.out.cell (World.block_lt_of_cell? w _ hw239_0)).trans hw239_0), ((HB.out.cell (World.block_lt_of_cell? w _ hw239_1)).trans hw239_1)⟩ (fun hHeld => ?_); refine with_tabW corollaryref13_Right.tab4 corollaryref13_Right.bits4 (fun HT_ HW_ => ?_)
         generalize wr.drew = w22 at HB HR236_0 HR237_0 HR239_0 hx236_0 hx236_1 hx237_0 hx237_1 hx239_0 hx239_1 hHeld ⊢
         refine pure_ (i := 0) (N := some 10) (v := ?_) (a' := ?_) b59_1 rfl rfl qh_ qi_ (Or.inl ⟨qr_, ?_⟩) ?_ ?_; rotate_left; (intro w'; go_simp; with_reducible rfl); rotate_left; exact qa_
         refine pure_ (i := 1) (N := some 11) (v := ?_) (a' := ?_) b59_2 rfl rfl qh_ qi_ (Or.inl ⟨qr_, ?_⟩) ?_ ?_; rotate_left; (intro w'; go_simp; with_reducible rfl); rotate_left; exact qa_
         refine pure_ (i := 2) (N := some 12) (v := ?_) (a' := ?_) b59_3 rfl rfl qh_ qi_ (Or.inl ⟨qr_, ?_⟩) ?_ ?_; rotate_left; (intro w'; go_simp; with_reducible rfl); rotate_left; exact qa_
         refine pure_ (i := 3) (N := some 13) (v := ?_) (a' := ?_) b59_4 rfl rfl qh_ qi_ (Or.inl ⟨qr_, ?_⟩) ?_ ?_; rotate_left; (intro w'; go_simp; with_reducible rfl); rotate_left; exact qa_
         refine take_ (i := 4) (N := some 14) (v := ?_) (a' := ?_) b59_5 rfl rfl (take_ofW HT_.out HW_.out (by kernel_rfl)) (fun _ _ _ h => h) (Or.inl ⟨by rfl, ?_⟩) hHeld ?_ ?_; rotate_left; (rintro w' ⟨s0, s1, s2, s3, s4, s5⟩; go_simp; with_reducible rfl); rotate_left; exact qa_
         refine pure_ (i := 5) (N := some 15) (v := ?_) (a' := ?_) b59_6 rfl rfl qh_ qi_ (Or.inl ⟨qr_, ?_⟩) ?_ ?_; rotate_left; (intro w'; go_simp; with_reducible rfl); rotate_left; exact qa_
         refine pure_ (i := 6) (N := some 16) (v := ?_) (a' := ?_) b59_7 rfl rfl qh_ qi_ (Or.inl ⟨qr_, ?_⟩) ?_ ?_; rotate_left; (intro w'; go_simp; with_reducible rfl); rotate_left; exact qa_
         refine pure_ (i := 7) (N := some 17) (v := ?_) (a' := ?_) b59_8 rfl rfl qh_ qi_ (Or.inl ⟨qr_, ?_⟩) ?_ ?_; rotate_left; (intro w'; go_simp; with_reducible rfl); rotate_left; exact qa_
         refine pure_ (i := 8) (N := some 18) (v := ?_) (a' := ?_) b59_9 rfl rfl qh_ qi_ (Or.inl ⟨qr_, ?_⟩) ?_ ?_; rotate_left; (intro w'; go_simp; with_reducible rfl); rotate_left; exact qa_
         refine pure_ (i := 9) (N := some 19) (v := ?_) (a' := ?_) b59_10 rfl rfl qh_ qi_ (Or.inl ⟨qr_, ?_⟩) ?_ ?_; rotate_left; (intro w'; go_simp; with_reducible rfl); rotate_left; exact qa_
         refine pure_ (i := 10) (N := some 20) (v := ?_) (a' := ?_) b59_11 rfl rfl qh_ qi_ (Or.inl ⟨qr_, ?_⟩) ?_ ?_; rotate_left; (intro w'; go_simp; with_reducible rfl); rotate_left; exact qa_
         refine take_ (i := 11) (N := some 21) (v := ?_) (a' := ?_) b59_12 rfl rfl (take_ofW HT_.out HW_.out (by kernel_rfl)) (fun _ _ _ h => h) (Or.inl ⟨by rfl, ?_⟩) hHeld ?_ ?_; rotate_left; (rintro w' ⟨s0, s1, s2, s3, s4, s5⟩; go_simp; with_reducible rfl); rotate_left; exact qa_
         refine one_ (i := 12) (N := some 22) b59_13 rfl rfl (one_of HT_.out (by kernel_rfl)) (by decide) (fun K hK => ?_)
         refine goes_ Tryd.func25 (by kernel_rfl) rfl #[.int .i64 ((rd_T27 l0 x3_1).f1)] (by rfl) rfl rfl q2_ ?_
         with_reducible refine (corollaryref13_fits.calls ((rd_T27 l0 x3_1).f1) true _ A6.out).mono ?_
         rintro e w' ⟨rfl, ⟨nd, rfl⟩⟩
         refine ⟨_, rfl, ?_⟩
         refine hK.out _ _ ⟨((HB.out.cell (World.block_lt_of_cell? w _ hw236_0)).trans hw236_0), ((HB.out.cell (World.block_lt_of_cell? w _ hw236_1)).trans hw236_1), ((HB.out.cell (World.block_lt_of_cell? w _ hw237_0)).trans hw237_0), ((HB.out.cell (World.block_lt_of_cell? w _ hw237_1)).trans hw237_1), ((HB.out.cell (World.block_lt_of_cell? w _ hw239_0)).trans hw239_0), ((HB.out.cell (World.block_lt_of_cell? w _ hw239_1)).trans hw239_1)⟩ (fun hHeld => ?_)
         clear hK K
         refine norm_ (a' := ?_) ?_ ?_
         rotate_left
         ·show Act.put _ (some 22) _ = _
          simp only [Act.put, List.setIfInBounds_toArray, List.set_cons_zero, List.set_cons_succ, i64_w, i32_w]
          rfl
         refine pure_ (i := 13) (N := some 23) (v := ?_) (a' := ?_) b59_14 rfl rfl qh_ qi_ (Or.inl ⟨qr_, ?_⟩) ?_ ?_; rotate_left; (intro w'; go_simp; with_reducible rfl); rotate_left; exact qa_
         refine pure_ (i := 14) (N := some 24) (v := ?_) (a' := ?_) b59_15 rfl rfl qh_ qi_ (Or.inl ⟨qr_, ?_⟩) ?_ ?_; rotate_left; (intro w'; go_simp; with_reducible rfl); rotate_left; exact qa_
         refine pure_ (i := 15) (N := some 25) (v := ?_) (a' := ?_) b59_16 rfl rfl qh_ qi_ (Or.inl ⟨qr_, ?_⟩) ?_ ?_; rotate_left; (intro w'; go_simp; with_reducible rfl); rotate_left; exact qa_
         refine pure_ (i := 16) (N := some 26) (v := ?_) (a' := ?_) b59_17 rfl rfl qh_ qi_ (Or.inl ⟨qr_, ?_⟩) ?_ ?_; rotate_left; (intro w'; go_simp; with_reducible rfl); rotate_left; exact qa_
         refine pure_ (i := 17) (N := some 27) (v := ?_) (a' := ?_) b59_18 rfl rfl qh_ qi_ (Or.inl ⟨qr_, ?_⟩) ?_ ?_; rotate_left; (intro w'; go_simp; with_reducible rfl); rotate_left; exact qa_
         refine pure_ (i := 18) (N := some 28) (v := ?_) (a' := ?_) b59_19 rfl rfl qh_ qi_ (Or.inl ⟨qr_, ?_⟩) ?_ ?_; rotate_left; (intro w'; go_simp; with_reducible rfl); rotate_left; exact qa_
         refine pure_ (i := 19) (N := some 29) (v := ?_) (a' := ?_) b59_20 rfl rfl qh_ qi_ (Or.inl ⟨qr_, ?_⟩) ?_ ?_; rotate_left; (intro w'; go_simp; with_reducible rfl); rotate_left; exact qa_
         refine take_ (i := 20) (N := some 30) (v := ?_) (a' := ?_) b59_21 rfl rfl (take_ofW HT_.out HW_.out (by kernel_rfl)) (fun _ _ _ h => h) (Or.inl ⟨by rfl, ?_⟩) hHeld ?_ ?_; rotate_left; (rintro w' ⟨s0, s1, s2, s3, s4, s5⟩; go_simp; with_reducible rfl); rotate_left; exact qa_
         refine one_ (i := 21) (N := some 31) b59_22 rfl rfl (one_of HT_.out (by kernel_rfl)) (by decide) (fun K hK => ?_)
         refine goes_ Tryd.func26 (by kernel_rfl) rfl #[.slice A236_0 ((rd_T27 l0 x3_1).f0).length c236_0] (by rfl) rfl rfl q2_ ?_
         with_reducible refine (corollaryref13_right.calls k1 _ _ ((rd_T27 l0 x3_1).f0) true _ ?side1 ?side2 A8.out).mono ?_
         (case side1 => repeat (first | exact (Kd.C_below HR239_0.out q0_) | (with_reducible refine Kd.C_alloc ?_ _) | (with_reducible refine Kd.C_drewN ?_ _) | (with_reducible refine Kd.C_drew ?_)))
         (case side2 => exact HC239_0.out)
         rintro e w23 ⟨rfl, hb⟩
         refine ⟨_, rfl, ?_⟩
         have n0_ := Aside0.mk (below_step q0_ hb)
         clear HB
         have HB := n0_
         clear n0_
         (try clear hb)
         (try clear hb2)
         (try clear hk)
         (try clear hi)
         refine hK.out _ _ ⟨((HB.out.cell (World.block_lt_of_cell? w _ hw236_0)).trans hw236_0), ((HB.out.cell (World.block_lt_of_cell? w _ hw236_1)).trans hw236_1), ((HB.out.cell (World.block_lt_of_cell? w _ hw237_0)).trans hw237_0), ((HB.out.cell (World.block_lt_of_cell? w _ hw237_1)).trans hw237_1), ((HB.out.cell (World.block_lt_of_cell? w _ hw239_0)).trans hw239_0), ((HB.out.cell (World.block_lt_of_cell? w _ hw239_1)).trans hw239_1)⟩ (fun hHeld => ?_)
         clear hK K
         refine norm_ (a' := ?_) ?_ ?_
         rotate_left
         ·show Act.put _ (some 31) _ = _
          simp only [Act.put, List.setIfInBounds_toArray, List.set_cons_zero, List.set_cons_succ, i64_w, i32_w]
          rfl
         refine pure_ (i := 22) (N := some 32) (v := ?_) (a' := ?_) b59_23 rfl rfl qh_ qi_ (Or.inl ⟨qr_, ?_⟩) ?_ ?_; rotate_left; (intro w'; go_simp; with_reducible rfl); rotate_left; exact qa_
         refine pure_ (i := 23) (N := some 33) (v := ?_) (a' := ?_) b59_24 rfl rfl qh_ qi_ (Or.inl ⟨qr_, ?_⟩) ?_ ?_; rotate_left; (intro w'; go_simp; with_reducible rfl); rotate_left; exact qa_
         refine pure_ (i := 24) (N := some 34) (v := ?_) (a' := ?_) b59_25 rfl rfl qh_ qi_ (Or.inl ⟨qr_, ?_⟩) ?_ ?_; rotate_left; (intro w'; go_simp; with_reducible rfl); rotate_left; exact qa_
         refine pure_ (i := 25) (N := some 35) (v := ?_) (a' := ?_) b59_26 rfl rfl qh_ qi_ (Or.inl ⟨qr_, ?_⟩) ?_ ?_; rotate_left; (intro w'; go_simp; with_reducible rfl); rotate_left; exact qa_
         refine pure_ (i := 26) (N := some 36) (v := ?_) (a' := ?_) b59_27 rfl rfl qh_ qi_ (Or.inl ⟨qr_, ?_⟩) ?_ ?_; rotate_left; (intro w'; go_simp; with_reducible rfl); rotate_left; exact qa_
         refine pure_ (i := 27) (N := some 37) (v := ?_) (a' := ?_) b59_28 rfl rfl qh_ qi_ (Or.inl ⟨qr_, ?_⟩) ?_ ?_; rotate_left; (intro w'; go_simp; with_reducible rfl); rotate_left; exact qa_
         refine pure_ (i := 28) (N := some 38) (v := undef) (a' := ?_) b59_29 rfl rfl qh_ qi_ (Or.inr ⟨qr_, rfl⟩) ?_ ?_; rotate_left; exact qa_
         refine pure_ (i := 29) (N := some 39) (v := undef) (a' := ?_) b59_30 rfl rfl qh_ qi_ (Or.inr ⟨qr_, rfl⟩) ?_ ?_; rotate_left; exact qa_
         refine pure_ (i := 30) (N := some 40) (v := undef) (a' := ?_) b59_31 rfl rfl qh_ qi_ (Or.inr ⟨qr_, rfl⟩) ?_ ?_; rotate_left; exact qa_
         refine pure_ (i := 31) (N := some 41) (v := undef) (a' := ?_) b59_32 rfl rfl qh_ qi_ (Or.inr ⟨qr_, rfl⟩) ?_ ?_; rotate_left; exact qa_
         refine pure_ (i := 32) (N := some 42) (v := undef) (a' := ?_) b59_33 rfl rfl qh_ qi_ (Or.inr ⟨qr_, rfl⟩) ?_ ?_; rotate_left; exact qa_
         refine pure_ (i := 33) (N := some 43) (v := undef) (a' := ?_) b59_34 rfl rfl qh_ qi_ (Or.inr ⟨qr_, rfl⟩) ?_ ?_; rotate_left; exact qa_
         refine pure_ (i := 34) (N := some 44) (v := undef) (a' := ?_) b59_35 rfl rfl qh_ qi_ (Or.inr ⟨qr_, rfl⟩) ?_ ?_; rotate_left; exact qa_
         refine pure_ (i := 35) (N := some 45) (v := undef) (a' := ?_) b59_36 rfl rfl qh_ qi_ (Or.inr ⟨qr_, rfl⟩) ?_ ?_; rotate_left; exact qa_
         refine pure_ (i := 36) (N := some 46) (v := undef) (a' := ?_) b59_37 rfl rfl qh_ qi_ (Or.inr ⟨qr_, rfl⟩) ?_ ?_; rotate_left; exact qa_
         refine pure_ (i := 37) (N := some 47) (v := undef) (a' := ?_) b59_38 rfl rfl qh_ qi_ (Or.inr ⟨qr_, rfl⟩) ?_ ?_; rotate_left; exact qa_
         refine pure_ (i := 38) (N := some 48) (v := undef) (a' := ?_) b59_39 rfl rfl qh_ qi_ (Or.inr ⟨qr_, rfl⟩) ?_ ?_; rotate_left; exact qa_
         refine pure_ (i := 39) (N := some 49) (v := undef) (a' := ?_) b59_40 rfl rfl qh_ qi_ (Or.inr ⟨qr_, rfl⟩) ?_ ?_; rotate_left; exact qa_
         refine pure_ (i := 40) (N := some 50) (v := undef) (a' := ?_) b59_41 rfl rfl qh_ qi_ (Or.inr ⟨qr_, rfl⟩) ?_ ?_; rotate_left; exact qa_
         refine pure_ (i := 41) (N := some 51) (v := ?_) (a' := ?_) b59_42 rfl rfl qh_ qi_ (Or.inl ⟨qr_, ?_⟩) ?_ ?_; rotate_left; (intro w'; go_simp; with_reducible rfl); rotate_left; exact qa_
         refine pure_ (i := 42) (N := some 52) (v := ?_) (a' := ?_) b59_43 rfl rfl qh_ qi_ (Or.inl ⟨qr_, ?_⟩) ?_ ?_; rotate_left; (intro w'; go_simp; with_reducible rfl); rotate_left; exact qa_
         refine done_ (done_of HT_.out (by kernel_rfl)) ?_
         try go_wp2
         go_roundg k1
         case measure => have := HK1.out; omega
         case rel => exact ⟨(wrap64 (x3_1 + 1)), q9_, H', ⟨by have := HK1.out; omega⟩, ⟨q0_⟩⟩
       ·replace c9 := Bool.eq_false_iff.mpr c9
        subst c9
        replace H := ifF_ H
        obtain rfl := Option.some.inj H
        try go_wp2
        have n0_ := Aside0.mk (below_drew1 HB.out)
        clear HB
        have HB := n0_
        clear n0_
        have p236 : 0 ≤ (x3_1 : Int) := of_decide_eq_true q5_
        have q236 : x3_1 < (l0.length : Int) := of_decide_eq_true q5_
        obtain ⟨ad236, A236_0, c236_0, e236, hx236_0, hx236_1, hl236_0, hi236_0⟩ := at_T27 HR0.out x3_1 p236 q236
        have hw236_1 := hx236_1
        have hw236_0 := hx236_0
        cases e236
        replace hx236_0 := (HB.out.cell (World.block_lt_of_cell? w _ hx236_0)).trans hx236_0
        replace hx236_1 := (HB.out.cell (World.block_lt_of_cell? w _ hx236_1)).trans hx236_1
        have HR236_0 := Aside0.mk hi236_0
        have HC236_0 := Aside0.mk hl236_0
        clear hi236_0 hl236_0
        replace p236 := eq_true p236
        replace q236 := eq_true q236
        have p237 : 0 ≤ (x3_1 : Int) := of_decide_eq_true q5_
        have q237 : x3_1 < (l0.length : Int) := of_decide_eq_true q5_
        obtain ⟨ad237, A237_0, c237_0, e237, hx237_0, hx237_1, hl237_0, hi237_0⟩ := at_T27 HR0.out x3_1 p237 q237
        have hw237_1 := hx237_1
        have hw237_0 := hx237_0
        obtain rfl : ad236 = ad237 := (by injection e237)
        replace hx237_0 := (HB.out.cell (World.block_lt_of_cell? w _ hx237_0)).trans hx237_0
        replace hx237_1 := (HB.out.cell (World.block_lt_of_cell? w _ hx237_1)).trans hx237_1
        have HR237_0 := Aside0.mk hi237_0
        have HC237_0 := Aside0.mk hl237_0
        clear hi237_0 hl237_0
        replace p237 := eq_true p237
        replace q237 := eq_true q237
        have ea_ := Option.some.inj (hx236_0.symm.trans hx237_0)
        injection ea_ with ea_ en_ ec_
        subst ea_
        subst ec_
        clear en_
        have p239 : 0 ≤ (x3_1 : Int) := of_decide_eq_true q5_
        have q239 : x3_1 < (l0.length : Int) := of_decide_eq_true q5_
        obtain ⟨ad239, A239_0, c239_0, e239, hx239_0, hx239_1, hl239_0, hi239_0⟩ := at_T27 HR0.out x3_1 p239 q239
        have hw239_1 := hx239_1
        have hw239_0 := hx239_0
        obtain rfl : ad236 = ad239 := (by injection e239)
        replace hx239_0 := (HB.out.cell (World.block_lt_of_cell? w _ hx239_0)).trans hx239_0
        replace hx239_1 := (HB.out.cell (World.block_lt_of_cell? w _ hx239_1)).trans hx239_1
        have HR239_0 := Aside0.mk hi239_0
        have HC239_0 := Aside0.mk hl239_0
        clear hi239_0 hl239_0
        replace p239 := eq_true p239
        replace q239 := eq_true q239
        have ea_ := Option.some.inj (hx236_0.symm.trans hx239_0)
        injection ea_ with ea_ en_ ec_
        subst ea_
        subst ec_
        clear en_
        refine start_ (n := 43) (S := fun w' => w'.cell? (ad236.add ((x3_1).toNat * 2)) = some (.slice A236_0 ((rd_T27 l0 x3_1).f0).length c236_0) ∧ w'.cell? ⟨(ad236.add ((x3_1).toNat * 2)).block, (ad236.add ((x3_1).toNat * 2)).off + 1, none⟩ = some (.int .i64 ((rd_T27 l0 x3_1).f1)) ∧ w'.cell? (ad236.add ((x3_1).toNat * 2)) = some (.slice A236_0 ((rd_T27 l0 x3_1).f0).length c236_0) ∧ w'.cell? ⟨(ad236.add ((x3_1).toNat * 2)).block, (ad236.add ((x3_1).toNat * 2)).off + 1, none⟩ = some (.int .i64 ((rd_T27 l0 x3_1).f1)) ∧ w'.cell? (ad236.add ((x3_1).toNat * 2)) = some (.slice A236_0 ((rd_T27 l0 x3_1).f0).length c236_0) ∧ w'.cell? ⟨(ad236.add ((x3_1).toNat * 2)).block, (ad236.add ((x3_1).toNat * 2)).off + 1, none⟩ = some (.int .i64 ((rd_T27 l0 x3_1).f1))) (ds := []) b59_0 (by kernel_rfl) rfl rfl ⟨((HB.out.cell (World.block_lt_of_cell? w _ hw236_0)).trans hw236_0), ((HB.out.cell (World.block_lt_of_cell? w _ hw236_1)).trans hw236_1), ((HB.out.cell (World.block_lt_of_cell? w _ hw237_0)).trans hw237_0), ((HB.out.cell (World.block_lt_of_cell? w _ hw237_1)).trans hw237_1), ((HB.out.cell (World.block_lt_of_cell? w _ hw239_0)).trans hw239_0), ((HB.out.cell (World.block_lt_of_cell? w _ hw239_1)).trans hw239_1)⟩ (fun hHeld => ?_); refine with_tabW corollaryref13_Right.tab4 corollaryref13_Right.bits4 (fun HT_ HW_ => ?_)
        generalize wr.drew = w24 at HB HR236_0 HR237_0 HR239_0 hx236_0 hx236_1 hx237_0 hx237_1 hx239_0 hx239_1 hHeld ⊢
        refine pure_ (i := 0) (N := some 10) (v := ?_) (a' := ?_) b59_1 rfl rfl qh_ qi_ (Or.inl ⟨qr_, ?_⟩) ?_ ?_; rotate_left; (intro w'; go_simp; with_reducible rfl); rotate_left; exact qa_
        refine pure_ (i := 1) (N := some 11) (v := ?_) (a' := ?_) b59_2 rfl rfl qh_ qi_ (Or.inl ⟨qr_, ?_⟩) ?_ ?_; rotate_left; (intro w'; go_simp; with_reducible rfl); rotate_left; exact qa_
        refine pure_ (i := 2) (N := some 12) (v := ?_) (a' := ?_) b59_3 rfl rfl qh_ qi_ (Or.inl ⟨qr_, ?_⟩) ?_ ?_; rotate_left; (intro w'; go_simp; with_reducible rfl); rotate_left; exact qa_
        refine pure_ (i := 3) (N := some 13) (v := ?_) (a' := ?_) b59_4 rfl rfl qh_ qi_ (Or.inl ⟨qr_, ?_⟩) ?_ ?_; rotate_left; (intro w'; go_simp; with_reducible rfl); rotate_left; exact qa_
        refine take_ (i := 4) (N := some 14) (v := ?_) (a' := ?_) b59_5 rfl rfl (take_ofW HT_.out HW_.out (by kernel_rfl)) (fun _ _ _ h => h) (Or.inl ⟨by rfl, ?_⟩) hHeld ?_ ?_; rotate_left; (rintro w' ⟨s0, s1, s2, s3, s4, s5⟩; go_simp; with_reducible rfl); rotate_left; exact qa_
        refine pure_ (i := 5) (N := some 15) (v := ?_) (a' := ?_) b59_6 rfl rfl qh_ qi_ (Or.inl ⟨qr_, ?_⟩) ?_ ?_; rotate_left; (intro w'; go_simp; with_reducible rfl); rotate_left; exact qa_
        refine pure_ (i := 6) (N := some 16) (v := ?_) (a' := ?_) b59_7 rfl rfl qh_ qi_ (Or.inl ⟨qr_, ?_⟩) ?_ ?_; rotate_left; (intro w'; go_simp; with_reducible rfl); rotate_left; exact qa_
        refine pure_ (i := 7) (N := some 17) (v := ?_) (a' := ?_) b59_8 rfl rfl qh_ qi_ (Or.inl ⟨qr_, ?_⟩) ?_ ?_; rotate_left; (intro w'; go_simp; with_reducible rfl); rotate_left; exact qa_
        refine pure_ (i := 8) (N := some 18) (v := ?_) (a' := ?_) b59_9 rfl rfl qh_ qi_ (Or.inl ⟨qr_, ?_⟩) ?_ ?_; rotate_left; (intro w'; go_simp; with_reducible rfl); rotate_left; exact qa_
        refine pure_ (i := 9) (N := some 19) (v := ?_) (a' := ?_) b59_10 rfl rfl qh_ qi_ (Or.inl ⟨qr_, ?_⟩) ?_ ?_; rotate_left; (intro w'; go_simp; with_reducible rfl); rotate_left; exact qa_
        refine pure_ (i := 10) (N := some 20) (v := ?_) (a' := ?_) b59_11 rfl rfl qh_ qi_ (Or.inl ⟨qr_, ?_⟩) ?_ ?_; rotate_left; (intro w'; go_simp; with_reducible rfl); rotate_left; exact qa_
        refine take_ (i := 11) (N := some 21) (v := ?_) (a' := ?_) b59_12 rfl rfl (take_ofW HT_.out HW_.out (by kernel_rfl)) (fun _ _ _ h => h) (Or.inl ⟨by rfl, ?_⟩) hHeld ?_ ?_; rotate_left; (rintro w' ⟨s0, s1, s2, s3, s4, s5⟩; go_simp; with_reducible rfl); rotate_left; exact qa_
        refine one_ (i := 12) (N := some 22) b59_13 rfl rfl (one_of HT_.out (by kernel_rfl)) (by decide) (fun K hK => ?_)
        refine goes_ Tryd.func25 (by kernel_rfl) rfl #[.int .i64 ((rd_T27 l0 x3_1).f1)] (by rfl) rfl rfl q2_ ?_
        with_reducible refine (corollaryref13_fits.calls ((rd_T27 l0 x3_1).f1) true _ A6.out).mono ?_
        rintro e w' ⟨rfl, ⟨nd, rfl⟩⟩
        refine ⟨_, rfl, ?_⟩
        refine hK.out _ _ ⟨((HB.out.cell (World.block_lt_of_cell? w _ hw236_0)).trans hw236_0), ((HB.out.cell (World.block_lt_of_cell? w _ hw236_1)).trans hw236_1), ((HB.out.cell (World.block_lt_of_cell? w _ hw237_0)).trans hw237_0), ((HB.out.cell (World.block_lt_of_cell? w _ hw237_1)).trans hw237_1), ((HB.out.cell (World.block_lt_of_cell? w _ hw239_0)).trans hw239_0), ((HB.out.cell (World.block_lt_of_cell? w _ hw239_1)).trans hw239_1)⟩ (fun hHeld => ?_)
        clear hK K
        refine norm_ (a' := ?_) ?_ ?_
        rotate_left
        ·show Act.put _ (some 22) _ = _
         simp only [Act.put, List.setIfInBounds_toArray, List.set_cons_zero, List.set_cons_succ, i64_w, i32_w]
         rfl
        refine pure_ (i := 13) (N := some 23) (v := ?_) (a' := ?_) b59_14 rfl rfl qh_ qi_ (Or.inl ⟨qr_, ?_⟩) ?_ ?_; rotate_left; (intro w'; go_simp; with_reducible rfl); rotate_left; exact qa_
        refine pure_ (i := 14) (N := some 24) (v := ?_) (a' := ?_) b59_15 rfl rfl qh_ qi_ (Or.inl ⟨qr_, ?_⟩) ?_ ?_; rotate_left; (intro w'; go_simp; with_reducible rfl); rotate_left; exact qa_
        refine pure_ (i := 15) (N := some 25) (v := ?_) (a' := ?_) b59_16 rfl rfl qh_ qi_ (Or.inl ⟨qr_, ?_⟩) ?_ ?_; rotate_left; (intro w'; go_simp; with_reducible rfl); rotate_left; exact qa_
        refine pure_ (i := 16) (N := some 26) (v := ?_) (a' := ?_) b59_17 rfl rfl qh_ qi_ (Or.inl ⟨qr_, ?_⟩) ?_ ?_; rotate_left; (intro w'; go_simp; with_reducible rfl); rotate_left; exact qa_
        refine pure_ (i := 17) (N := some 27) (v := ?_) (a' := ?_) b59_18 rfl rfl qh_ qi_ (Or.inl ⟨qr_, ?_⟩) ?_ ?_; rotate_left; (intro w'; go_simp; with_reducible rfl); rotate_left; exact qa_
        refine pure_ (i := 18) (N := some 28) (v := ?_) (a' := ?_) b59_19 rfl rfl qh_ qi_ (Or.inl ⟨qr_, ?_⟩) ?_ ?_; rotate_left; (intro w'; go_simp; with_reducible rfl); rotate_left; exact qa_
        refine pure_ (i := 19) (N := some 29) (v := ?_) (a' := ?_) b59_20 rfl rfl qh_ qi_ (Or.inl ⟨qr_, ?_⟩) ?_ ?_; rotate_left; (intro w'; go_simp; with_reducible rfl); rotate_left; exact qa_
        refine take_ (i := 20) (N := some 30) (v := ?_) (a' := ?_) b59_21 rfl rfl (take_ofW HT_.out HW_.out (by kernel_rfl)) (fun _ _ _ h => h) (Or.inl ⟨by rfl, ?_⟩) hHeld ?_ ?_; rotate_left; (rintro w' ⟨s0, s1, s2, s3, s4, s5⟩; go_simp; with_reducible rfl); rotate_left; exact qa_
        refine one_ (i := 21) (N := some 31) b59_22 rfl rfl (one_of HT_.out (by kernel_rfl)) (by decide) (fun K hK => ?_)
        refine goes_ Tryd.func26 (by kernel_rfl) rfl #[.slice A236_0 ((rd_T27 l0 x3_1).f0).length c236_0] (by rfl) rfl rfl q2_ ?_
        with_reducible refine (corollaryref13_right.calls k1 _ _ ((rd_T27 l0 x3_1).f0) false _ ?side1 ?side2 A8.out).mono ?_
        (case side1 => repeat (first | exact (Kd.C_below HR239_0.out q0_) | (with_reducible refine Kd.C_alloc ?_ _) | (with_reducible refine Kd.C_drewN ?_ _) | (with_reducible refine Kd.C_drew ?_)))
        (case side2 => exact HC239_0.out)
        rintro e w25 ⟨rfl, hb⟩
        refine ⟨_, rfl, ?_⟩
        have n0_ := Aside0.mk (below_step q0_ hb)
        clear HB
        have HB := n0_
        clear n0_
        (try clear hb)
        (try clear hb2)
        (try clear hk)
        (try clear hi)
        refine hK.out _ _ ⟨((HB.out.cell (World.block_lt_of_cell? w _ hw236_0)).trans hw236_0), ((HB.out.cell (World.block_lt_of_cell? w _ hw236_1)).trans hw236_1), ((HB.out.cell (World.block_lt_of_cell? w _ hw237_0)).trans hw237_0), ((HB.out.cell (World.block_lt_of_cell? w _ hw237_1)).trans hw237_1), ((HB.out.cell (World.block_lt_of_cell? w _ hw239_0)).trans hw239_0), ((HB.out.cell (World.block_lt_of_cell? w _ hw239_1)).trans hw239_1)⟩ (fun hHeld => ?_)
        clear hK K
        refine norm_ (a' := ?_) ?_ ?_
        rotate_left
        ·show Act.put _ (some 31) _ = _
         simp only [Act.put, List.setIfInBounds_toArray, List.set_cons_zero, List.set_cons_succ, i64_w, i32_w]
         rfl
        refine pure_ (i := 22) (N := some 32) (v := ?_) (a' := ?_) b59_23 rfl rfl qh_ qi_ (Or.inl ⟨qr_, ?_⟩) ?_ ?_; rotate_left; (intro w'; go_simp; with_reducible rfl); rotate_left; exact qa_
        refine pure_ (i := 23) (N := some 33) (v := ?_) (a' := ?_) b59_24 rfl rfl qh_ qi_ (Or.inl ⟨qr_, ?_⟩) ?_ ?_; rotate_left; (intro w'; go_simp; with_reducible rfl); rotate_left; exact qa_
        refine pure_ (i := 24) (N := some 34) (v := ?_) (a' := ?_) b59_25 rfl rfl qh_ qi_ (Or.inl ⟨qr_, ?_⟩) ?_ ?_; rotate_left; (intro w'; go_simp; with_reducible rfl); rotate_left; exact qa_
        refine pure_ (i := 25) (N := some 35) (v := undef) (a' := ?_) b59_26 rfl rfl qh_ qi_ (Or.inr ⟨qr_, rfl⟩) ?_ ?_; rotate_left; exact qa_
        refine pure_ (i := 26) (N := some 36) (v := undef) (a' := ?_) b59_27 rfl rfl qh_ qi_ (Or.inr ⟨qr_, rfl⟩) ?_ ?_; rotate_left; exact qa_
        refine pure_ (i := 27) (N := some 37) (v := undef) (a' := ?_) b59_28 rfl rfl qh_ qi_ (Or.inr ⟨qr_, rfl⟩) ?_ ?_; rotate_left; exact qa_
        refine pure_ (i := 28) (N := some 38) (v := undef) (a' := ?_) b59_29 rfl rfl qh_ qi_ (Or.inr ⟨qr_, rfl⟩) ?_ ?_; rotate_left; exact qa_
        refine pure_ (i := 29) (N := some 39) (v := undef) (a' := ?_) b59_30 rfl rfl qh_ qi_ (Or.inr ⟨qr_, rfl⟩) ?_ ?_; rotate_left; exact qa_
        refine pure_ (i := 30) (N := some 40) (v := undef) (a' := ?_) b59_31 rfl rfl qh_ qi_ (Or.inr ⟨qr_, rfl⟩) ?_ ?_; rotate_left; exact qa_
        refine pure_ (i := 31) (N := some 41) (v := undef) (a' := ?_) b59_32 rfl rfl qh_ qi_ (Or.inr ⟨qr_, rfl⟩) ?_ ?_; rotate_left; exact qa_
        refine pure_ (i := 32) (N := some 42) (v := undef) (a' := ?_) b59_33 rfl rfl qh_ qi_ (Or.inr ⟨qr_, rfl⟩) ?_ ?_; rotate_left; exact qa_
        refine pure_ (i := 33) (N := some 43) (v := undef) (a' := ?_) b59_34 rfl rfl qh_ qi_ (Or.inr ⟨qr_, rfl⟩) ?_ ?_; rotate_left; exact qa_
        refine pure_ (i := 34) (N := some 44) (v := undef) (a' := ?_) b59_35 rfl rfl qh_ qi_ (Or.inr ⟨qr_, rfl⟩) ?_ ?_; rotate_left; exact qa_
        refine pure_ (i := 35) (N := some 45) (v := undef) (a' := ?_) b59_36 rfl rfl qh_ qi_ (Or.inr ⟨qr_, rfl⟩) ?_ ?_; rotate_left; exact qa_
        refine pure_ (i := 36) (N := some 46) (v := undef) (a' := ?_) b59_37 rfl rfl qh_ qi_ (Or.inr ⟨qr_, rfl⟩) ?_ ?_; rotate_left; exact qa_
        refine pure_ (i := 37) (N := some 47) (v := undef) (a' := ?_) b59_38 rfl rfl qh_ qi_ (Or.inr ⟨qr_, rfl⟩) ?_ ?_; rotate_left; exact qa_
        refine pure_ (i := 38) (N := some 48) (v := undef) (a' := ?_) b59_39 rfl rfl qh_ qi_ (Or.inr ⟨qr_, rfl⟩) ?_ ?_; rotate_left; exact qa_
        refine pure_ (i := 39) (N := some 49) (v := undef) (a' := ?_) b59_40 rfl rfl qh_ qi_ (Or.inr ⟨qr_, rfl⟩) ?_ ?_; rotate_left; exact qa_
        refine pure_ (i := 40) (N := some 50) (v := undef) (a' := ?_) b59_41 rfl rfl qh_ qi_ (Or.inr ⟨qr_, rfl⟩) ?_ ?_; rotate_left; exact qa_
        refine pure_ (i := 41) (N := some 51) (v := undef) (a' := ?_) b59_42 rfl rfl qh_ qi_ (Or.inr ⟨qr_, rfl⟩) ?_ ?_; rotate_left; exact qa_
        refine pure_ (i := 42) (N := some 52) (v := ?_) (a' := ?_) b59_43 rfl rfl qh_ qi_ (Or.inl ⟨qr_, ?_⟩) ?_ ?_; rotate_left; (intro w'; go_simp; with_reducible rfl); rotate_left; exact qa_
        refine done_ (done_of HT_.out (by kernel_rfl)) ?_
        try go_wp2
        go_ret
        exact ⟨q4_, q0_⟩
      ·replace c7 := Bool.eq_false_iff.mpr c7
       subst c7
       replace H := ifF_ H
       obtain rfl := Option.some.inj H
       try go_wp2
       have n0_ := Aside0.mk (below_drew1 HB.out)
       clear HB
       have HB := n0_
       clear n0_
       have p236 : 0 ≤ (x3_1 : Int) := of_decide_eq_true q5_
       have q236 : x3_1 < (l0.length : Int) := of_decide_eq_true q5_
       obtain ⟨ad236, A236_0, c236_0, e236, hx236_0, hx236_1, hl236_0, hi236_0⟩ := at_T27 HR0.out x3_1 p236 q236
       have hw236_1 := hx236_1
       have hw236_0 := hx236_0
       cases e236
       replace hx236_0 := (HB.out.cell (World.block_lt_of_cell? w _ hx236_0)).trans hx236_0
       replace hx236_1 := (HB.out.cell (World.block_lt_of_cell? w _ hx236_1)).trans hx236_1
       have HR236_0 := Aside0.mk hi236_0
       have HC236_0 := Aside0.mk hl236_0
       clear hi236_0 hl236_0
       replace p236 := eq_true p236
       replace q236 := eq_true q236
       have p237 : 0 ≤ (x3_1 : Int) := of_decide_eq_true q5_
       have q237 : x3_1 < (l0.length : Int) := of_decide_eq_true q5_
       obtain ⟨ad237, A237_0, c237_0, e237, hx237_0, hx237_1, hl237_0, hi237_0⟩ := at_T27 HR0.out x3_1 p237 q237
       have hw237_1 := hx237_1
       have hw237_0 := hx237_0
       obtain rfl : ad236 = ad237 := (by injection e237)
       replace hx237_0 := (HB.out.cell (World.block_lt_of_cell? w _ hx237_0)).trans hx237_0
       replace hx237_1 := (HB.out.cell (World.block_lt_of_cell? w _ hx237_1)).trans hx237_1
       have HR237_0 := Aside0.mk hi237_0
       have HC237_0 := Aside0.mk hl237_0
       clear hi237_0 hl237_0
       replace p237 := eq_true p237
       replace q237 := eq_true q237
       have ea_ := Option.some.inj (hx236_0.symm.trans hx237_0)
       injection ea_ with ea_ en_ ec_
       subst ea_
       subst ec_
       clear en_
       refine start_ (n := 43) (S := fun w' => w'.cell? (ad236.add ((x3_1).toNat * 2)) = some (.slice A236_0 ((rd_T27 l0 x3_1).f0).length c236_0) ∧ w'.cell? ⟨(ad236.add ((x3_1).toNat * 2)).block, (ad236.add ((x3_1).toNat * 2)).off + 1, none⟩ = some (.int .i64 ((rd_T27 l0 x3_1).f1)) ∧ w'.cell? (ad236.add ((x3_1).toNat * 2)) = some (.slice A236_0 ((rd_T27 l0 x3_1).f0).length c236_0) ∧ w'.cell? ⟨(ad236.add ((x3_1).toNat * 2)).block, (ad236.add ((x3_1).toNat * 2)).off + 1, none⟩ = some (.int .i64 ((rd_T27 l0 x3_1).f1))) (ds := []) b59_0 (by kernel_rfl) rfl rfl ⟨((HB.out.cell (World.block_lt_of_cell? w _ hw236_0)).trans hw236_0), ((HB.out.cell (World.block_lt_of_cell? w _ hw236_1)).trans hw236_1), ((HB.out.cell (World.block_lt_of_cell? w _ hw237_0)).trans hw237_0), ((HB.out.cell (World.block_lt_of_cell? w _ hw237_1)).trans hw237_1)⟩ (fun hHeld => ?_); refine with_tabW corollaryref13_Right.tab4 corollaryref13_Right.bits4 (fun HT_ HW_ => ?_)
       generalize wr.drew = w26 at HB HR236_0 HR237_0 hx236_0 hx236_1 hx237_0 hx237_1 hHeld ⊢
       refine pure_ (i := 0) (N := some 10) (v := ?_) (a' := ?_) b59_1 rfl rfl qh_ qi_ (Or.inl ⟨qr_, ?_⟩) ?_ ?_; rotate_left; (intro w'; go_simp; with_reducible rfl); rotate_left; exact qa_
       refine pure_ (i := 1) (N := some 11) (v := ?_) (a' := ?_) b59_2 rfl rfl qh_ qi_ (Or.inl ⟨qr_, ?_⟩) ?_ ?_; rotate_left; (intro w'; go_simp; with_reducible rfl); rotate_left; exact qa_
       refine pure_ (i := 2) (N := some 12) (v := ?_) (a' := ?_) b59_3 rfl rfl qh_ qi_ (Or.inl ⟨qr_, ?_⟩) ?_ ?_; rotate_left; (intro w'; go_simp; with_reducible rfl); rotate_left; exact qa_
       refine pure_ (i := 3) (N := some 13) (v := ?_) (a' := ?_) b59_4 rfl rfl qh_ qi_ (Or.inl ⟨qr_, ?_⟩) ?_ ?_; rotate_left; (intro w'; go_simp; with_reducible rfl); rotate_left; exact qa_
       refine take_ (i := 4) (N := some 14) (v := ?_) (a' := ?_) b59_5 rfl rfl (take_ofW HT_.out HW_.out (by kernel_rfl)) (fun _ _ _ h => h) (Or.inl ⟨by rfl, ?_⟩) hHeld ?_ ?_; rotate_left; (rintro w' ⟨s0, s1, s2, s3⟩; go_simp; with_reducible rfl); rotate_left; exact qa_
       refine pure_ (i := 5) (N := some 15) (v := ?_) (a' := ?_) b59_6 rfl rfl qh_ qi_ (Or.inl ⟨qr_, ?_⟩) ?_ ?_; rotate_left; (intro w'; go_simp; with_reducible rfl); rotate_left; exact qa_
       refine pure_ (i := 6) (N := some 16) (v := ?_) (a' := ?_) b59_7 rfl rfl qh_ qi_ (Or.inl ⟨qr_, ?_⟩) ?_ ?_; rotate_left; (intro w'; go_simp; with_reducible rfl); rotate_left; exact qa_
       refine pure_ (i := 7) (N := some 17) (v := ?_) (a' := ?_) b59_8 rfl rfl qh_ qi_ (Or.inl ⟨qr_, ?_⟩) ?_ ?_; rotate_left; (intro w'; go_simp; with_reducible rfl); rotate_left; exact qa_
       refine pure_ (i := 8) (N := some 18) (v := ?_) (a' := ?_) b59_9 rfl rfl qh_ qi_ (Or.inl ⟨qr_, ?_⟩) ?_ ?_; rotate_left; (intro w'; go_simp; with_reducible rfl); rotate_left; exact qa_
       refine pure_ (i := 9) (N := some 19) (v := ?_) (a' := ?_) b59_10 rfl rfl qh_ qi_ (Or.inl ⟨qr_, ?_⟩) ?_ ?_; rotate_left; (intro w'; go_simp; with_reducible rfl); rotate_left; exact qa_
       refine pure_ (i := 10) (N := some 20) (v := ?_) (a' := ?_) b59_11 rfl rfl qh_ qi_ (Or.inl ⟨qr_, ?_⟩) ?_ ?_; rotate_left; (intro w'; go_simp; with_reducible rfl); rotate_left; exact qa_
       refine take_ (i := 11) (N := some 21) (v := ?_) (a' := ?_) b59_12 rfl rfl (take_ofW HT_.out HW_.out (by kernel_rfl)) (fun _ _ _ h => h) (Or.inl ⟨by rfl, ?_⟩) hHeld ?_ ?_; rotate_left; (rintro w' ⟨s0, s1, s2, s3⟩; go_simp; with_reducible rfl); rotate_left; exact qa_
       refine one_ (i := 12) (N := some 22) b59_13 rfl rfl (one_of HT_.out (by kernel_rfl)) (by decide) (fun K hK => ?_)
       refine goes_ Tryd.func25 (by kernel_rfl) rfl #[.int .i64 ((rd_T27 l0 x3_1).f1)] (by rfl) rfl rfl q2_ ?_
       with_reducible refine (corollaryref13_fits.calls ((rd_T27 l0 x3_1).f1) false _ A6.out).mono ?_
       rintro e w' ⟨rfl, ⟨nd, rfl⟩⟩
       refine ⟨_, rfl, ?_⟩
       refine hK.out _ _ ⟨((HB.out.cell (World.block_lt_of_cell? w _ hw236_0)).trans hw236_0), ((HB.out.cell (World.block_lt_of_cell? w _ hw236_1)).trans hw236_1), ((HB.out.cell (World.block_lt_of_cell? w _ hw237_0)).trans hw237_0), ((HB.out.cell (World.block_lt_of_cell? w _ hw237_1)).trans hw237_1)⟩ (fun hHeld => ?_)
       clear hK K
       refine norm_ (a' := ?_) ?_ ?_
       rotate_left
       ·show Act.put _ (some 22) _ = _
        simp only [Act.put, List.setIfInBounds_toArray, List.set_cons_zero, List.set_cons_succ, i64_w, i32_w]
        rfl
       refine pure_ (i := 13) (N := some 23) (v := ?_) (a' := ?_) b59_14 rfl rfl qh_ qi_ (Or.inl ⟨qr_, ?_⟩) ?_ ?_; rotate_left; (intro w'; go_simp; with_reducible rfl); rotate_left; exact qa_
       refine pure_ (i := 14) (N := some 24) (v := ?_) (a' := ?_) b59_15 rfl rfl qh_ qi_ (Or.inl ⟨qr_, ?_⟩) ?_ ?_; rotate_left; (intro w'; go_simp; with_reducible rfl); rotate_left; exact qa_
       refine pure_ (i := 15) (N := some 25) (v := ?_) (a' := ?_) b59_16 rfl rfl qh_ qi_ (Or.inl ⟨qr_, ?_⟩) ?_ ?_; rotate_left; (intro w'; go_simp; with_reducible rfl); rotate_left; exact qa_
       refine pure_ (i := 16) (N := some 26) (v := undef) (a' := ?_) b59_17 rfl rfl qh_ qi_ (Or.inr ⟨qr_, rfl⟩) ?_ ?_; rotate_left; exact qa_
       refine pure_ (i := 17) (N := some 27) (v := undef) (a' := ?_) b59_18 rfl rfl qh_ qi_ (Or.inr ⟨qr_, rfl⟩) ?_ ?_; rotate_left; exact qa_
       refine pure_ (i := 18) (N := some 28) (v := undef) (a' := ?_) b59_19 rfl rfl qh_ qi_ (Or.inr ⟨qr_, rfl⟩) ?_ ?_; rotate_left; exact qa_
       refine pure_ (i := 19) (N := some 29) (v := undef) (a' := ?_) b59_20 rfl rfl qh_ qi_ (Or.inr ⟨qr_, rfl⟩) ?_ ?_; rotate_left; exact qa_
       refine pure_ (i := 20) (N := some 30) (v := undef) (a' := ?_) b59_21 rfl rfl qh_ qi_ (Or.inr ⟨qr_, rfl⟩) ?_ ?_; rotate_left; exact qa_
       refine pure_ (i := 21) (N := some 31) (v := undef) (a' := ?_) b59_22 rfl rfl qh_ qi_ (Or.inr ⟨qr_, rfl⟩) ?_ ?_; rotate_left; exact qa_
       refine pure_ (i := 22) (N := some 32) (v := undef) (a' := ?_) b59_23 rfl rfl qh_ qi_ (Or.inr ⟨qr_, rfl⟩) ?_ ?_; rotate_left; exact qa_
       refine pure_ (i := 23) (N := some 33) (v := ?_) (a' := ?_) b59_24 rfl rfl qh_ qi_ (Or.inl ⟨qr_, ?_⟩) ?_ ?_; rotate_left; (intro w'; go_simp; with_reducible rfl); rotate_left; exact qa_
       refine pure_ (i := 24) (N := some 34) (v := ?_) (a' := ?_) b59_25 rfl rfl qh_ qi_ (Or.inl ⟨qr_, ?_⟩) ?_ ?_; rotate_left; (intro w'; go_simp; with_reducible rfl); rotate_left; exact qa_
       refine pure_ (i := 25) (N := some 35) (v := undef) (a' := ?_) b59_26 rfl rfl qh_ qi_ (Or.inr ⟨qr_, rfl⟩) ?_ ?_; rotate_left; exact qa_
       refine pure_ (i := 26) (N := some 36) (v := undef) (a' := ?_) b59_27 rfl rfl qh_ qi_ (Or.inr ⟨qr_, rfl⟩) ?_ ?_; rotate_left; exact qa_
       refine pure_ (i := 27) (N := some 37) (v := undef) (a' := ?_) b59_28 rfl rfl qh_ qi_ (Or.inr ⟨qr_, rfl⟩) ?_ ?_; rotate_left; exact qa_
       refine pure_ (i := 28) (N := some 38) (v := undef) (a' := ?_) b59_29 rfl rfl qh_ qi_ (Or.inr ⟨qr_, rfl⟩) ?_ ?_; rotate_left; exact qa_
       refine pure_ (i := 29) (N := some 39) (v := undef) (a' := ?_) b59_30 rfl rfl qh_ qi_ (Or.inr ⟨qr_, rfl⟩) ?_ ?_; rotate_left; exact qa_
       refine pure_ (i := 30) (N := some 40) (v := undef) (a' := ?_) b59_31 rfl rfl qh_ qi_ (Or.inr ⟨qr_, rfl⟩) ?_ ?_; rotate_left; exact qa_
       refine pure_ (i := 31) (N := some 41) (v := undef) (a' := ?_) b59_32 rfl rfl qh_ qi_ (Or.inr ⟨qr_, rfl⟩) ?_ ?_; rotate_left; exact qa_
       refine pure_ (i := 32) (N := some 42) (v := undef) (a' := ?_) b59_33 rfl rfl qh_ qi_ (Or.inr ⟨qr_, rfl⟩) ?_ ?_; rotate_left; exact qa_
       refine pure_ (i := 33) (N := some 43) (v := undef) (a' := ?_) b59_34 rfl rfl qh_ qi_ (Or.inr ⟨qr_, rfl⟩) ?_ ?_; rotate_left; exact qa_
       refine pure_ (i := 34) (N := some 44) (v := undef) (a' := ?_) b59_35 rfl rfl qh_ qi_ (Or.inr ⟨qr_, rfl⟩) ?_ ?_; rotate_left; exact qa_
       refine pure_ (i := 35) (N := some 45) (v := undef) (a' := ?_) b59_36 rfl rfl qh_ qi_ (Or.inr ⟨qr_, rfl⟩) ?_ ?_; rotate_left; exact qa_
       refine pure_ (i := 36) (N := some 46) (v := undef) (a' := ?_) b59_37 rfl rfl qh_ qi_ (Or.inr ⟨qr_, rfl⟩) ?_ ?_; rotate_left; exact qa_
       refine pure_ (i := 37) (N := some 47) (v := undef) (a' := ?_) b59_38 rfl rfl qh_ qi_ (Or.inr ⟨qr_, rfl⟩) ?_ ?_; rotate_left; exact qa_
       refine pure_ (i := 38) (N := some 48) (v := undef) (a' := ?_) b59_39 rfl rfl qh_ qi_ (Or.inr ⟨qr_, rfl⟩) ?_ ?_; rotate_left; exact qa_
       refine pure_ (i := 39) (N := some 49) (v := undef) (a' := ?_) b59_40 rfl rfl qh_ qi_ (Or.inr ⟨qr_, rfl⟩) ?_ ?_; rotate_left; exact qa_
       refine pure_ (i := 40) (N := some 50) (v := undef) (a' := ?_) b59_41 rfl rfl qh_ qi_ (Or.inr ⟨qr_, rfl⟩) ?_ ?_; rotate_left; exact qa_
       refine pure_ (i := 41) (N := some 51) (v := undef) (a' := ?_) b59_42 rfl rfl qh_ qi_ (Or.inr ⟨qr_, rfl⟩) ?_ ?_; rotate_left; exact qa_
       refine pure_ (i := 42) (N := some 52) (v := ?_) (a' := ?_) b59_43 rfl rfl qh_ qi_ (Or.inl ⟨qr_, ?_⟩) ?_ ?_; rotate_left; (intro w'; go_simp; with_reducible rfl); rotate_left; exact qa_
       refine done_ (done_of HT_.out (by kernel_rfl)) ?_
       try go_wp2
       go_ret
       exact ⟨q4_, q0_⟩
    ·rw [if_neg c3] at H
     exact absurd H (by simp)
   ·rw [if_neg c2] at H
    have c2b0 : decide (x3_1 < (l0.length : Int)) = false := decide_eq_false c2
    clear c2
    obtain rfl := Option.some.inj H
    go_wp2
    go_ret
    exact ⟨q4_, q0_⟩

end Go.Proofs.YtckligjgnbgdiaaDoor.P
