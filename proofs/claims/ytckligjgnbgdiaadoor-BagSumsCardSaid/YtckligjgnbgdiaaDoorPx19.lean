-- HALVED
import Derived.Test.YtckligjgnbgdiaaDoorPx0
import Derived.Test.YtckligjgnbgdiaaDoorPx1
import Derived.Test.YtckligjgnbgdiaaDoorPx17
namespace Go.Proofs.YtckligjgnbgdiaaDoor.P
open Go.RowKit Go.Proofs.YtckligjgnbgdiaaDoorW.PrintWords Go.Proofs.YtckligjgnbgdiaaDoorW.PrintLast Go.Proofs.YtckligjgnbgdiaaDoorW.PrintMore
attribute [local go_sem] max2_int min2_mn max_two min_two max_three min_three max_four min_four   -- for this text's walks alone
set_option linter.unusedVariables false
set_option linter.unusedSimpArgs false

abbrev b19_0 : Array Bool := #[false, false, false, false, false, false, false, false, false, false, false, false, false, false, false, false, false, false, false, false, false, false, false, false, false, false, false, false, false, false]
abbrev b19_1 : Array Bool := #[true, false, false, false, false, false, false, false, false, false, false, false, false, false, false, false, false, false, false, false, false, false, false, false, false, false, false, false, false, false]
abbrev b19_2 : Array Bool := #[true, true, false, false, false, false, false, false, false, false, false, false, false, false, false, false, false, false, false, false, false, false, false, false, false, false, false, false, false, false]
abbrev b19_3 : Array Bool := #[true, true, true, false, false, false, false, false, false, false, false, false, false, false, false, false, false, false, false, false, false, false, false, false, false, false, false, false, false, false]
abbrev b19_4 : Array Bool := #[true, true, true, true, false, false, false, false, false, false, false, false, false, false, false, false, false, false, false, false, false, false, false, false, false, false, false, false, false, false]
abbrev b19_5 : Array Bool := #[true, true, true, true, true, false, false, false, false, false, false, false, false, false, false, false, false, false, false, false, false, false, false, false, false, false, false, false, false, false]
abbrev b19_6 : Array Bool := #[true, true, true, true, true, true, false, false, false, false, false, false, false, false, false, false, false, false, false, false, false, false, false, false, false, false, false, false, false, false]
abbrev b19_7 : Array Bool := #[true, true, true, true, true, true, true, false, false, false, false, false, false, false, false, false, false, false, false, false, false, false, false, false, false, false, false, false, false, false]
abbrev b19_8 : Array Bool := #[true, true, true, true, true, true, true, true, false, false, false, false, false, false, false, false, false, false, false, false, false, false, false, false, false, false, false, false, false, false]
abbrev b19_9 : Array Bool := #[true, true, true, true, true, true, true, true, true, false, false, false, false, false, false, false, false, false, false, false, false, false, false, false, false, false, false, false, false, false]
abbrev b19_10 : Array Bool := #[true, true, true, true, true, true, true, true, true, true, false, false, false, false, false, false, false, false, false, false, false, false, false, false, false, false, false, false, false, false]
abbrev b19_11 : Array Bool := #[true, true, true, true, true, true, true, true, true, true, true, false, false, false, false, false, false, false, false, false, false, false, false, false, false, false, false, false, false, false]
abbrev b19_12 : Array Bool := #[true, true, true, true, true, true, true, true, true, true, true, true, false, false, false, false, false, false, false, false, false, false, false, false, false, false, false, false, false, false]
abbrev b19_13 : Array Bool := #[true, true, true, true, true, true, true, true, true, true, true, true, true, false, false, false, false, false, false, false, false, false, false, false, false, false, false, false, false, false]
abbrev b19_14 : Array Bool := #[true, true, true, true, true, true, true, true, true, true, true, true, true, true, false, false, false, false, false, false, false, false, false, false, false, false, false, false, false, false]
abbrev b19_15 : Array Bool := #[true, true, true, true, true, true, true, true, true, true, true, true, true, true, true, false, false, false, false, false, false, false, false, false, false, false, false, false, false, false]
abbrev b19_16 : Array Bool := #[true, true, true, true, true, true, true, true, true, true, true, true, true, true, true, true, false, false, false, false, false, false, false, false, false, false, false, false, false, false]
abbrev b19_17 : Array Bool := #[true, true, true, true, true, true, true, true, true, true, true, true, true, true, true, true, true, false, false, false, false, false, false, false, false, false, false, false, false, false]
abbrev b19_18 : Array Bool := #[true, true, true, true, true, true, true, true, true, true, true, true, true, true, true, true, true, true, false, false, false, false, false, false, false, false, false, false, false, false]
abbrev b19_19 : Array Bool := #[true, true, true, true, true, true, true, true, true, true, true, true, true, true, true, true, true, true, true, false, false, false, false, false, false, false, false, false, false, false]
abbrev b19_20 : Array Bool := #[true, true, true, true, true, true, true, true, true, true, true, true, true, true, true, true, true, true, true, true, false, false, false, false, false, false, false, false, false, false]
abbrev b19_21 : Array Bool := #[true, true, true, true, true, true, true, true, true, true, true, true, true, true, true, true, true, true, true, true, true, false, false, false, false, false, false, false, false, false]
abbrev b19_22 : Array Bool := #[true, true, true, true, true, true, true, true, true, true, true, true, true, true, true, true, true, true, true, true, true, true, false, false, false, false, false, false, false, false]
abbrev b19_23 : Array Bool := #[true, true, true, true, true, true, true, true, true, true, true, true, true, true, true, true, true, true, true, true, true, true, true, false, false, false, false, false, false, false]
abbrev b19_24 : Array Bool := #[true, true, true, true, true, true, true, true, true, true, true, true, true, true, true, true, true, true, true, true, true, true, true, true, false, false, false, false, false, false]
abbrev b19_25 : Array Bool := #[true, true, true, true, true, true, true, true, true, true, true, true, true, true, true, true, true, true, true, true, true, true, true, true, true, false, false, false, false, false]
abbrev b19_26 : Array Bool := #[true, true, true, true, true, true, true, true, true, true, true, true, true, true, true, true, true, true, true, true, true, true, true, true, true, true, false, false, false, false]
abbrev b19_27 : Array Bool := #[true, true, true, true, true, true, true, true, true, true, true, true, true, true, true, true, true, true, true, true, true, true, true, true, true, true, true, false, false, false]
abbrev b19_28 : Array Bool := #[true, true, true, true, true, true, true, true, true, true, true, true, true, true, true, true, true, true, true, true, true, true, true, true, true, true, true, true, false, false]
abbrev b19_29 : Array Bool := #[true, true, true, true, true, true, true, true, true, true, true, true, true, true, true, true, true, true, true, true, true, true, true, true, true, true, true, true, true, false]
abbrev b19_30 : Array Bool := #[true, true, true, true, true, true, true, true, true, true, true, true, true, true, true, true, true, true, true, true, true, true, true, true, true, true, true, true, true, true]
abbrev b19_31 : Array Bool := #[true, true, true, true, true, true, true, true, true, true, true, true, true, true, true, true, true, true, true, true, true, true, true, false, true, false, false, false, false, false]
def bag_Right.l0 : Nat → List (S27) → List (S27) → Int → Int → Option (Bool)
 | 0, _, _, _, _ => none
 | k + 1, x0, x5, x6, x7 => if x7 < x6 then (if 0 ≤ x7 then (if x7 < (x5.length : Int) then (if ((rd_T27 x5 x7).f1) = 0 then (some false) else ((bag_fits.f ((rd_T27 x5 x7).f1)).bind fun t129 => (if t129 = true then ((api_Value_29_at_bag_wrong.f k ((rd_T27 x5 x7).f0)).bind fun t130 => (if t130 = true then (some false) else (if x7 > 0 then (if 0 ≤ (wrap64 (x7 - 1)) then (if (wrap64 (x7 - 1)) < (x0.length : Int) then ((value_Rows.f k ((rd_T27 x0 (wrap64 (x7 - 1))).f0) ((rd_T27 x5 x7).f0)).bind fun t132 => (if t132 ≥ 0 then (some false) else (bag_Right.l0 k x0 x5 x6 (wrap64 (x7 + 1))))) else (none)) else (none)) else (bag_Right.l0 k x0 x5 x6 (wrap64 (x7 + 1)))))) else (some false)))) else (none)) else (none)) else (some true)
def bag_Right.f (k : Nat) (l0 : List (S27)) : Option (Bool) := bag_Right.l0 k l0 l0 (l0.length : Int) 0
theorem bag_Right.mono_l : ∀ k, (∀ y0 y1 y2 y3, LeO (bag_Right.l0 k y0 y1 y2 y3) (bag_Right.l0 (k + 1) y0 y1 y2 y3))
 | 0 => fun _ _ _ _ r h => by simp [bag_Right.l0] at h
 | k + 1 => by
  have ih0 := bag_Right.mono_l k
  ·intro y0 y1 y2 y3
   unfold bag_Right.l0
   repeat' first
   | (with_reducible exact ih0 _ _ _ _)
   | (with_reducible exact api_Value_29_at_bag_wrong.mono _ _)
   | (with_reducible exact value_Rows.mono _ _ _)
   | (with_reducible exact LeO.refl _)
   | (with_reducible exact LeO.none _)
   | (with_reducible refine LeO.ite ?_ ?_)
   | (with_reducible refine LeO.bind ?_ (fun _ => ?_))
   | exact ih0 _ _ _ _
   | exact api_Value_29_at_bag_wrong.mono _ _
   | exact value_Rows.mono _ _ _
   | exact LeO.none _
   | refine LeO.ite ?_ ?_
   | refine LeO.bind ?_ (fun _ => ?_)
theorem bag_Right.mono : ∀ a0 k, LeO (bag_Right.f k a0) (bag_Right.f (k + 1) a0) := by
 intro a0 k
 have ih0 := bag_Right.mono_l k
 unfold bag_Right.f
 repeat' first
   | (with_reducible exact ih0 _ _ _ _)
   | (with_reducible exact api_Value_29_at_bag_wrong.mono _ _)
   | (with_reducible exact value_Rows.mono _ _ _)
   | (with_reducible exact LeO.refl _)
   | (with_reducible exact LeO.none _)
   | (with_reducible refine LeO.ite ?_ ?_)
   | (with_reducible refine LeO.bind ?_ (fun _ => ?_))
   | exact ih0 _ _ _ _
   | exact api_Value_29_at_bag_wrong.mono _ _
   | exact value_Rows.mono _ _ _
   | exact LeO.none _
   | refine LeO.ite ?_ ?_
   | refine LeO.bind ?_ (fun _ => ?_)
def bag_Right.T4 : Bool × List (List Nat × List Nat) := (true, [([], []), ([0], [0]), ([1], [1]), ([2], [2]), ([3], [3]), ([4, 3], [3, 4]), ([5, 3, 3], [3, 5]), ([6, 3], [3, 6]), ([3, 7], [3, 7]), ([8, 6], [8]), ([9], [9]), ([10, 9], [9, 10]), ([11, 9, 9], [9, 11]), ([9, 12], [9, 12]), ([13, 12], [13]), ([14], [14]), ([15, 14], [14, 15]), ([16, 14, 14], [14, 16]), ([17], [17]), ([17], [17]), ([19, 17], [17, 19]), ([18, 20, 17], [17, 18, 20]), ([21, 17], [17, 21]), ([22, 17], [17, 22]), ([17], [17]), ([24, 17], [17, 24]), ([23, 25, 17, 17], [17, 23, 25]), ([26, 17], [17, 26]), ([17, 27, 14], [14, 17, 27]), ([14, 28], [14, 28])])
def bag_Right.B4 : List Nat := [0, 1, 3, 7, 15, 31, 63, 127, 255, 511, 1023, 2047, 4095, 8191, 16383, 32767, 65535, 131071, 262143, 262143, 786431, 2097151, 4194303, 8388607, 262143, 17039359, 67108863, 134217727, 268435455, 536870911]
theorem bag_Right.tab4 : rtab .any (opsOf Tryd.f12 4) = bag_Right.T4 := by kernel_rfl
theorem bag_Right.bits4 : waitsOk bag_Right.T4.2 bag_Right.B4 = true := by kernel_rfl
set_option maxHeartbeats 8000000 in
set_option maxRecDepth 100000 in
theorem bag_Right.calls (k : Nat) (A0 : Option Addr) (c0 : Nat) (l0 : List (S27)) (r : Bool) (w : World) (hr0 : Kd.C k27 w A0 l0.length l0) (hc0 : l0.length ≤ c0) (h : bag_Right.f k l0 = some r) (hG : Glob w) :
  Calls Tryd.prog 12 #[.slice A0 l0.length c0] w fun e w' => e = .returned (.bool r) ∧ Below w.heap.size w w' := by
 have hu27 := Tryd.underlying27
 have HG := Aside0.mk hG
 clear hG
 have HR0 := Aside0.mk hr0
 have HC0 := Aside0.mk hc0
 clear hr0 hc0
 have HB := Aside0.mk (Below.refl w.heap.size w)
 have H : (bag_Right.l0 k l0 l0 (l0.length : Int) 0) = some r := h
 clear h
 have H' := Aside0.mk H
 clear H
 go_enter Tryd.func12, Tryd.ntmps12
 go_wp2
 go_loopg [7] k (fun kq v7 w' => ∃ (x7_1 : Int), v7 = .int .i64 x7_1 ∧ Aside0 (bag_Right.l0 kq l0 l0 (l0.length : Int) x7_1 = some r) ∧ Aside0 (kq ≤ k) ∧ Aside0 (Below w.heap.size w w'))
 case atStart => exact ⟨(0), q9_, H', ⟨Nat.le_refl _⟩, ⟨q0_⟩⟩
 case round =>
  clear H'
  try clear c1
  obtain ⟨x7_1, rfl, HA, HK1, HB⟩ := hrel
  cases gk with
  | zero => exact absurd HA.out (by simp [bag_Right.l0])
  | succ k1 =>
   have H := HA.out
   clear HA
   simp only [bag_Right.l0] at H
   by_cases c2 : x7_1 < (l0.length : Int)
   ·rw [if_pos c2] at H
    have c2b0 : decide (x7_1 < (l0.length : Int)) = true := decide_eq_true c2
    clear c2
    by_cases c3 : 0 ≤ x7_1
    ·rw [if_pos c3] at H
     have c3b0 : decide (0 ≤ x7_1) = true := decide_eq_true c3
     clear c3
     by_cases c4 : x7_1 < (l0.length : Int)
     ·rw [if_pos c4] at H
      have c4b0 : decide (x7_1 < (l0.length : Int)) = true := decide_eq_true c4
      clear c4
      by_cases c5 : ((rd_T27 l0 x7_1).f1) = 0
      ·rw [if_pos c5] at H
       have c5b0 : (((rd_T27 l0 x7_1).f1) == 0) = true := beq_iff_eq.mpr c5
       have c5b1 : (((rd_T27 l0 x7_1).f1) != 0) = false := bne_eq_false_iff_eq.mpr c5
       clear c5
       obtain rfl := Option.some.inj H
       have p127 : 0 ≤ (x7_1 : Int) := of_decide_eq_true q5_
       have q127 : x7_1 < (l0.length : Int) := of_decide_eq_true q5_
       obtain ⟨ad127, A127_0, c127_0, e127, hx127_0, hx127_1, hl127_0, hi127_0⟩ := at_T27 HR0.out x7_1 p127 q127
       cases e127
       replace hx127_0 := (HB.out.cell (World.block_lt_of_cell? w _ hx127_0)).trans hx127_0
       replace hx127_1 := (HB.out.cell (World.block_lt_of_cell? w _ hx127_1)).trans hx127_1
       have HR127_0 := Aside0.mk hi127_0
       have HC127_0 := Aside0.mk hl127_0
       clear hi127_0 hl127_0
       replace p127 := eq_true p127
       replace q127 := eq_true q127
       try go_wp2_with (first | ((with_reducible refine gate_dst (N := 4) rfl ?_); refine box_event ?hg (N := 4) ?hd (cs := #[.slice none 0 0, .int .i64 0]) (t := 27) ?hr ?_; (case hd => rfl); (case hg => rfl); (case hr => first | (go_simp; done) | (go_simp; rfl)); intro gb128 hg w6 hbox hb; have n0_ := Aside0.mk (below_step q0_ hb); have n1_ := Aside0.mk (hbox); have n2_ := Aside0.mk ((q3_ : w.heap.size ≤ gb128)); have n3_ := Aside0.mk ((q3_ : w.heap.size ≤ gb128)); clear HB; have HB := n0_; have BK128 := n1_; have GW128 := n2_; have GE128 := n3_; clear n0_ n1_ n2_ n3_; clear hb hbox hg; have hcz7_0 : w6.cell? ⟨gb128, 0, none⟩ = some (.slice none 0 0) := (blk_cell BK128.out 0).trans rfl; have hcz7_1 : w6.cell? ⟨gb128, 1, none⟩ = some (.int .i64 0) := (blk_cell BK128.out 1).trans rfl; have hfz7_0 := blk_frozen BK128.out 0; have hfz7_1 := blk_frozen BK128.out 1))
       have n0_ : Aside0 (((w6.setCell ⟨gb128, 0, none⟩ (.slice A127_0 ((rd_T27 l0 x7_1).f0).length c127_0)).setCell ⟨gb128, 1, none⟩ (.int .i64 ((rd_T27 l0 x7_1).f1))).heap[gb128]? = some (.cells #[.slice A127_0 ((rd_T27 l0 x7_1).f0).length c127_0, .int .i64 ((rd_T27 l0 x7_1).f1)] 27 (0, 0))) := ⟨q17_⟩
       have n1_ : Aside0 (Below w.heap.size w ((w6.setCell ⟨gb128, 0, none⟩ (.slice A127_0 ((rd_T27 l0 x7_1).f0).length c127_0)).setCell ⟨gb128, 1, none⟩ (.int .i64 ((rd_T27 l0 x7_1).f1)))) := ⟨q0_⟩
       (try clear BK128)
       (try clear HB)
       generalize ((w6.setCell ⟨gb128, 0, none⟩ (.slice A127_0 ((rd_T27 l0 x7_1).f0).length c127_0)).setCell ⟨gb128, 1, none⟩ (.int .i64 ((rd_T27 l0 x7_1).f1))) = w8 at n0_ n1_ ⊢
       have BK128 := n0_
       have HB := n1_
       clear n0_ n1_
       have n0_ := Aside0.mk (blk_drew BK128.out)
       have n1_ := Aside0.mk (below_drew1 HB.out)
       clear BK128
       clear HB
       have BK128 := n0_
       have HB := n1_
       clear n0_ n1_
       refine start_ (n := 30) (S := fun w' => w'.cell? ⟨gb128, 0, none⟩ = some (.slice A127_0 ((rd_T27 l0 x7_1).f0).length c127_0) ∧ w'.cell? ⟨gb128, 1, none⟩ = some (.int .i64 ((rd_T27 l0 x7_1).f1))) (ds := []) b19_0 (by kernel_rfl) rfl rfl ⟨(blk_cell BK128.out 0).trans rfl, (blk_cell BK128.out 1).trans rfl⟩ (fun hHeld => ?_); refine with_tabW bag_Right.tab4 bag_Right.bits4 (fun HT_ HW_ => ?_)
       generalize w8.drew = w9 at BK128 HB hHeld ⊢
       refine pure_ (i := 0) (N := some 12) (v := ?_) (a' := ?_) b19_1 rfl rfl qh_ qi_ (Or.inl ⟨qr_, ?_⟩) ?_ ?_; rotate_left; (intro w'; go_simp; with_reducible rfl); rotate_left; exact qa_
       refine take_ (i := 1) (N := some 13) (v := ?_) (a' := ?_) b19_2 rfl rfl (take_ofW HT_.out HW_.out (by kernel_rfl)) (fun _ _ _ h => h) (Or.inl ⟨by rfl, ?_⟩) hHeld ?_ ?_; rotate_left; (rintro w' ⟨s0, s1⟩; go_simp; with_reducible rfl); rotate_left; exact qa_
       refine pure_ (i := 2) (N := some 14) (v := ?_) (a' := ?_) b19_3 rfl rfl qh_ qi_ (Or.inl ⟨qr_, ?_⟩) ?_ ?_; rotate_left; (intro w'; go_simp; with_reducible rfl); rotate_left; exact qa_
       refine pure_ (i := 3) (N := some 15) (v := ?_) (a' := ?_) b19_4 rfl rfl qh_ qi_ (Or.inl ⟨qr_, ?_⟩) ?_ ?_; rotate_left; (intro w'; go_simp; with_reducible rfl); rotate_left; exact qa_
       refine pure_ (i := 4) (N := some 16) (v := undef) (a' := ?_) b19_5 rfl rfl qh_ qi_ (Or.inr ⟨qr_, rfl⟩) ?_ ?_; rotate_left; exact qa_
       refine pure_ (i := 5) (N := some 17) (v := undef) (a' := ?_) b19_6 rfl rfl qh_ qi_ (Or.inr ⟨qr_, rfl⟩) ?_ ?_; rotate_left; exact qa_
       refine pure_ (i := 6) (N := some 18) (v := undef) (a' := ?_) b19_7 rfl rfl qh_ qi_ (Or.inr ⟨qr_, rfl⟩) ?_ ?_; rotate_left; exact qa_
       refine pure_ (i := 7) (N := some 19) (v := undef) (a' := ?_) b19_8 rfl rfl qh_ qi_ (Or.inr ⟨qr_, rfl⟩) ?_ ?_; rotate_left; exact qa_
       refine pure_ (i := 8) (N := some 20) (v := ?_) (a' := ?_) b19_9 rfl rfl qh_ qi_ (Or.inl ⟨qr_, ?_⟩) ?_ ?_; rotate_left; (intro w'; go_simp; with_reducible rfl); rotate_left; exact qa_
       refine pure_ (i := 9) (N := some 21) (v := ?_) (a' := ?_) b19_10 rfl rfl qh_ qi_ (Or.inl ⟨qr_, ?_⟩) ?_ ?_; rotate_left; (intro w'; go_simp; with_reducible rfl); rotate_left; exact qa_
       refine pure_ (i := 10) (N := some 22) (v := undef) (a' := ?_) b19_11 rfl rfl qh_ qi_ (Or.inr ⟨qr_, rfl⟩) ?_ ?_; rotate_left; exact qa_
       refine pure_ (i := 11) (N := some 23) (v := undef) (a' := ?_) b19_12 rfl rfl qh_ qi_ (Or.inr ⟨qr_, rfl⟩) ?_ ?_; rotate_left; exact qa_
       refine pure_ (i := 12) (N := some 24) (v := undef) (a' := ?_) b19_13 rfl rfl qh_ qi_ (Or.inr ⟨qr_, rfl⟩) ?_ ?_; rotate_left; exact qa_
       refine pure_ (i := 13) (N := some 25) (v := ?_) (a' := ?_) b19_14 rfl rfl qh_ qi_ (Or.inl ⟨qr_, ?_⟩) ?_ ?_; rotate_left; (intro w'; go_simp; with_reducible rfl); rotate_left; exact qa_
       refine pure_ (i := 14) (N := some 26) (v := ?_) (a' := ?_) b19_15 rfl rfl qh_ qi_ (Or.inl ⟨qr_, ?_⟩) ?_ ?_; rotate_left; (intro w'; go_simp; with_reducible rfl); rotate_left; exact qa_
       refine pure_ (i := 15) (N := some 27) (v := undef) (a' := ?_) b19_16 rfl rfl qh_ qi_ (Or.inr ⟨qr_, rfl⟩) ?_ ?_; rotate_left; exact qa_
       refine pure_ (i := 16) (N := some 28) (v := undef) (a' := ?_) b19_17 rfl rfl qh_ qi_ (Or.inr ⟨qr_, rfl⟩) ?_ ?_; rotate_left; exact qa_
       refine pure_ (i := 17) (N := some 29) (v := undef) (a' := ?_) b19_18 rfl rfl qh_ qi_ (Or.inr ⟨qr_, rfl⟩) ?_ ?_; rotate_left; exact qa_
       refine pure_ (i := 18) (N := some 30) (v := undef) (a' := ?_) b19_19 rfl rfl qh_ qi_ (Or.inr ⟨qr_, rfl⟩) ?_ ?_; rotate_left; exact qa_
       refine pure_ (i := 19) (N := some 31) (v := undef) (a' := ?_) b19_20 rfl rfl qh_ qi_ (Or.inr ⟨qr_, rfl⟩) ?_ ?_; rotate_left; exact qa_
       refine pure_ (i := 20) (N := some 32) (v := undef) (a' := ?_) b19_21 rfl rfl qh_ qi_ (Or.inr ⟨qr_, rfl⟩) ?_ ?_; rotate_left; exact qa_
       refine pure_ (i := 21) (N := some 33) (v := undef) (a' := ?_) b19_22 rfl rfl qh_ qi_ (Or.inr ⟨qr_, rfl⟩) ?_ ?_; rotate_left; exact qa_
       refine pure_ (i := 22) (N := some 34) (v := undef) (a' := ?_) b19_23 rfl rfl qh_ qi_ (Or.inr ⟨qr_, rfl⟩) ?_ ?_; rotate_left; exact qa_
       refine pure_ (i := 23) (N := some 35) (v := undef) (a' := ?_) b19_24 rfl rfl qh_ qi_ (Or.inr ⟨qr_, rfl⟩) ?_ ?_; rotate_left; exact qa_
       refine pure_ (i := 24) (N := some 36) (v := undef) (a' := ?_) b19_25 rfl rfl qh_ qi_ (Or.inr ⟨qr_, rfl⟩) ?_ ?_; rotate_left; exact qa_
       refine pure_ (i := 25) (N := some 37) (v := undef) (a' := ?_) b19_26 rfl rfl qh_ qi_ (Or.inr ⟨qr_, rfl⟩) ?_ ?_; rotate_left; exact qa_
       refine pure_ (i := 26) (N := some 38) (v := undef) (a' := ?_) b19_27 rfl rfl qh_ qi_ (Or.inr ⟨qr_, rfl⟩) ?_ ?_; rotate_left; exact qa_
       refine pure_ (i := 27) (N := some 39) (v := undef) (a' := ?_) b19_28 rfl rfl qh_ qi_ (Or.inr ⟨qr_, rfl⟩) ?_ ?_; rotate_left; exact qa_
       refine pure_ (i := 28) (N := some 40) (v := undef) (a' := ?_) b19_29 rfl rfl qh_ qi_ (Or.inr ⟨qr_, rfl⟩) ?_ ?_; rotate_left; exact qa_
       refine pure_ (i := 29) (N := some 41) (v := ?_) (a' := ?_) b19_30 rfl rfl qh_ qi_ (Or.inl ⟨qr_, ?_⟩) ?_ ?_; rotate_left; (intro w'; go_simp; with_reducible rfl); rotate_left; exact qa_
       refine done_ (done_of HT_.out (by kernel_rfl)) ?_
       try go_wp2
       go_ret
       exact ⟨q4_, q0_⟩
      ·rw [if_neg c5] at H
       have c5b0 : (((rd_T27 l0 x7_1).f1) == 0) = false := beq_eq_false_iff_ne.mpr c5
       have c5b1 : (((rd_T27 l0 x7_1).f1) != 0) = true := bne_iff_ne.mpr c5
       replace H := Option.bind_eq_some_iff.mp H
       obtain ⟨t129, A100, H⟩ := H
       replace H : (if t129 = true then ((api_Value_29_at_bag_wrong.f k1 ((rd_T27 l0 x7_1).f0)).bind fun t130 => (if t130 = true then (some false) else (if x7_1 > 0 then (if 0 ≤ (wrap64 (x7_1 - 1)) then (if (wrap64 (x7_1 - 1)) < (l0.length : Int) then ((value_Rows.f k1 ((rd_T27 l0 (wrap64 (x7_1 - 1))).f0) ((rd_T27 l0 x7_1).f0)).bind fun t132 => (if t132 ≥ 0 then (some false) else (bag_Right.l0 k1 l0 l0 (l0.length : Int) (wrap64 (x7_1 + 1))))) else (none)) else (none)) else (bag_Right.l0 k1 l0 l0 (l0.length : Int) (wrap64 (x7_1 + 1)))))) else (some false)) = some r := H
       have A10 := Aside0.mk A100
       clear A100
       by_cases c11 : t129 = true
       ·subst c11
        replace H := ifT_ H
        replace H := Option.bind_eq_some_iff.mp H
        obtain ⟨t130, A120, H⟩ := H
        replace H : (if t130 = true then (some false) else (if x7_1 > 0 then (if 0 ≤ (wrap64 (x7_1 - 1)) then (if (wrap64 (x7_1 - 1)) < (l0.length : Int) then ((value_Rows.f k1 ((rd_T27 l0 (wrap64 (x7_1 - 1))).f0) ((rd_T27 l0 x7_1).f0)).bind fun t132 => (if t132 ≥ 0 then (some false) else (bag_Right.l0 k1 l0 l0 (l0.length : Int) (wrap64 (x7_1 + 1))))) else (none)) else (none)) else (bag_Right.l0 k1 l0 l0 (l0.length : Int) (wrap64 (x7_1 + 1))))) = some r := H
        have A12 := Aside0.mk A120
        clear A120
        by_cases c13 : t130 = true
        ·subst c13
         replace H := ifT_ H
         obtain rfl := Option.some.inj H
         have p127 : 0 ≤ (x7_1 : Int) := of_decide_eq_true q5_
         have q127 : x7_1 < (l0.length : Int) := of_decide_eq_true q5_
         obtain ⟨ad127, A127_0, c127_0, e127, hx127_0, hx127_1, hl127_0, hi127_0⟩ := at_T27 HR0.out x7_1 p127 q127
         cases e127
         replace hx127_0 := (HB.out.cell (World.block_lt_of_cell? w _ hx127_0)).trans hx127_0
         replace hx127_1 := (HB.out.cell (World.block_lt_of_cell? w _ hx127_1)).trans hx127_1
         have HR127_0 := Aside0.mk hi127_0
         have HC127_0 := Aside0.mk hl127_0
         clear hi127_0 hl127_0
         replace p127 := eq_true p127
         replace q127 := eq_true q127
         try go_wp2_with (first | ((with_reducible refine gate_dst (N := 4) rfl ?_); refine box_event ?hg (N := 4) ?hd (cs := #[.slice none 0 0, .int .i64 0]) (t := 27) ?hr ?_; (case hd => rfl); (case hg => rfl); (case hr => first | (go_simp; done) | (go_simp; rfl)); intro gb128 hg w14 hbox hb; have n0_ := Aside0.mk (below_step q0_ hb); have n1_ := Aside0.mk (hbox); have n2_ := Aside0.mk ((q3_ : w.heap.size ≤ gb128)); have n3_ := Aside0.mk ((q3_ : w.heap.size ≤ gb128)); clear HB; have HB := n0_; have BK128 := n1_; have GW128 := n2_; have GE128 := n3_; clear n0_ n1_ n2_ n3_; clear hb hbox hg; have hcz15_0 : w14.cell? ⟨gb128, 0, none⟩ = some (.slice none 0 0) := (blk_cell BK128.out 0).trans rfl; have hcz15_1 : w14.cell? ⟨gb128, 1, none⟩ = some (.int .i64 0) := (blk_cell BK128.out 1).trans rfl; have hfz15_0 := blk_frozen BK128.out 0; have hfz15_1 := blk_frozen BK128.out 1))
         have n0_ : Aside0 (((w14.setCell ⟨gb128, 0, none⟩ (.slice A127_0 ((rd_T27 l0 x7_1).f0).length c127_0)).setCell ⟨gb128, 1, none⟩ (.int .i64 ((rd_T27 l0 x7_1).f1))).heap[gb128]? = some (.cells #[.slice A127_0 ((rd_T27 l0 x7_1).f0).length c127_0, .int .i64 ((rd_T27 l0 x7_1).f1)] 27 (0, 0))) := ⟨q17_⟩
         have n1_ : Aside0 (Below w.heap.size w ((w14.setCell ⟨gb128, 0, none⟩ (.slice A127_0 ((rd_T27 l0 x7_1).f0).length c127_0)).setCell ⟨gb128, 1, none⟩ (.int .i64 ((rd_T27 l0 x7_1).f1)))) := ⟨q0_⟩
         (try clear BK128)
         (try clear HB)
         generalize ((w14.setCell ⟨gb128, 0, none⟩ (.slice A127_0 ((rd_T27 l0 x7_1).f0).length c127_0)).setCell ⟨gb128, 1, none⟩ (.int .i64 ((rd_T27 l0 x7_1).f1))) = w16 at n0_ n1_ ⊢
         have BK128 := n0_
         have HB := n1_
         clear n0_ n1_
         have n0_ := Aside0.mk (blk_drew BK128.out)
         have n1_ := Aside0.mk (below_drew1 HB.out)
         clear BK128
         clear HB
         have BK128 := n0_
         have HB := n1_
         clear n0_ n1_
         refine start_ (n := 30) (S := fun w' => w'.cell? ⟨gb128, 0, none⟩ = some (.slice A127_0 ((rd_T27 l0 x7_1).f0).length c127_0) ∧ w'.cell? ⟨gb128, 1, none⟩ = some (.int .i64 ((rd_T27 l0 x7_1).f1))) (ds := []) b19_0 (by kernel_rfl) rfl rfl ⟨(blk_cell BK128.out 0).trans rfl, (blk_cell BK128.out 1).trans rfl⟩ (fun hHeld => ?_); refine with_tabW bag_Right.tab4 bag_Right.bits4 (fun HT_ HW_ => ?_)
         generalize w16.drew = w17 at BK128 HB hHeld ⊢
         refine pure_ (i := 0) (N := some 12) (v := ?_) (a' := ?_) b19_1 rfl rfl qh_ qi_ (Or.inl ⟨qr_, ?_⟩) ?_ ?_; rotate_left; (intro w'; go_simp; with_reducible rfl); rotate_left; exact qa_
         refine take_ (i := 1) (N := some 13) (v := ?_) (a' := ?_) b19_2 rfl rfl (take_ofW HT_.out HW_.out (by kernel_rfl)) (fun _ _ _ h => h) (Or.inl ⟨by rfl, ?_⟩) hHeld ?_ ?_; rotate_left; (rintro w' ⟨s0, s1⟩; go_simp; with_reducible rfl); rotate_left; exact qa_
         refine pure_ (i := 2) (N := some 14) (v := ?_) (a' := ?_) b19_3 rfl rfl qh_ qi_ (Or.inl ⟨qr_, ?_⟩) ?_ ?_; rotate_left; (intro w'; go_simp; with_reducible rfl); rotate_left; exact qa_
         refine pure_ (i := 3) (N := some 15) (v := ?_) (a' := ?_) b19_4 rfl rfl qh_ qi_ (Or.inl ⟨qr_, ?_⟩) ?_ ?_; rotate_left; (intro w'; go_simp; with_reducible rfl); rotate_left; exact qa_
         refine pure_ (i := 4) (N := some 16) (v := ?_) (a' := ?_) b19_5 rfl rfl qh_ qi_ (Or.inl ⟨qr_, ?_⟩) ?_ ?_; rotate_left; (intro w'; go_simp; with_reducible rfl); rotate_left; exact qa_
         refine take_ (i := 5) (N := some 17) (v := ?_) (a' := ?_) b19_6 rfl rfl (take_ofW HT_.out HW_.out (by kernel_rfl)) (fun _ _ _ h => h) (Or.inl ⟨by rfl, ?_⟩) hHeld ?_ ?_; rotate_left; (rintro w' ⟨s0, s1⟩; go_simp; with_reducible rfl); rotate_left; exact qa_
         refine one_ (i := 6) (N := some 18) b19_7 rfl rfl (one_of HT_.out (by kernel_rfl)) (by decide) (fun K hK => ?_)
         refine goes_ Tryd.func28 (by kernel_rfl) rfl #[.int .i64 ((rd_T27 l0 x7_1).f1)] (by rfl) rfl rfl q2_ ?_
         with_reducible refine (bag_fits.calls ((rd_T27 l0 x7_1).f1) true _ A10.out).mono ?_
         rintro e w' ⟨rfl, ⟨nd, rfl⟩⟩
         refine ⟨_, rfl, ?_⟩
         refine hK.out _ _ ⟨(blk_cell BK128.out 0).trans rfl, (blk_cell BK128.out 1).trans rfl⟩ (fun hHeld => ?_)
         clear hK K
         refine norm_ (a' := ?_) ?_ ?_
         rotate_left
         ·show Act.put _ (some 18) _ = _
          simp only [Act.put, List.setIfInBounds_toArray, List.set_cons_zero, List.set_cons_succ, i64_w, i32_w]
          rfl
         refine pure_ (i := 7) (N := some 19) (v := ?_) (a' := ?_) b19_8 rfl rfl qh_ qi_ (Or.inl ⟨qr_, ?_⟩) ?_ ?_; rotate_left; (intro w'; go_simp; with_reducible rfl); rotate_left; exact qa_
         refine pure_ (i := 8) (N := some 20) (v := ?_) (a' := ?_) b19_9 rfl rfl qh_ qi_ (Or.inl ⟨qr_, ?_⟩) ?_ ?_; rotate_left; (intro w'; go_simp; with_reducible rfl); rotate_left; exact qa_
         refine pure_ (i := 9) (N := some 21) (v := ?_) (a' := ?_) b19_10 rfl rfl qh_ qi_ (Or.inl ⟨qr_, ?_⟩) ?_ ?_; rotate_left; (intro w'; go_simp; with_reducible rfl); rotate_left; exact qa_
         refine pure_ (i := 10) (N := some 22) (v := ?_) (a' := ?_) b19_11 rfl rfl qh_ qi_ (Or.inl ⟨qr_, ?_⟩) ?_ ?_; rotate_left; (intro w'; go_simp; with_reducible rfl); rotate_left; exact qa_
         refine take_ (i := 11) (N := some 23) (v := ?_) (a' := ?_) b19_12 rfl rfl (take_ofW HT_.out HW_.out (by kernel_rfl)) (fun _ _ _ h => h) (Or.inl ⟨by rfl, ?_⟩) hHeld ?_ ?_; rotate_left; (rintro w' ⟨s0, s1⟩; go_simp; with_reducible rfl); rotate_left; exact qa_
         refine one_ (i := 12) (N := some 24) b19_13 rfl rfl (one_of HT_.out (by kernel_rfl)) (by decide) (fun K hK => ?_)
         refine goes_ Tryd.func29 (by kernel_rfl) rfl #[.slice A127_0 ((rd_T27 l0 x7_1).f0).length c127_0, (.func (.func 30) #[] #[])] (by rfl) rfl rfl q2_ ?_
         with_reducible refine (api_Value_29_at_bag_wrong.calls k1 _ _ ((rd_T27 l0 x7_1).f0)  true _ ?side1 ?side2 A12.out q31_).mono ?_
         (case side1 => repeat (first | exact (Kd.C_below HR127_0.out q0_) | (with_reducible refine Kd.C_alloc ?_ _) | (with_reducible refine Kd.C_drewN ?_ _) | (with_reducible refine Kd.C_drew ?_)))
         (case side2 => exact HC127_0.out)
         rintro e w18 ⟨rfl, hb⟩
         refine ⟨_, rfl, ?_⟩
         have n0_ := Aside0.mk (blk_below (g := gb128) (o := .cells #[.slice A127_0 ((rd_T27 l0 x7_1).f0).length c127_0, .int .i64 ((rd_T27 l0 x7_1).f1)] 27 (0, 0)) q50_ hb)
         have n1_ := Aside0.mk (below_step q0_ hb)
         clear BK128
         clear HB
         have BK128 := n0_
         have HB := n1_
         clear n0_ n1_
         (try clear hb)
         (try clear hb2)
         (try clear hk)
         (try clear hi)
         refine hK.out _ _ ⟨(blk_cell BK128.out 0).trans rfl, (blk_cell BK128.out 1).trans rfl⟩ (fun hHeld => ?_)
         clear hK K
         refine norm_ (a' := ?_) ?_ ?_
         rotate_left
         ·show Act.put _ (some 24) _ = _
          simp only [Act.put, List.setIfInBounds_toArray, List.set_cons_zero, List.set_cons_succ, i64_w, i32_w]
          rfl
         refine pure_ (i := 13) (N := some 25) (v := ?_) (a' := ?_) b19_14 rfl rfl qh_ qi_ (Or.inl ⟨qr_, ?_⟩) ?_ ?_; rotate_left; (intro w'; go_simp; with_reducible rfl); rotate_left; exact qa_
         refine pure_ (i := 14) (N := some 26) (v := ?_) (a' := ?_) b19_15 rfl rfl qh_ qi_ (Or.inl ⟨qr_, ?_⟩) ?_ ?_; rotate_left; (intro w'; go_simp; with_reducible rfl); rotate_left; exact qa_
         refine pure_ (i := 15) (N := some 27) (v := undef) (a' := ?_) b19_16 rfl rfl qh_ qi_ (Or.inr ⟨qr_, rfl⟩) ?_ ?_; rotate_left; exact qa_
         refine pure_ (i := 16) (N := some 28) (v := undef) (a' := ?_) b19_17 rfl rfl qh_ qi_ (Or.inr ⟨qr_, rfl⟩) ?_ ?_; rotate_left; exact qa_
         refine pure_ (i := 17) (N := some 29) (v := undef) (a' := ?_) b19_18 rfl rfl qh_ qi_ (Or.inr ⟨qr_, rfl⟩) ?_ ?_; rotate_left; exact qa_
         refine pure_ (i := 18) (N := some 30) (v := undef) (a' := ?_) b19_19 rfl rfl qh_ qi_ (Or.inr ⟨qr_, rfl⟩) ?_ ?_; rotate_left; exact qa_
         refine pure_ (i := 19) (N := some 31) (v := undef) (a' := ?_) b19_20 rfl rfl qh_ qi_ (Or.inr ⟨qr_, rfl⟩) ?_ ?_; rotate_left; exact qa_
         refine pure_ (i := 20) (N := some 32) (v := undef) (a' := ?_) b19_21 rfl rfl qh_ qi_ (Or.inr ⟨qr_, rfl⟩) ?_ ?_; rotate_left; exact qa_
         refine pure_ (i := 21) (N := some 33) (v := undef) (a' := ?_) b19_22 rfl rfl qh_ qi_ (Or.inr ⟨qr_, rfl⟩) ?_ ?_; rotate_left; exact qa_
         refine pure_ (i := 22) (N := some 34) (v := undef) (a' := ?_) b19_23 rfl rfl qh_ qi_ (Or.inr ⟨qr_, rfl⟩) ?_ ?_; rotate_left; exact qa_
         refine pure_ (i := 23) (N := some 35) (v := undef) (a' := ?_) b19_24 rfl rfl qh_ qi_ (Or.inr ⟨qr_, rfl⟩) ?_ ?_; rotate_left; exact qa_
         refine pure_ (i := 24) (N := some 36) (v := undef) (a' := ?_) b19_25 rfl rfl qh_ qi_ (Or.inr ⟨qr_, rfl⟩) ?_ ?_; rotate_left; exact qa_
         refine pure_ (i := 25) (N := some 37) (v := undef) (a' := ?_) b19_26 rfl rfl qh_ qi_ (Or.inr ⟨qr_, rfl⟩) ?_ ?_; rotate_left; exact qa_
         refine pure_ (i := 26) (N := some 38) (v := undef) (a' := ?_) b19_27 rfl rfl qh_ qi_ (Or.inr ⟨qr_, rfl⟩) ?_ ?_; rotate_left; exact qa_
         refine pure_ (i := 27) (N := some 39) (v := undef) (a' := ?_) b19_28 rfl rfl qh_ qi_ (Or.inr ⟨qr_, rfl⟩) ?_ ?_; rotate_left; exact qa_
         refine pure_ (i := 28) (N := some 40) (v := undef) (a' := ?_) b19_29 rfl rfl qh_ qi_ (Or.inr ⟨qr_, rfl⟩) ?_ ?_; rotate_left; exact qa_
         refine pure_ (i := 29) (N := some 41) (v := ?_) (a' := ?_) b19_30 rfl rfl qh_ qi_ (Or.inl ⟨qr_, ?_⟩) ?_ ?_; rotate_left; (intro w'; go_simp; with_reducible rfl); rotate_left; exact qa_
         refine done_ (done_of HT_.out (by kernel_rfl)) ?_
         try go_wp2
         go_ret
         exact ⟨q4_, q0_⟩
        ·replace c13 := Bool.eq_false_iff.mpr c13
         subst c13
         replace H := ifF_ H
         by_cases c19 : x7_1 > 0
         ·rw [if_pos c19] at H
          have c19b0 : decide (0 < x7_1) = true := decide_eq_true c19
          clear c19
          obtain ⟨ji20, hji20⟩ : ∃ j_ : Int, (wrap64 (x7_1 - 1)) = j_ := ⟨_, rfl⟩
          replace H : (if 0 ≤ (ji20) then (if (ji20) < (l0.length : Int) then ((value_Rows.f k1 ((rd_T27 l0 (ji20)).f0) ((rd_T27 l0 x7_1).f0)).bind fun t132 => (if t132 ≥ 0 then (some false) else (bag_Right.l0 k1 l0 l0 (l0.length : Int) (wrap64 (x7_1 + 1))))) else (none)) else (none)) = some r := by first | (rw [hji20] at H; exact H) | (simp only [hji20] at H ⊢; exact H)
          (try rw [hji20] at A10)
          (try rw [hji20] at A12)
          have hji20w : (IntKind.i64.wrap (x7_1 - 1)) = ji20 := (i64_w _).trans hji20
          by_cases c21 : 0 ≤ (ji20)
          ·rw [if_pos c21] at H
           have c21b0 : decide (0 ≤ (ji20)) = true := decide_eq_true c21
           clear c21
           by_cases c22 : (ji20) < (l0.length : Int)
           ·rw [if_pos c22] at H
            have c22b0 : decide ((ji20) < (l0.length : Int)) = true := decide_eq_true c22
            clear c22
            replace H := Option.bind_eq_some_iff.mp H
            obtain ⟨t132, A230, H⟩ := H
            replace H : (if t132 ≥ 0 then (some false) else (bag_Right.l0 k1 l0 l0 (l0.length : Int) (wrap64 (x7_1 + 1)))) = some r := H
            have A23 := Aside0.mk A230
            clear A230
            by_cases c24 : t132 ≥ 0
            ·rw [if_pos c24] at H
             have c24b0 : decide (0 ≤ t132) = true := decide_eq_true c24
             clear c24
             obtain rfl := Option.some.inj H
             have p127 : 0 ≤ (x7_1 : Int) := of_decide_eq_true q5_
             have q127 : x7_1 < (l0.length : Int) := of_decide_eq_true q5_
             obtain ⟨ad127, A127_0, c127_0, e127, hx127_0, hx127_1, hl127_0, hi127_0⟩ := at_T27 HR0.out x7_1 p127 q127
             cases e127
             replace hx127_0 := (HB.out.cell (World.block_lt_of_cell? w _ hx127_0)).trans hx127_0
             replace hx127_1 := (HB.out.cell (World.block_lt_of_cell? w _ hx127_1)).trans hx127_1
             have HR127_0 := Aside0.mk hi127_0
             have HC127_0 := Aside0.mk hl127_0
             clear hi127_0 hl127_0
             replace p127 := eq_true p127
             replace q127 := eq_true q127
             try go_wp2_with (first | ((with_reducible refine gate_dst (N := 4) rfl ?_); refine box_event ?hg (N := 4) ?hd (cs := #[.slice none 0 0, .int .i64 0]) (t := 27) ?hr ?_; (case hd => rfl); (case hg => rfl); (case hr => first | (go_simp; done) | (go_simp; rfl)); intro gb128 hg w25 hbox hb; have n0_ := Aside0.mk (below_step q0_ hb); have n1_ := Aside0.mk (hbox); have n2_ := Aside0.mk ((q3_ : w.heap.size ≤ gb128)); have n3_ := Aside0.mk ((q3_ : w.heap.size ≤ gb128)); clear HB; have HB := n0_; have BK128 := n1_; have GW128 := n2_; have GE128 := n3_; clear n0_ n1_ n2_ n3_; clear hb hbox hg; have hcz26_0 : w25.cell? ⟨gb128, 0, none⟩ = some (.slice none 0 0) := (blk_cell BK128.out 0).trans rfl; have hcz26_1 : w25.cell? ⟨gb128, 1, none⟩ = some (.int .i64 0) := (blk_cell BK128.out 1).trans rfl; have hfz26_0 := blk_frozen BK128.out 0; have hfz26_1 := blk_frozen BK128.out 1))
             have n0_ : Aside0 (((w25.setCell ⟨gb128, 0, none⟩ (.slice A127_0 ((rd_T27 l0 x7_1).f0).length c127_0)).setCell ⟨gb128, 1, none⟩ (.int .i64 ((rd_T27 l0 x7_1).f1))).heap[gb128]? = some (.cells #[.slice A127_0 ((rd_T27 l0 x7_1).f0).length c127_0, .int .i64 ((rd_T27 l0 x7_1).f1)] 27 (0, 0))) := ⟨q17_⟩
             have n1_ : Aside0 (Below w.heap.size w ((w25.setCell ⟨gb128, 0, none⟩ (.slice A127_0 ((rd_T27 l0 x7_1).f0).length c127_0)).setCell ⟨gb128, 1, none⟩ (.int .i64 ((rd_T27 l0 x7_1).f1)))) := ⟨q0_⟩
             (try clear BK128)
             (try clear HB)
             generalize ((w25.setCell ⟨gb128, 0, none⟩ (.slice A127_0 ((rd_T27 l0 x7_1).f0).length c127_0)).setCell ⟨gb128, 1, none⟩ (.int .i64 ((rd_T27 l0 x7_1).f1))) = w27 at n0_ n1_ ⊢
             have BK128 := n0_
             have HB := n1_
             clear n0_ n1_
             have n0_ := Aside0.mk (blk_drew BK128.out)
             have n1_ := Aside0.mk (below_drew1 HB.out)
             clear BK128
             clear HB
             have BK128 := n0_
             have HB := n1_
             clear n0_ n1_
             have p131 : 0 ≤ ((ji20) : Int) := of_decide_eq_true q5_
             have q131 : (ji20) < (l0.length : Int) := of_decide_eq_true q5_
             obtain ⟨ad131, A131_0, c131_0, e131, hx131_0, hx131_1, hl131_0, hi131_0⟩ := at_T27 HR0.out (ji20) p131 q131
             have hw131_1 := hx131_1
             have hw131_0 := hx131_0
             obtain rfl : ad127 = ad131 := (by injection e131)
             replace hx131_0 := (HB.out.cell (World.block_lt_of_cell? w _ hx131_0)).trans hx131_0
             replace hx131_1 := (HB.out.cell (World.block_lt_of_cell? w _ hx131_1)).trans hx131_1
             have HR131_0 := Aside0.mk hi131_0
             have HC131_0 := Aside0.mk hl131_0
             clear hi131_0 hl131_0
             replace p131 := eq_true p131
             replace q131 := eq_true q131
             refine start_ (n := 30) (S := fun w' => w'.cell? ⟨gb128, 0, none⟩ = some (.slice A127_0 ((rd_T27 l0 x7_1).f0).length c127_0) ∧ w'.cell? ⟨gb128, 1, none⟩ = some (.int .i64 ((rd_T27 l0 x7_1).f1)) ∧ w'.cell? (ad127.add (((ji20)).toNat * 2)) = some (.slice A131_0 ((rd_T27 l0 (ji20)).f0).length c131_0) ∧ w'.cell? ⟨(ad127.add (((ji20)).toNat * 2)).block, (ad127.add (((ji20)).toNat * 2)).off + 1, none⟩ = some (.int .i64 ((rd_T27 l0 (ji20)).f1))) (ds := []) b19_0 (by kernel_rfl) rfl rfl ⟨(blk_cell BK128.out 0).trans rfl, (blk_cell BK128.out 1).trans rfl, ((HB.out.cell (World.block_lt_of_cell? w _ hw131_0)).trans hw131_0), ((HB.out.cell (World.block_lt_of_cell? w _ hw131_1)).trans hw131_1)⟩ (fun hHeld => ?_); refine with_tabW bag_Right.tab4 bag_Right.bits4 (fun HT_ HW_ => ?_)
             generalize w27.drew = w28 at BK128 HB HR131_0 hx131_0 hx131_1 hHeld ⊢
             refine pure_ (i := 0) (N := some 12) (v := ?_) (a' := ?_) b19_1 rfl rfl qh_ qi_ (Or.inl ⟨qr_, ?_⟩) ?_ ?_; rotate_left; (intro w'; go_simp; with_reducible rfl); rotate_left; exact qa_
             refine take_ (i := 1) (N := some 13) (v := ?_) (a' := ?_) b19_2 rfl rfl (take_ofW HT_.out HW_.out (by kernel_rfl)) (fun _ _ _ h => h) (Or.inl ⟨by rfl, ?_⟩) hHeld ?_ ?_; rotate_left; (rintro w' ⟨s0, s1, s2, s3⟩; go_simp; with_reducible rfl); rotate_left; exact qa_
             refine pure_ (i := 2) (N := some 14) (v := ?_) (a' := ?_) b19_3 rfl rfl qh_ qi_ (Or.inl ⟨qr_, ?_⟩) ?_ ?_; rotate_left; (intro w'; go_simp; with_reducible rfl); rotate_left; exact qa_
             refine pure_ (i := 3) (N := some 15) (v := ?_) (a' := ?_) b19_4 rfl rfl qh_ qi_ (Or.inl ⟨qr_, ?_⟩) ?_ ?_; rotate_left; (intro w'; go_simp; with_reducible rfl); rotate_left; exact qa_
             refine pure_ (i := 4) (N := some 16) (v := ?_) (a' := ?_) b19_5 rfl rfl qh_ qi_ (Or.inl ⟨qr_, ?_⟩) ?_ ?_; rotate_left; (intro w'; go_simp; with_reducible rfl); rotate_left; exact qa_
             refine take_ (i := 5) (N := some 17) (v := ?_) (a' := ?_) b19_6 rfl rfl (take_ofW HT_.out HW_.out (by kernel_rfl)) (fun _ _ _ h => h) (Or.inl ⟨by rfl, ?_⟩) hHeld ?_ ?_; rotate_left; (rintro w' ⟨s0, s1, s2, s3⟩; go_simp; with_reducible rfl); rotate_left; exact qa_
             refine one_ (i := 6) (N := some 18) b19_7 rfl rfl (one_of HT_.out (by kernel_rfl)) (by decide) (fun K hK => ?_)
             refine goes_ Tryd.func28 (by kernel_rfl) rfl #[.int .i64 ((rd_T27 l0 x7_1).f1)] (by rfl) rfl rfl q2_ ?_
             with_reducible refine (bag_fits.calls ((rd_T27 l0 x7_1).f1) true _ A10.out).mono ?_
             rintro e w' ⟨rfl, ⟨nd, rfl⟩⟩
             refine ⟨_, rfl, ?_⟩
             refine hK.out _ _ ⟨(blk_cell BK128.out 0).trans rfl, (blk_cell BK128.out 1).trans rfl, ((HB.out.cell (World.block_lt_of_cell? w _ hw131_0)).trans hw131_0), ((HB.out.cell (World.block_lt_of_cell? w _ hw131_1)).trans hw131_1)⟩ (fun hHeld => ?_)
             clear hK K
             refine norm_ (a' := ?_) ?_ ?_
             rotate_left
             ·show Act.put _ (some 18) _ = _
              simp only [Act.put, List.setIfInBounds_toArray, List.set_cons_zero, List.set_cons_succ, i64_w, i32_w]
              rfl
             refine pure_ (i := 7) (N := some 19) (v := ?_) (a' := ?_) b19_8 rfl rfl qh_ qi_ (Or.inl ⟨qr_, ?_⟩) ?_ ?_; rotate_left; (intro w'; go_simp; with_reducible rfl); rotate_left; exact qa_
             refine pure_ (i := 8) (N := some 20) (v := ?_) (a' := ?_) b19_9 rfl rfl qh_ qi_ (Or.inl ⟨qr_, ?_⟩) ?_ ?_; rotate_left; (intro w'; go_simp; with_reducible rfl); rotate_left; exact qa_
             refine pure_ (i := 9) (N := some 21) (v := ?_) (a' := ?_) b19_10 rfl rfl qh_ qi_ (Or.inl ⟨qr_, ?_⟩) ?_ ?_; rotate_left; (intro w'; go_simp; with_reducible rfl); rotate_left; exact qa_
             refine pure_ (i := 10) (N := some 22) (v := ?_) (a' := ?_) b19_11 rfl rfl qh_ qi_ (Or.inl ⟨qr_, ?_⟩) ?_ ?_; rotate_left; (intro w'; go_simp; with_reducible rfl); rotate_left; exact qa_
             refine take_ (i := 11) (N := some 23) (v := ?_) (a' := ?_) b19_12 rfl rfl (take_ofW HT_.out HW_.out (by kernel_rfl)) (fun _ _ _ h => h) (Or.inl ⟨by rfl, ?_⟩) hHeld ?_ ?_; rotate_left; (rintro w' ⟨s0, s1, s2, s3⟩; go_simp; with_reducible rfl); rotate_left; exact qa_
             refine one_ (i := 12) (N := some 24) b19_13 rfl rfl (one_of HT_.out (by kernel_rfl)) (by decide) (fun K hK => ?_)
             refine goes_ Tryd.func29 (by kernel_rfl) rfl #[.slice A127_0 ((rd_T27 l0 x7_1).f0).length c127_0, (.func (.func 30) #[] #[])] (by rfl) rfl rfl q2_ ?_
             with_reducible refine (api_Value_29_at_bag_wrong.calls k1 _ _ ((rd_T27 l0 x7_1).f0)  false _ ?side1 ?side2 A12.out q31_).mono ?_
             (case side1 => repeat (first | exact (Kd.C_below HR127_0.out q0_) | (with_reducible refine Kd.C_alloc ?_ _) | (with_reducible refine Kd.C_drewN ?_ _) | (with_reducible refine Kd.C_drew ?_)))
             (case side2 => exact HC127_0.out)
             rintro e w29 ⟨rfl, hb⟩
             refine ⟨_, rfl, ?_⟩
             have n0_ := Aside0.mk (blk_below (g := gb128) (o := .cells #[.slice A127_0 ((rd_T27 l0 x7_1).f0).length c127_0, .int .i64 ((rd_T27 l0 x7_1).f1)] 27 (0, 0)) q50_ hb)
             have n1_ := Aside0.mk (below_step q0_ hb)
             clear BK128
             clear HB
             have BK128 := n0_
             have HB := n1_
             clear n0_ n1_
             (try clear hb)
             (try clear hb2)
             (try clear hk)
             (try clear hi)
             refine hK.out _ _ ⟨(blk_cell BK128.out 0).trans rfl, (blk_cell BK128.out 1).trans rfl, ((HB.out.cell (World.block_lt_of_cell? w _ hw131_0)).trans hw131_0), ((HB.out.cell (World.block_lt_of_cell? w _ hw131_1)).trans hw131_1)⟩ (fun hHeld => ?_)
             clear hK K
             refine norm_ (a' := ?_) ?_ ?_
             rotate_left
             ·show Act.put _ (some 24) _ = _
              simp only [Act.put, List.setIfInBounds_toArray, List.set_cons_zero, List.set_cons_succ, i64_w, i32_w]
              rfl
             refine pure_ (i := 13) (N := some 25) (v := ?_) (a' := ?_) b19_14 rfl rfl qh_ qi_ (Or.inl ⟨qr_, ?_⟩) ?_ ?_; rotate_left; (intro w'; go_simp; with_reducible rfl); rotate_left; exact qa_
             refine pure_ (i := 14) (N := some 26) (v := ?_) (a' := ?_) b19_15 rfl rfl qh_ qi_ (Or.inl ⟨qr_, ?_⟩) ?_ ?_; rotate_left; (intro w'; go_simp; with_reducible rfl); rotate_left; exact qa_
             refine pure_ (i := 15) (N := some 27) (v := ?_) (a' := ?_) b19_16 rfl rfl qh_ qi_ (Or.inl ⟨qr_, ?_⟩) ?_ ?_; rotate_left; (intro w'; go_simp; with_reducible rfl); rotate_left; exact qa_
             refine pure_ (i := 16) (N := some 28) (v := ?_) (a' := ?_) b19_17 rfl rfl qh_ qi_ (Or.inl ⟨qr_, ?_⟩) ?_ ?_; rotate_left; (intro w'; go_simp; with_reducible rfl); rotate_left; exact qa_
             refine pure_ (i := 17) (N := some 29) (v := ?_) (a' := ?_) b19_18 rfl rfl qh_ qi_ (Or.inl ⟨qr_, ?_⟩) ?_ ?_; rotate_left; (intro w'; go_simp; with_reducible rfl); rotate_left; exact qa_
             refine pure_ (i := 18) (N := some 30) (v := ?_) (a' := ?_) b19_19 rfl rfl qh_ qi_ (Or.inl ⟨qr_, ?_⟩) ?_ ?_; rotate_left; (intro w'; go_simp; with_reducible rfl); rotate_left; exact qa_
             refine pure_ (i := 19) (N := some 31) (v := ?_) (a' := ?_) b19_20 rfl rfl qh_ qi_ (Or.inl ⟨qr_, ?_⟩) ?_ ?_; rotate_left; (intro w'; go_simp; with_reducible rfl); rotate_left; exact qa_
             refine pure_ (i := 20) (N := some 32) (v := ?_) (a' := ?_) b19_21 rfl rfl qh_ qi_ (Or.inl ⟨qr_, ?_⟩) ?_ ?_; rotate_left; (intro w'; go_simp; with_reducible rfl); rotate_left; exact qa_
             refine pure_ (i := 21) (N := some 33) (v := ?_) (a' := ?_) b19_22 rfl rfl qh_ qi_ (Or.inl ⟨qr_, ?_⟩) ?_ ?_; rotate_left; (intro w'; go_simp; with_reducible rfl); rotate_left; exact qa_
             refine pure_ (i := 22) (N := some 34) (v := ?_) (a' := ?_) b19_23 rfl rfl qh_ qi_ (Or.inl ⟨qr_, ?_⟩) ?_ ?_; rotate_left; (intro w'; go_simp; with_reducible rfl); rotate_left; exact qa_
             refine pure_ (i := 24) (N := some 36) (v := ?_) (a' := ?_) b19_31 rfl rfl qh_ qi_ (Or.inl ⟨qr_, ?_⟩) ?_ ?_; rotate_left; (intro w'; go_simp; with_reducible rfl); rotate_left; exact qa_
             refine take_ (i := 23) (N := some 35) (v := ?_) (a' := ?_) b19_25 rfl rfl (take_ofW HT_.out HW_.out (by kernel_rfl)) (fun _ _ _ h => h) (Or.inl ⟨by rfl, ?_⟩) hHeld ?_ ?_; rotate_left; (rintro w' ⟨s0, s1, s2, s3⟩; go_simp; with_reducible rfl); rotate_left; exact qa_
             refine take_ (i := 25) (N := some 37) (v := ?_) (a' := ?_) b19_26 rfl rfl (take_ofW HT_.out HW_.out (by kernel_rfl)) (fun _ _ _ h => h) (Or.inl ⟨by rfl, ?_⟩) hHeld ?_ ?_; rotate_left; (rintro w' ⟨s0, s1, s2, s3⟩; go_simp; with_reducible rfl); rotate_left; exact qa_
             refine one_ (i := 26) (N := some 38) b19_27 rfl rfl (one_of HT_.out (by kernel_rfl)) (by decide) (fun K hK => ?_)
             refine goes_ Tryd.func31 (by kernel_rfl) rfl #[.slice A131_0 ((rd_T27 l0 (ji20)).f0).length c131_0, .slice A127_0 ((rd_T27 l0 x7_1).f0).length c127_0] (by rfl) rfl rfl (by (try simp only [List.map_toArray, List.map_cons, List.map_nil]); first | done | (simp only [hji20]; rfl) | rfl | (simp only [List.length_drop, List.length_take]; rfl)) ?_
             with_reducible refine (value_Rows.calls k1 _ _ ((rd_T27 l0 (ji20)).f0) _ _ ((rd_T27 l0 x7_1).f0) t132 _ ?side1 ?side2 ?side3 ?side4 A23.out).mono ?_
             (case side1 => repeat (first | exact (Kd.C_below HR131_0.out HB.out) | (with_reducible refine Kd.C_alloc ?_ _) | (with_reducible refine Kd.C_drewN ?_ _) | (with_reducible refine Kd.C_drew ?_)))
             (case side2 => exact HC131_0.out)
             (case side3 => repeat (first | exact (Kd.C_below HR127_0.out HB.out) | (with_reducible refine Kd.C_alloc ?_ _) | (with_reducible refine Kd.C_drewN ?_ _) | (with_reducible refine Kd.C_drew ?_)))
             (case side4 => exact HC127_0.out)
             rintro e w30 ⟨rfl, hb⟩
             refine ⟨_, rfl, ?_⟩
             have n0_ := Aside0.mk (blk_below (g := gb128) (o := .cells #[.slice A127_0 ((rd_T27 l0 x7_1).f0).length c127_0, .int .i64 ((rd_T27 l0 x7_1).f1)] 27 (0, 0)) q50_ hb)
             have n1_ := Aside0.mk (below_step q0_ hb)
             clear BK128
             clear HB
             have BK128 := n0_
             have HB := n1_
             clear n0_ n1_
             (try clear hb)
             (try clear hb2)
             (try clear hk)
             (try clear hi)
             refine hK.out _ _ ⟨(blk_cell BK128.out 0).trans rfl, (blk_cell BK128.out 1).trans rfl, ((HB.out.cell (World.block_lt_of_cell? w _ hw131_0)).trans hw131_0), ((HB.out.cell (World.block_lt_of_cell? w _ hw131_1)).trans hw131_1)⟩ (fun hHeld => ?_)
             clear hK K
             refine norm_ (a' := ?_) ?_ ?_
             rotate_left
             ·show Act.put _ (some 38) _ = _
              simp only [Act.put, List.setIfInBounds_toArray, List.set_cons_zero, List.set_cons_succ, i64_w, i32_w]
              rfl
             refine pure_ (i := 27) (N := some 39) (v := ?_) (a' := ?_) b19_28 rfl rfl qh_ qi_ (Or.inl ⟨qr_, ?_⟩) ?_ ?_; rotate_left; (intro w'; go_simp; with_reducible rfl); rotate_left; exact qa_
             refine pure_ (i := 28) (N := some 40) (v := ?_) (a' := ?_) b19_29 rfl rfl qh_ qi_ (Or.inl ⟨qr_, ?_⟩) ?_ ?_; rotate_left; (intro w'; go_simp; with_reducible rfl); rotate_left; exact qa_
             refine pure_ (i := 29) (N := some 41) (v := ?_) (a' := ?_) b19_30 rfl rfl qh_ qi_ (Or.inl ⟨qr_, ?_⟩) ?_ ?_; rotate_left; (intro w'; go_simp; with_reducible rfl); rotate_left; exact qa_
             refine done_ (done_of HT_.out (by kernel_rfl)) ?_
             try go_wp2
             go_ret
             exact ⟨by first | rfl | (simp [errW_none, errW_some] <;> rfl) | (simp only [← hji20]; first | rfl | (simp [errW_none, errW_some] <;> rfl)) | (simp [*, errW_none, errW_some] <;> rfl), q0_⟩
            ·rw [if_neg c24] at H
             have c24b0 : decide (0 ≤ t132) = false := decide_eq_false c24
             clear c24
             have H' := Aside0.mk H
             clear H
             have p127 : 0 ≤ (x7_1 : Int) := of_decide_eq_true q5_
             have q127 : x7_1 < (l0.length : Int) := of_decide_eq_true q5_
             obtain ⟨ad127, A127_0, c127_0, e127, hx127_0, hx127_1, hl127_0, hi127_0⟩ := at_T27 HR0.out x7_1 p127 q127
             cases e127
             replace hx127_0 := (HB.out.cell (World.block_lt_of_cell? w _ hx127_0)).trans hx127_0
             replace hx127_1 := (HB.out.cell (World.block_lt_of_cell? w _ hx127_1)).trans hx127_1
             have HR127_0 := Aside0.mk hi127_0
             have HC127_0 := Aside0.mk hl127_0
             clear hi127_0 hl127_0
             replace p127 := eq_true p127
             replace q127 := eq_true q127
             try go_wp2_with (first | ((with_reducible refine gate_dst (N := 4) rfl ?_); refine box_event ?hg (N := 4) ?hd (cs := #[.slice none 0 0, .int .i64 0]) (t := 27) ?hr ?_; (case hd => rfl); (case hg => rfl); (case hr => first | (go_simp; done) | (go_simp; rfl)); intro gb128 hg w31 hbox hb; have n0_ := Aside0.mk (below_step q0_ hb); have n1_ := Aside0.mk (hbox); have n2_ := Aside0.mk ((q3_ : w.heap.size ≤ gb128)); have n3_ := Aside0.mk ((q3_ : w.heap.size ≤ gb128)); clear HB; have HB := n0_; have BK128 := n1_; have GW128 := n2_; have GE128 := n3_; clear n0_ n1_ n2_ n3_; clear hb hbox hg; have hcz32_0 : w31.cell? ⟨gb128, 0, none⟩ = some (.slice none 0 0) := (blk_cell BK128.out 0).trans rfl; have hcz32_1 : w31.cell? ⟨gb128, 1, none⟩ = some (.int .i64 0) := (blk_cell BK128.out 1).trans rfl; have hfz32_0 := blk_frozen BK128.out 0; have hfz32_1 := blk_frozen BK128.out 1))
             have n0_ : Aside0 (((w31.setCell ⟨gb128, 0, none⟩ (.slice A127_0 ((rd_T27 l0 x7_1).f0).length c127_0)).setCell ⟨gb128, 1, none⟩ (.int .i64 ((rd_T27 l0 x7_1).f1))).heap[gb128]? = some (.cells #[.slice A127_0 ((rd_T27 l0 x7_1).f0).length c127_0, .int .i64 ((rd_T27 l0 x7_1).f1)] 27 (0, 0))) := ⟨q17_⟩
             have n1_ : Aside0 (Below w.heap.size w ((w31.setCell ⟨gb128, 0, none⟩ (.slice A127_0 ((rd_T27 l0 x7_1).f0).length c127_0)).setCell ⟨gb128, 1, none⟩ (.int .i64 ((rd_T27 l0 x7_1).f1)))) := ⟨q0_⟩
             (try clear BK128)
             (try clear HB)
             generalize ((w31.setCell ⟨gb128, 0, none⟩ (.slice A127_0 ((rd_T27 l0 x7_1).f0).length c127_0)).setCell ⟨gb128, 1, none⟩ (.int .i64 ((rd_T27 l0 x7_1).f1))) = w33 at n0_ n1_ ⊢
             have BK128 := n0_
             have HB := n1_
             clear n0_ n1_
             have n0_ := Aside0.mk (blk_drew BK128.out)
             have n1_ := Aside0.mk (below_drew1 HB.out)
             clear BK128
             clear HB
             have BK128 := n0_
             have HB := n1_
             clear n0_ n1_
             have p131 : 0 ≤ ((ji20) : Int) := of_decide_eq_true q5_
             have q131 : (ji20) < (l0.length : Int) := of_decide_eq_true q5_
             obtain ⟨ad131, A131_0, c131_0, e131, hx131_0, hx131_1, hl131_0, hi131_0⟩ := at_T27 HR0.out (ji20) p131 q131
             have hw131_1 := hx131_1
             have hw131_0 := hx131_0
             obtain rfl : ad127 = ad131 := (by injection e131)
             replace hx131_0 := (HB.out.cell (World.block_lt_of_cell? w _ hx131_0)).trans hx131_0
             replace hx131_1 := (HB.out.cell (World.block_lt_of_cell? w _ hx131_1)).trans hx131_1
             have HR131_0 := Aside0.mk hi131_0
             have HC131_0 := Aside0.mk hl131_0
             clear hi131_0 hl131_0
             replace p131 := eq_true p131
             replace q131 := eq_true q131
             refine start_ (n := 30) (S := fun w' => w'.cell? ⟨gb128, 0, none⟩ = some (.slice A127_0 ((rd_T27 l0 x7_1).f0).length c127_0) ∧ w'.cell? ⟨gb128, 1, none⟩ = some (.int .i64 ((rd_T27 l0 x7_1).f1)) ∧ w'.cell? (ad127.add (((ji20)).toNat * 2)) = some (.slice A131_0 ((rd_T27 l0 (ji20)).f0).length c131_0) ∧ w'.cell? ⟨(ad127.add (((ji20)).toNat * 2)).block, (ad127.add (((ji20)).toNat * 2)).off + 1, none⟩ = some (.int .i64 ((rd_T27 l0 (ji20)).f1))) (ds := []) b19_0 (by kernel_rfl) rfl rfl ⟨(blk_cell BK128.out 0).trans rfl, (blk_cell BK128.out 1).trans rfl, ((HB.out.cell (World.block_lt_of_cell? w _ hw131_0)).trans hw131_0), ((HB.out.cell (World.block_lt_of_cell? w _ hw131_1)).trans hw131_1)⟩ (fun hHeld => ?_); refine with_tabW bag_Right.tab4 bag_Right.bits4 (fun HT_ HW_ => ?_)
             generalize w33.drew = w34 at BK128 HB HR131_0 hx131_0 hx131_1 hHeld ⊢
             refine pure_ (i := 0) (N := some 12) (v := ?_) (a' := ?_) b19_1 rfl rfl qh_ qi_ (Or.inl ⟨qr_, ?_⟩) ?_ ?_; rotate_left; (intro w'; go_simp; with_reducible rfl); rotate_left; exact qa_
             refine take_ (i := 1) (N := some 13) (v := ?_) (a' := ?_) b19_2 rfl rfl (take_ofW HT_.out HW_.out (by kernel_rfl)) (fun _ _ _ h => h) (Or.inl ⟨by rfl, ?_⟩) hHeld ?_ ?_; rotate_left; (rintro w' ⟨s0, s1, s2, s3⟩; go_simp; with_reducible rfl); rotate_left; exact qa_
             refine pure_ (i := 2) (N := some 14) (v := ?_) (a' := ?_) b19_3 rfl rfl qh_ qi_ (Or.inl ⟨qr_, ?_⟩) ?_ ?_; rotate_left; (intro w'; go_simp; with_reducible rfl); rotate_left; exact qa_
             refine pure_ (i := 3) (N := some 15) (v := ?_) (a' := ?_) b19_4 rfl rfl qh_ qi_ (Or.inl ⟨qr_, ?_⟩) ?_ ?_; rotate_left; (intro w'; go_simp; with_reducible rfl); rotate_left; exact qa_
             refine pure_ (i := 4) (N := some 16) (v := ?_) (a' := ?_) b19_5 rfl rfl qh_ qi_ (Or.inl ⟨qr_, ?_⟩) ?_ ?_; rotate_left; (intro w'; go_simp; with_reducible rfl); rotate_left; exact qa_
             refine take_ (i := 5) (N := some 17) (v := ?_) (a' := ?_) b19_6 rfl rfl (take_ofW HT_.out HW_.out (by kernel_rfl)) (fun _ _ _ h => h) (Or.inl ⟨by rfl, ?_⟩) hHeld ?_ ?_; rotate_left; (rintro w' ⟨s0, s1, s2, s3⟩; go_simp; with_reducible rfl); rotate_left; exact qa_
             refine one_ (i := 6) (N := some 18) b19_7 rfl rfl (one_of HT_.out (by kernel_rfl)) (by decide) (fun K hK => ?_)
             refine goes_ Tryd.func28 (by kernel_rfl) rfl #[.int .i64 ((rd_T27 l0 x7_1).f1)] (by rfl) rfl rfl q2_ ?_
             with_reducible refine (bag_fits.calls ((rd_T27 l0 x7_1).f1) true _ A10.out).mono ?_
             rintro e w' ⟨rfl, ⟨nd, rfl⟩⟩
             refine ⟨_, rfl, ?_⟩
             refine hK.out _ _ ⟨(blk_cell BK128.out 0).trans rfl, (blk_cell BK128.out 1).trans rfl, ((HB.out.cell (World.block_lt_of_cell? w _ hw131_0)).trans hw131_0), ((HB.out.cell (World.block_lt_of_cell? w _ hw131_1)).trans hw131_1)⟩ (fun hHeld => ?_)
             clear hK K
             refine norm_ (a' := ?_) ?_ ?_
             rotate_left
             ·show Act.put _ (some 18) _ = _
              simp only [Act.put, List.setIfInBounds_toArray, List.set_cons_zero, List.set_cons_succ, i64_w, i32_w]
              rfl
             refine pure_ (i := 7) (N := some 19) (v := ?_) (a' := ?_) b19_8 rfl rfl qh_ qi_ (Or.inl ⟨qr_, ?_⟩) ?_ ?_; rotate_left; (intro w'; go_simp; with_reducible rfl); rotate_left; exact qa_
             refine pure_ (i := 8) (N := some 20) (v := ?_) (a' := ?_) b19_9 rfl rfl qh_ qi_ (Or.inl ⟨qr_, ?_⟩) ?_ ?_; rotate_left; (intro w'; go_simp; with_reducible rfl); rotate_left; exact qa_
             refine pure_ (i := 9) (N := some 21) (v := ?_) (a' := ?_) b19_10 rfl rfl qh_ qi_ (Or.inl ⟨qr_, ?_⟩) ?_ ?_; rotate_left; (intro w'; go_simp; with_reducible rfl); rotate_left; exact qa_
             refine pure_ (i := 10) (N := some 22) (v := ?_) (a' := ?_) b19_11 rfl rfl qh_ qi_ (Or.inl ⟨qr_, ?_⟩) ?_ ?_; rotate_left; (intro w'; go_simp; with_reducible rfl); rotate_left; exact qa_
             refine take_ (i := 11) (N := some 23) (v := ?_) (a' := ?_) b19_12 rfl rfl (take_ofW HT_.out HW_.out (by kernel_rfl)) (fun _ _ _ h => h) (Or.inl ⟨by rfl, ?_⟩) hHeld ?_ ?_; rotate_left; (rintro w' ⟨s0, s1, s2, s3⟩; go_simp; with_reducible rfl); rotate_left; exact qa_
             refine one_ (i := 12) (N := some 24) b19_13 rfl rfl (one_of HT_.out (by kernel_rfl)) (by decide) (fun K hK => ?_)
             refine goes_ Tryd.func29 (by kernel_rfl) rfl #[.slice A127_0 ((rd_T27 l0 x7_1).f0).length c127_0, (.func (.func 30) #[] #[])] (by rfl) rfl rfl q2_ ?_
             with_reducible refine (api_Value_29_at_bag_wrong.calls k1 _ _ ((rd_T27 l0 x7_1).f0)  false _ ?side1 ?side2 A12.out q31_).mono ?_
             (case side1 => repeat (first | exact (Kd.C_below HR127_0.out q0_) | (with_reducible refine Kd.C_alloc ?_ _) | (with_reducible refine Kd.C_drewN ?_ _) | (with_reducible refine Kd.C_drew ?_)))
             (case side2 => exact HC127_0.out)
             rintro e w35 ⟨rfl, hb⟩
             refine ⟨_, rfl, ?_⟩
             have n0_ := Aside0.mk (blk_below (g := gb128) (o := .cells #[.slice A127_0 ((rd_T27 l0 x7_1).f0).length c127_0, .int .i64 ((rd_T27 l0 x7_1).f1)] 27 (0, 0)) q50_ hb)
             have n1_ := Aside0.mk (below_step q0_ hb)
             clear BK128
             clear HB
             have BK128 := n0_
             have HB := n1_
             clear n0_ n1_
             (try clear hb)
             (try clear hb2)
             (try clear hk)
             (try clear hi)
             refine hK.out _ _ ⟨(blk_cell BK128.out 0).trans rfl, (blk_cell BK128.out 1).trans rfl, ((HB.out.cell (World.block_lt_of_cell? w _ hw131_0)).trans hw131_0), ((HB.out.cell (World.block_lt_of_cell? w _ hw131_1)).trans hw131_1)⟩ (fun hHeld => ?_)
             clear hK K
             refine norm_ (a' := ?_) ?_ ?_
             rotate_left
             ·show Act.put _ (some 24) _ = _
              simp only [Act.put, List.setIfInBounds_toArray, List.set_cons_zero, List.set_cons_succ, i64_w, i32_w]
              rfl
             refine pure_ (i := 13) (N := some 25) (v := ?_) (a' := ?_) b19_14 rfl rfl qh_ qi_ (Or.inl ⟨qr_, ?_⟩) ?_ ?_; rotate_left; (intro w'; go_simp; with_reducible rfl); rotate_left; exact qa_
             refine pure_ (i := 14) (N := some 26) (v := ?_) (a' := ?_) b19_15 rfl rfl qh_ qi_ (Or.inl ⟨qr_, ?_⟩) ?_ ?_; rotate_left; (intro w'; go_simp; with_reducible rfl); rotate_left; exact qa_
             refine pure_ (i := 15) (N := some 27) (v := ?_) (a' := ?_) b19_16 rfl rfl qh_ qi_ (Or.inl ⟨qr_, ?_⟩) ?_ ?_; rotate_left; (intro w'; go_simp; with_reducible rfl); rotate_left; exact qa_
             refine pure_ (i := 16) (N := some 28) (v := ?_) (a' := ?_) b19_17 rfl rfl qh_ qi_ (Or.inl ⟨qr_, ?_⟩) ?_ ?_; rotate_left; (intro w'; go_simp; with_reducible rfl); rotate_left; exact qa_
             refine pure_ (i := 17) (N := some 29) (v := ?_) (a' := ?_) b19_18 rfl rfl qh_ qi_ (Or.inl ⟨qr_, ?_⟩) ?_ ?_; rotate_left; (intro w'; go_simp; with_reducible rfl); rotate_left; exact qa_
             refine pure_ (i := 18) (N := some 30) (v := ?_) (a' := ?_) b19_19 rfl rfl qh_ qi_ (Or.inl ⟨qr_, ?_⟩) ?_ ?_; rotate_left; (intro w'; go_simp; with_reducible rfl); rotate_left; exact qa_
             refine pure_ (i := 19) (N := some 31) (v := ?_) (a' := ?_) b19_20 rfl rfl qh_ qi_ (Or.inl ⟨qr_, ?_⟩) ?_ ?_; rotate_left; (intro w'; go_simp; with_reducible rfl); rotate_left; exact qa_
             refine pure_ (i := 20) (N := some 32) (v := ?_) (a' := ?_) b19_21 rfl rfl qh_ qi_ (Or.inl ⟨qr_, ?_⟩) ?_ ?_; rotate_left; (intro w'; go_simp; with_reducible rfl); rotate_left; exact qa_
             refine pure_ (i := 21) (N := some 33) (v := ?_) (a' := ?_) b19_22 rfl rfl qh_ qi_ (Or.inl ⟨qr_, ?_⟩) ?_ ?_; rotate_left; (intro w'; go_simp; with_reducible rfl); rotate_left; exact qa_
             refine pure_ (i := 22) (N := some 34) (v := ?_) (a' := ?_) b19_23 rfl rfl qh_ qi_ (Or.inl ⟨qr_, ?_⟩) ?_ ?_; rotate_left; (intro w'; go_simp; with_reducible rfl); rotate_left; exact qa_
             refine pure_ (i := 24) (N := some 36) (v := ?_) (a' := ?_) b19_31 rfl rfl qh_ qi_ (Or.inl ⟨qr_, ?_⟩) ?_ ?_; rotate_left; (intro w'; go_simp; with_reducible rfl); rotate_left; exact qa_
             refine take_ (i := 23) (N := some 35) (v := ?_) (a' := ?_) b19_25 rfl rfl (take_ofW HT_.out HW_.out (by kernel_rfl)) (fun _ _ _ h => h) (Or.inl ⟨by rfl, ?_⟩) hHeld ?_ ?_; rotate_left; (rintro w' ⟨s0, s1, s2, s3⟩; go_simp; with_reducible rfl); rotate_left; exact qa_
             refine take_ (i := 25) (N := some 37) (v := ?_) (a' := ?_) b19_26 rfl rfl (take_ofW HT_.out HW_.out (by kernel_rfl)) (fun _ _ _ h => h) (Or.inl ⟨by rfl, ?_⟩) hHeld ?_ ?_; rotate_left; (rintro w' ⟨s0, s1, s2, s3⟩; go_simp; with_reducible rfl); rotate_left; exact qa_
             refine one_ (i := 26) (N := some 38) b19_27 rfl rfl (one_of HT_.out (by kernel_rfl)) (by decide) (fun K hK => ?_)
             refine goes_ Tryd.func31 (by kernel_rfl) rfl #[.slice A131_0 ((rd_T27 l0 (ji20)).f0).length c131_0, .slice A127_0 ((rd_T27 l0 x7_1).f0).length c127_0] (by rfl) rfl rfl (by (try simp only [List.map_toArray, List.map_cons, List.map_nil]); first | done | (simp only [hji20]; rfl) | rfl | (simp only [List.length_drop, List.length_take]; rfl)) ?_
             with_reducible refine (value_Rows.calls k1 _ _ ((rd_T27 l0 (ji20)).f0) _ _ ((rd_T27 l0 x7_1).f0) t132 _ ?side1 ?side2 ?side3 ?side4 A23.out).mono ?_
             (case side1 => repeat (first | exact (Kd.C_below HR131_0.out HB.out) | (with_reducible refine Kd.C_alloc ?_ _) | (with_reducible refine Kd.C_drewN ?_ _) | (with_reducible refine Kd.C_drew ?_)))
             (case side2 => exact HC131_0.out)
             (case side3 => repeat (first | exact (Kd.C_below HR127_0.out HB.out) | (with_reducible refine Kd.C_alloc ?_ _) | (with_reducible refine Kd.C_drewN ?_ _) | (with_reducible refine Kd.C_drew ?_)))
             (case side4 => exact HC127_0.out)
             rintro e w36 ⟨rfl, hb⟩
             refine ⟨_, rfl, ?_⟩
             have n0_ := Aside0.mk (blk_below (g := gb128) (o := .cells #[.slice A127_0 ((rd_T27 l0 x7_1).f0).length c127_0, .int .i64 ((rd_T27 l0 x7_1).f1)] 27 (0, 0)) q50_ hb)
             have n1_ := Aside0.mk (below_step q0_ hb)
             clear BK128
             clear HB
             have BK128 := n0_
             have HB := n1_
             clear n0_ n1_
             (try clear hb)
             (try clear hb2)
             (try clear hk)
             (try clear hi)
             refine hK.out _ _ ⟨(blk_cell BK128.out 0).trans rfl, (blk_cell BK128.out 1).trans rfl, ((HB.out.cell (World.block_lt_of_cell? w _ hw131_0)).trans hw131_0), ((HB.out.cell (World.block_lt_of_cell? w _ hw131_1)).trans hw131_1)⟩ (fun hHeld => ?_)
             clear hK K
             refine norm_ (a' := ?_) ?_ ?_
             rotate_left
             ·show Act.put _ (some 38) _ = _
              simp only [Act.put, List.setIfInBounds_toArray, List.set_cons_zero, List.set_cons_succ, i64_w, i32_w]
              rfl
             refine pure_ (i := 27) (N := some 39) (v := ?_) (a' := ?_) b19_28 rfl rfl qh_ qi_ (Or.inl ⟨qr_, ?_⟩) ?_ ?_; rotate_left; (intro w'; go_simp; with_reducible rfl); rotate_left; exact qa_
             refine pure_ (i := 28) (N := some 40) (v := ?_) (a' := ?_) b19_29 rfl rfl qh_ qi_ (Or.inl ⟨qr_, ?_⟩) ?_ ?_; rotate_left; (intro w'; go_simp; with_reducible rfl); rotate_left; exact qa_
             refine pure_ (i := 29) (N := some 41) (v := ?_) (a' := ?_) b19_30 rfl rfl qh_ qi_ (Or.inl ⟨qr_, ?_⟩) ?_ ?_; rotate_left; (intro w'; go_simp; with_reducible rfl); rotate_left; exact qa_
             refine done_ (done_of HT_.out (by kernel_rfl)) ?_
             try go_wp2
             go_roundg k1
             case measure => have := HK1.out; omega
             case rel => exact ⟨(wrap64 (x7_1 + 1)), q9_, H', ⟨by have := HK1.out; omega⟩, ⟨q0_⟩⟩
           ·rw [if_neg c22] at H
            exact absurd H (by simp)
          ·rw [if_neg c21] at H
           exact absurd H (by simp)
         ·rw [if_neg c19] at H
          have c19b0 : decide (0 < x7_1) = false := decide_eq_false c19
          clear c19
          have H' := Aside0.mk H
          clear H
          have p127 : 0 ≤ (x7_1 : Int) := of_decide_eq_true q5_
          have q127 : x7_1 < (l0.length : Int) := of_decide_eq_true q5_
          obtain ⟨ad127, A127_0, c127_0, e127, hx127_0, hx127_1, hl127_0, hi127_0⟩ := at_T27 HR0.out x7_1 p127 q127
          cases e127
          replace hx127_0 := (HB.out.cell (World.block_lt_of_cell? w _ hx127_0)).trans hx127_0
          replace hx127_1 := (HB.out.cell (World.block_lt_of_cell? w _ hx127_1)).trans hx127_1
          have HR127_0 := Aside0.mk hi127_0
          have HC127_0 := Aside0.mk hl127_0
          clear hi127_0 hl127_0
          replace p127 := eq_true p127
          replace q127 := eq_true q127
          try go_wp2_with (first | ((with_reducible refine gate_dst (N := 4) rfl ?_); refine box_event ?hg (N := 4) ?hd (cs := #[.slice none 0 0, .int .i64 0]) (t := 27) ?hr ?_; (case hd => rfl); (case hg => rfl); (case hr => first | (go_simp; done) | (go_simp; rfl)); intro gb128 hg w37 hbox hb; have n0_ := Aside0.mk (below_step q0_ hb); have n1_ := Aside0.mk (hbox); have n2_ := Aside0.mk ((q3_ : w.heap.size ≤ gb128)); have n3_ := Aside0.mk ((q3_ : w.heap.size ≤ gb128)); clear HB; have HB := n0_; have BK128 := n1_; have GW128 := n2_; have GE128 := n3_; clear n0_ n1_ n2_ n3_; clear hb hbox hg; have hcz38_0 : w37.cell? ⟨gb128, 0, none⟩ = some (.slice none 0 0) := (blk_cell BK128.out 0).trans rfl; have hcz38_1 : w37.cell? ⟨gb128, 1, none⟩ = some (.int .i64 0) := (blk_cell BK128.out 1).trans rfl; have hfz38_0 := blk_frozen BK128.out 0; have hfz38_1 := blk_frozen BK128.out 1))
          have n0_ : Aside0 (((w37.setCell ⟨gb128, 0, none⟩ (.slice A127_0 ((rd_T27 l0 x7_1).f0).length c127_0)).setCell ⟨gb128, 1, none⟩ (.int .i64 ((rd_T27 l0 x7_1).f1))).heap[gb128]? = some (.cells #[.slice A127_0 ((rd_T27 l0 x7_1).f0).length c127_0, .int .i64 ((rd_T27 l0 x7_1).f1)] 27 (0, 0))) := ⟨q17_⟩
          have n1_ : Aside0 (Below w.heap.size w ((w37.setCell ⟨gb128, 0, none⟩ (.slice A127_0 ((rd_T27 l0 x7_1).f0).length c127_0)).setCell ⟨gb128, 1, none⟩ (.int .i64 ((rd_T27 l0 x7_1).f1)))) := ⟨q0_⟩
          (try clear BK128)
          (try clear HB)
          generalize ((w37.setCell ⟨gb128, 0, none⟩ (.slice A127_0 ((rd_T27 l0 x7_1).f0).length c127_0)).setCell ⟨gb128, 1, none⟩ (.int .i64 ((rd_T27 l0 x7_1).f1))) = w39 at n0_ n1_ ⊢
          have BK128 := n0_
          have HB := n1_
          clear n0_ n1_
          have n0_ := Aside0.mk (blk_drew BK128.out)
          have n1_ := Aside0.mk (below_drew1 HB.out)
          clear BK128
          clear HB
          have BK128 := n0_
          have HB := n1_
          clear n0_ n1_
          refine start_ (n := 30) (S := fun w' => w'.cell? ⟨gb128, 0, none⟩ = some (.slice A127_0 ((rd_T27 l0 x7_1).f0).length c127_0) ∧ w'.cell? ⟨gb128, 1, none⟩ = some (.int .i64 ((rd_T27 l0 x7_1).f1))) (ds := []) b19_0 (by kernel_rfl) rfl rfl ⟨(blk_cell BK128.out 0).trans rfl, (blk_cell BK128.out 1).trans rfl⟩ (fun hHeld => ?_); refine with_tabW bag_Right.tab4 bag_Right.bits4 (fun HT_ HW_ => ?_)
          generalize w39.drew = w40 at BK128 HB hHeld ⊢
          refine pure_ (i := 0) (N := some 12) (v := ?_) (a' := ?_) b19_1 rfl rfl qh_ qi_ (Or.inl ⟨qr_, ?_⟩) ?_ ?_; rotate_left; (intro w'; go_simp; with_reducible rfl); rotate_left; exact qa_
          refine take_ (i := 1) (N := some 13) (v := ?_) (a' := ?_) b19_2 rfl rfl (take_ofW HT_.out HW_.out (by kernel_rfl)) (fun _ _ _ h => h) (Or.inl ⟨by rfl, ?_⟩) hHeld ?_ ?_; rotate_left; (rintro w' ⟨s0, s1⟩; go_simp; with_reducible rfl); rotate_left; exact qa_
          refine pure_ (i := 2) (N := some 14) (v := ?_) (a' := ?_) b19_3 rfl rfl qh_ qi_ (Or.inl ⟨qr_, ?_⟩) ?_ ?_; rotate_left; (intro w'; go_simp; with_reducible rfl); rotate_left; exact qa_
          refine pure_ (i := 3) (N := some 15) (v := ?_) (a' := ?_) b19_4 rfl rfl qh_ qi_ (Or.inl ⟨qr_, ?_⟩) ?_ ?_; rotate_left; (intro w'; go_simp; with_reducible rfl); rotate_left; exact qa_
          refine pure_ (i := 4) (N := some 16) (v := ?_) (a' := ?_) b19_5 rfl rfl qh_ qi_ (Or.inl ⟨qr_, ?_⟩) ?_ ?_; rotate_left; (intro w'; go_simp; with_reducible rfl); rotate_left; exact qa_
          refine take_ (i := 5) (N := some 17) (v := ?_) (a' := ?_) b19_6 rfl rfl (take_ofW HT_.out HW_.out (by kernel_rfl)) (fun _ _ _ h => h) (Or.inl ⟨by rfl, ?_⟩) hHeld ?_ ?_; rotate_left; (rintro w' ⟨s0, s1⟩; go_simp; with_reducible rfl); rotate_left; exact qa_
          refine one_ (i := 6) (N := some 18) b19_7 rfl rfl (one_of HT_.out (by kernel_rfl)) (by decide) (fun K hK => ?_)
          refine goes_ Tryd.func28 (by kernel_rfl) rfl #[.int .i64 ((rd_T27 l0 x7_1).f1)] (by rfl) rfl rfl q2_ ?_
          with_reducible refine (bag_fits.calls ((rd_T27 l0 x7_1).f1) true _ A10.out).mono ?_
          rintro e w' ⟨rfl, ⟨nd, rfl⟩⟩
          refine ⟨_, rfl, ?_⟩
          refine hK.out _ _ ⟨(blk_cell BK128.out 0).trans rfl, (blk_cell BK128.out 1).trans rfl⟩ (fun hHeld => ?_)
          clear hK K
          refine norm_ (a' := ?_) ?_ ?_
          rotate_left
          ·show Act.put _ (some 18) _ = _
           simp only [Act.put, List.setIfInBounds_toArray, List.set_cons_zero, List.set_cons_succ, i64_w, i32_w]
           rfl
          refine pure_ (i := 7) (N := some 19) (v := ?_) (a' := ?_) b19_8 rfl rfl qh_ qi_ (Or.inl ⟨qr_, ?_⟩) ?_ ?_; rotate_left; (intro w'; go_simp; with_reducible rfl); rotate_left; exact qa_
          refine pure_ (i := 8) (N := some 20) (v := ?_) (a' := ?_) b19_9 rfl rfl qh_ qi_ (Or.inl ⟨qr_, ?_⟩) ?_ ?_; rotate_left; (intro w'; go_simp; with_reducible rfl); rotate_left; exact qa_
          refine pure_ (i := 9) (N := some 21) (v := ?_) (a' := ?_) b19_10 rfl rfl qh_ qi_ (Or.inl ⟨qr_, ?_⟩) ?_ ?_; rotate_left; (intro w'; go_simp; with_reducible rfl); rotate_left; exact qa_
          refine pure_ (i := 10) (N := some 22) (v := ?_) (a' := ?_) b19_11 rfl rfl qh_ qi_ (Or.inl ⟨qr_, ?_⟩) ?_ ?_; rotate_left; (intro w'; go_simp; with_reducible rfl); rotate_left; exact qa_
          refine take_ (i := 11) (N := some 23) (v := ?_) (a' := ?_) b19_12 rfl rfl (take_ofW HT_.out HW_.out (by kernel_rfl)) (fun _ _ _ h => h) (Or.inl ⟨by rfl, ?_⟩) hHeld ?_ ?_; rotate_left; (rintro w' ⟨s0, s1⟩; go_simp; with_reducible rfl); rotate_left; exact qa_
          refine one_ (i := 12) (N := some 24) b19_13 rfl rfl (one_of HT_.out (by kernel_rfl)) (by decide) (fun K hK => ?_)
          refine goes_ Tryd.func29 (by kernel_rfl) rfl #[.slice A127_0 ((rd_T27 l0 x7_1).f0).length c127_0, (.func (.func 30) #[] #[])] (by rfl) rfl rfl q2_ ?_
          with_reducible refine (api_Value_29_at_bag_wrong.calls k1 _ _ ((rd_T27 l0 x7_1).f0)  false _ ?side1 ?side2 A12.out q31_).mono ?_
          (case side1 => repeat (first | exact (Kd.C_below HR127_0.out q0_) | (with_reducible refine Kd.C_alloc ?_ _) | (with_reducible refine Kd.C_drewN ?_ _) | (with_reducible refine Kd.C_drew ?_)))
          (case side2 => exact HC127_0.out)
          rintro e w41 ⟨rfl, hb⟩
          refine ⟨_, rfl, ?_⟩
          have n0_ := Aside0.mk (blk_below (g := gb128) (o := .cells #[.slice A127_0 ((rd_T27 l0 x7_1).f0).length c127_0, .int .i64 ((rd_T27 l0 x7_1).f1)] 27 (0, 0)) q50_ hb)
          have n1_ := Aside0.mk (below_step q0_ hb)
          clear BK128
          clear HB
          have BK128 := n0_
          have HB := n1_
          clear n0_ n1_
          (try clear hb)
          (try clear hb2)
          (try clear hk)
          (try clear hi)
          refine hK.out _ _ ⟨(blk_cell BK128.out 0).trans rfl, (blk_cell BK128.out 1).trans rfl⟩ (fun hHeld => ?_)
          clear hK K
          refine norm_ (a' := ?_) ?_ ?_
          rotate_left
          ·show Act.put _ (some 24) _ = _
           simp only [Act.put, List.setIfInBounds_toArray, List.set_cons_zero, List.set_cons_succ, i64_w, i32_w]
           rfl
          refine pure_ (i := 13) (N := some 25) (v := ?_) (a' := ?_) b19_14 rfl rfl qh_ qi_ (Or.inl ⟨qr_, ?_⟩) ?_ ?_; rotate_left; (intro w'; go_simp; with_reducible rfl); rotate_left; exact qa_
          refine pure_ (i := 14) (N := some 26) (v := ?_) (a' := ?_) b19_15 rfl rfl qh_ qi_ (Or.inl ⟨qr_, ?_⟩) ?_ ?_; rotate_left; (intro w'; go_simp; with_reducible rfl); rotate_left; exact qa_
          refine pure_ (i := 15) (N := some 27) (v := ?_) (a' := ?_) b19_16 rfl rfl qh_ qi_ (Or.inl ⟨qr_, ?_⟩) ?_ ?_; rotate_left; (intro w'; go_simp; with_reducible rfl); rotate_left; exact qa_
          refine pure_ (i := 16) (N := some 28) (v := ?_) (a' := ?_) b19_17 rfl rfl qh_ qi_ (Or.inl ⟨qr_, ?_⟩) ?_ ?_; rotate_left; (intro w'; go_simp; with_reducible rfl); rotate_left; exact qa_
          refine pure_ (i := 17) (N := some 29) (v := ?_) (a' := ?_) b19_18 rfl rfl qh_ qi_ (Or.inl ⟨qr_, ?_⟩) ?_ ?_; rotate_left; (intro w'; go_simp; with_reducible rfl); rotate_left; exact qa_
          refine pure_ (i := 18) (N := some 30) (v := undef) (a' := ?_) b19_19 rfl rfl qh_ qi_ (Or.inr ⟨qr_, rfl⟩) ?_ ?_; rotate_left; exact qa_
          refine pure_ (i := 19) (N := some 31) (v := undef) (a' := ?_) b19_20 rfl rfl qh_ qi_ (Or.inr ⟨qr_, rfl⟩) ?_ ?_; rotate_left; exact qa_
          refine pure_ (i := 20) (N := some 32) (v := undef) (a' := ?_) b19_21 rfl rfl qh_ qi_ (Or.inr ⟨qr_, rfl⟩) ?_ ?_; rotate_left; exact qa_
          refine pure_ (i := 21) (N := some 33) (v := undef) (a' := ?_) b19_22 rfl rfl qh_ qi_ (Or.inr ⟨qr_, rfl⟩) ?_ ?_; rotate_left; exact qa_
          refine pure_ (i := 22) (N := some 34) (v := undef) (a' := ?_) b19_23 rfl rfl qh_ qi_ (Or.inr ⟨qr_, rfl⟩) ?_ ?_; rotate_left; exact qa_
          refine pure_ (i := 23) (N := some 35) (v := undef) (a' := ?_) b19_24 rfl rfl qh_ qi_ (Or.inr ⟨qr_, rfl⟩) ?_ ?_; rotate_left; exact qa_
          refine pure_ (i := 24) (N := some 36) (v := undef) (a' := ?_) b19_25 rfl rfl qh_ qi_ (Or.inr ⟨qr_, rfl⟩) ?_ ?_; rotate_left; exact qa_
          refine pure_ (i := 25) (N := some 37) (v := undef) (a' := ?_) b19_26 rfl rfl qh_ qi_ (Or.inr ⟨qr_, rfl⟩) ?_ ?_; rotate_left; exact qa_
          refine pure_ (i := 26) (N := some 38) (v := undef) (a' := ?_) b19_27 rfl rfl qh_ qi_ (Or.inr ⟨qr_, rfl⟩) ?_ ?_; rotate_left; exact qa_
          refine pure_ (i := 27) (N := some 39) (v := undef) (a' := ?_) b19_28 rfl rfl qh_ qi_ (Or.inr ⟨qr_, rfl⟩) ?_ ?_; rotate_left; exact qa_
          refine pure_ (i := 28) (N := some 40) (v := ?_) (a' := ?_) b19_29 rfl rfl qh_ qi_ (Or.inl ⟨qr_, ?_⟩) ?_ ?_; rotate_left; (intro w'; go_simp; with_reducible rfl); rotate_left; exact qa_
          refine pure_ (i := 29) (N := some 41) (v := ?_) (a' := ?_) b19_30 rfl rfl qh_ qi_ (Or.inl ⟨qr_, ?_⟩) ?_ ?_; rotate_left; (intro w'; go_simp; with_reducible rfl); rotate_left; exact qa_
          refine done_ (done_of HT_.out (by kernel_rfl)) ?_
          try go_wp2
          go_roundg k1
          case measure => have := HK1.out; omega
          case rel => exact ⟨(wrap64 (x7_1 + 1)), q9_, H', ⟨by have := HK1.out; omega⟩, ⟨q0_⟩⟩
       ·replace c11 := Bool.eq_false_iff.mpr c11
        subst c11
        replace H := ifF_ H
        obtain rfl := Option.some.inj H
        have p127 : 0 ≤ (x7_1 : Int) := of_decide_eq_true q5_
        have q127 : x7_1 < (l0.length : Int) := of_decide_eq_true q5_
        obtain ⟨ad127, A127_0, c127_0, e127, hx127_0, hx127_1, hl127_0, hi127_0⟩ := at_T27 HR0.out x7_1 p127 q127
        cases e127
        replace hx127_0 := (HB.out.cell (World.block_lt_of_cell? w _ hx127_0)).trans hx127_0
        replace hx127_1 := (HB.out.cell (World.block_lt_of_cell? w _ hx127_1)).trans hx127_1
        have HR127_0 := Aside0.mk hi127_0
        have HC127_0 := Aside0.mk hl127_0
        clear hi127_0 hl127_0
        replace p127 := eq_true p127
        replace q127 := eq_true q127
        try go_wp2_with (first | ((with_reducible refine gate_dst (N := 4) rfl ?_); refine box_event ?hg (N := 4) ?hd (cs := #[.slice none 0 0, .int .i64 0]) (t := 27) ?hr ?_; (case hd => rfl); (case hg => rfl); (case hr => first | (go_simp; done) | (go_simp; rfl)); intro gb128 hg w42 hbox hb; have n0_ := Aside0.mk (below_step q0_ hb); have n1_ := Aside0.mk (hbox); have n2_ := Aside0.mk ((q3_ : w.heap.size ≤ gb128)); have n3_ := Aside0.mk ((q3_ : w.heap.size ≤ gb128)); clear HB; have HB := n0_; have BK128 := n1_; have GW128 := n2_; have GE128 := n3_; clear n0_ n1_ n2_ n3_; clear hb hbox hg; have hcz43_0 : w42.cell? ⟨gb128, 0, none⟩ = some (.slice none 0 0) := (blk_cell BK128.out 0).trans rfl; have hcz43_1 : w42.cell? ⟨gb128, 1, none⟩ = some (.int .i64 0) := (blk_cell BK128.out 1).trans rfl; have hfz43_0 := blk_frozen BK128.out 0; have hfz43_1 := blk_frozen BK128.out 1))
        have n0_ : Aside0 (((w42.setCell ⟨gb128, 0, none⟩ (.slice A127_0 ((rd_T27 l0 x7_1).f0).length c127_0)).setCell ⟨gb128, 1, none⟩ (.int .i64 ((rd_T27 l0 x7_1).f1))).heap[gb128]? = some (.cells #[.slice A127_0 ((rd_T27 l0 x7_1).f0).length c127_0, .int .i64 ((rd_T27 l0 x7_1).f1)] 27 (0, 0))) := ⟨q17_⟩
        have n1_ : Aside0 (Below w.heap.size w ((w42.setCell ⟨gb128, 0, none⟩ (.slice A127_0 ((rd_T27 l0 x7_1).f0).length c127_0)).setCell ⟨gb128, 1, none⟩ (.int .i64 ((rd_T27 l0 x7_1).f1)))) := ⟨q0_⟩
        (try clear BK128)
        (try clear HB)
        generalize ((w42.setCell ⟨gb128, 0, none⟩ (.slice A127_0 ((rd_T27 l0 x7_1).f0).length c127_0)).setCell ⟨gb128, 1, none⟩ (.int .i64 ((rd_T27 l0 x7_1).f1))) = w44 at n0_ n1_ ⊢
        have BK128 := n0_
        have HB := n1_
        clear n0_ n1_
        have n0_ := Aside0.mk (blk_drew BK128.out)
        have n1_ := Aside0.mk (below_drew1 HB.out)
        clear BK128
        clear HB
        have BK128 := n0_
        have HB := n1_
        clear n0_ n1_
        refine start_ (n := 30) (S := fun w' => w'.cell? ⟨gb128, 0, none⟩ = some (.slice A127_0 ((rd_T27 l0 x7_1).f0).length c127_0) ∧ w'.cell? ⟨gb128, 1, none⟩ = some (.int .i64 ((rd_T27 l0 x7_1).f1))) (ds := []) b19_0 (by kernel_rfl) rfl rfl ⟨(blk_cell BK128.out 0).trans rfl, (blk_cell BK128.out 1).trans rfl⟩ (fun hHeld => ?_); refine with_tabW bag_Right.tab4 bag_Right.bits4 (fun HT_ HW_ => ?_)
        generalize w44.drew = w45 at BK128 HB hHeld ⊢
        refine pure_ (i := 0) (N := some 12) (v := ?_) (a' := ?_) b19_1 rfl rfl qh_ qi_ (Or.inl ⟨qr_, ?_⟩) ?_ ?_; rotate_left; (intro w'; go_simp; with_reducible rfl); rotate_left; exact qa_
        refine take_ (i := 1) (N := some 13) (v := ?_) (a' := ?_) b19_2 rfl rfl (take_ofW HT_.out HW_.out (by kernel_rfl)) (fun _ _ _ h => h) (Or.inl ⟨by rfl, ?_⟩) hHeld ?_ ?_; rotate_left; (rintro w' ⟨s0, s1⟩; go_simp; with_reducible rfl); rotate_left; exact qa_
        refine pure_ (i := 2) (N := some 14) (v := ?_) (a' := ?_) b19_3 rfl rfl qh_ qi_ (Or.inl ⟨qr_, ?_⟩) ?_ ?_; rotate_left; (intro w'; go_simp; with_reducible rfl); rotate_left; exact qa_
        refine pure_ (i := 3) (N := some 15) (v := ?_) (a' := ?_) b19_4 rfl rfl qh_ qi_ (Or.inl ⟨qr_, ?_⟩) ?_ ?_; rotate_left; (intro w'; go_simp; with_reducible rfl); rotate_left; exact qa_
        refine pure_ (i := 4) (N := some 16) (v := ?_) (a' := ?_) b19_5 rfl rfl qh_ qi_ (Or.inl ⟨qr_, ?_⟩) ?_ ?_; rotate_left; (intro w'; go_simp; with_reducible rfl); rotate_left; exact qa_
        refine take_ (i := 5) (N := some 17) (v := ?_) (a' := ?_) b19_6 rfl rfl (take_ofW HT_.out HW_.out (by kernel_rfl)) (fun _ _ _ h => h) (Or.inl ⟨by rfl, ?_⟩) hHeld ?_ ?_; rotate_left; (rintro w' ⟨s0, s1⟩; go_simp; with_reducible rfl); rotate_left; exact qa_
        refine one_ (i := 6) (N := some 18) b19_7 rfl rfl (one_of HT_.out (by kernel_rfl)) (by decide) (fun K hK => ?_)
        refine goes_ Tryd.func28 (by kernel_rfl) rfl #[.int .i64 ((rd_T27 l0 x7_1).f1)] (by rfl) rfl rfl q2_ ?_
        with_reducible refine (bag_fits.calls ((rd_T27 l0 x7_1).f1) false _ A10.out).mono ?_
        rintro e w' ⟨rfl, ⟨nd, rfl⟩⟩
        refine ⟨_, rfl, ?_⟩
        refine hK.out _ _ ⟨(blk_cell BK128.out 0).trans rfl, (blk_cell BK128.out 1).trans rfl⟩ (fun hHeld => ?_)
        clear hK K
        refine norm_ (a' := ?_) ?_ ?_
        rotate_left
        ·show Act.put _ (some 18) _ = _
         simp only [Act.put, List.setIfInBounds_toArray, List.set_cons_zero, List.set_cons_succ, i64_w, i32_w]
         rfl
        refine pure_ (i := 7) (N := some 19) (v := ?_) (a' := ?_) b19_8 rfl rfl qh_ qi_ (Or.inl ⟨qr_, ?_⟩) ?_ ?_; rotate_left; (intro w'; go_simp; with_reducible rfl); rotate_left; exact qa_
        refine pure_ (i := 8) (N := some 20) (v := ?_) (a' := ?_) b19_9 rfl rfl qh_ qi_ (Or.inl ⟨qr_, ?_⟩) ?_ ?_; rotate_left; (intro w'; go_simp; with_reducible rfl); rotate_left; exact qa_
        refine pure_ (i := 9) (N := some 21) (v := ?_) (a' := ?_) b19_10 rfl rfl qh_ qi_ (Or.inl ⟨qr_, ?_⟩) ?_ ?_; rotate_left; (intro w'; go_simp; with_reducible rfl); rotate_left; exact qa_
        refine pure_ (i := 10) (N := some 22) (v := undef) (a' := ?_) b19_11 rfl rfl qh_ qi_ (Or.inr ⟨qr_, rfl⟩) ?_ ?_; rotate_left; exact qa_
        refine pure_ (i := 11) (N := some 23) (v := undef) (a' := ?_) b19_12 rfl rfl qh_ qi_ (Or.inr ⟨qr_, rfl⟩) ?_ ?_; rotate_left; exact qa_
        refine pure_ (i := 12) (N := some 24) (v := undef) (a' := ?_) b19_13 rfl rfl qh_ qi_ (Or.inr ⟨qr_, rfl⟩) ?_ ?_; rotate_left; exact qa_
        refine pure_ (i := 13) (N := some 25) (v := ?_) (a' := ?_) b19_14 rfl rfl qh_ qi_ (Or.inl ⟨qr_, ?_⟩) ?_ ?_; rotate_left; (intro w'; go_simp; with_reducible rfl); rotate_left; exact qa_
        refine pure_ (i := 14) (N := some 26) (v := ?_) (a' := ?_) b19_15 rfl rfl qh_ qi_ (Or.inl ⟨qr_, ?_⟩) ?_ ?_; rotate_left; (intro w'; go_simp; with_reducible rfl); rotate_left; exact qa_
        refine pure_ (i := 15) (N := some 27) (v := undef) (a' := ?_) b19_16 rfl rfl qh_ qi_ (Or.inr ⟨qr_, rfl⟩) ?_ ?_; rotate_left; exact qa_
        refine pure_ (i := 16) (N := some 28) (v := undef) (a' := ?_) b19_17 rfl rfl qh_ qi_ (Or.inr ⟨qr_, rfl⟩) ?_ ?_; rotate_left; exact qa_
        refine pure_ (i := 17) (N := some 29) (v := undef) (a' := ?_) b19_18 rfl rfl qh_ qi_ (Or.inr ⟨qr_, rfl⟩) ?_ ?_; rotate_left; exact qa_
        refine pure_ (i := 18) (N := some 30) (v := undef) (a' := ?_) b19_19 rfl rfl qh_ qi_ (Or.inr ⟨qr_, rfl⟩) ?_ ?_; rotate_left; exact qa_
        refine pure_ (i := 19) (N := some 31) (v := undef) (a' := ?_) b19_20 rfl rfl qh_ qi_ (Or.inr ⟨qr_, rfl⟩) ?_ ?_; rotate_left; exact qa_
        refine pure_ (i := 20) (N := some 32) (v := undef) (a' := ?_) b19_21 rfl rfl qh_ qi_ (Or.inr ⟨qr_, rfl⟩) ?_ ?_; rotate_left; exact qa_
        refine pure_ (i := 21) (N := some 33) (v := undef) (a' := ?_) b19_22 rfl rfl qh_ qi_ (Or.inr ⟨qr_, rfl⟩) ?_ ?_; rotate_left; exact qa_
        refine pure_ (i := 22) (N := some 34) (v := undef) (a' := ?_) b19_23 rfl rfl qh_ qi_ (Or.inr ⟨qr_, rfl⟩) ?_ ?_; rotate_left; exact qa_
        refine pure_ (i := 23) (N := some 35) (v := undef) (a' := ?_) b19_24 rfl rfl qh_ qi_ (Or.inr ⟨qr_, rfl⟩) ?_ ?_; rotate_left; exact qa_
        refine pure_ (i := 24) (N := some 36) (v := undef) (a' := ?_) b19_25 rfl rfl qh_ qi_ (Or.inr ⟨qr_, rfl⟩) ?_ ?_; rotate_left; exact qa_
        refine pure_ (i := 25) (N := some 37) (v := undef) (a' := ?_) b19_26 rfl rfl qh_ qi_ (Or.inr ⟨qr_, rfl⟩) ?_ ?_; rotate_left; exact qa_
        refine pure_ (i := 26) (N := some 38) (v := undef) (a' := ?_) b19_27 rfl rfl qh_ qi_ (Or.inr ⟨qr_, rfl⟩) ?_ ?_; rotate_left; exact qa_
        refine pure_ (i := 27) (N := some 39) (v := undef) (a' := ?_) b19_28 rfl rfl qh_ qi_ (Or.inr ⟨qr_, rfl⟩) ?_ ?_; rotate_left; exact qa_
        refine pure_ (i := 28) (N := some 40) (v := undef) (a' := ?_) b19_29 rfl rfl qh_ qi_ (Or.inr ⟨qr_, rfl⟩) ?_ ?_; rotate_left; exact qa_
        refine pure_ (i := 29) (N := some 41) (v := ?_) (a' := ?_) b19_30 rfl rfl qh_ qi_ (Or.inl ⟨qr_, ?_⟩) ?_ ?_; rotate_left; (intro w'; go_simp; with_reducible rfl); rotate_left; exact qa_
        refine done_ (done_of HT_.out (by kernel_rfl)) ?_
        try go_wp2
        go_ret
        exact ⟨q4_, q0_⟩
     ·rw [if_neg c4] at H
      exact absurd H (by simp)
    ·rw [if_neg c3] at H
     exact absurd H (by simp)
   ·rw [if_neg c2] at H
    have c2b0 : decide (x7_1 < (l0.length : Int)) = false := decide_eq_false c2
    clear c2
    obtain rfl := Option.some.inj H
    go_wp2
    go_ret
    exact ⟨q4_, q0_⟩

end Go.Proofs.YtckligjgnbgdiaaDoor.P
