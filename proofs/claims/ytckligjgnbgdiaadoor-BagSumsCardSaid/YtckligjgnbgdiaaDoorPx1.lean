-- HALVED
import Derived.Test.YtckligjgnbgdiaaDoorPx0
namespace Go.Proofs.YtckligjgnbgdiaaDoor.P
open Go.RowKit Go.Proofs.YtckligjgnbgdiaaDoorW.PrintWords Go.Proofs.YtckligjgnbgdiaaDoorW.PrintLast Go.Proofs.YtckligjgnbgdiaaDoorW.PrintMore
attribute [local go_sem] max2_int min2_mn max_two min_two max_three min_three max_four min_four   -- for this text's walks alone
set_option linter.unusedVariables false
set_option linter.unusedSimpArgs false

theorem eqA51 (d : Nat) (w : World) (x0 y0 : Int) (x1 y1 : Int) (x2 y2 : ByteArray) :
  (Op.equalIn (d + 2) 51 (.agg #[.int .i64 x0, .int .i64 x1, .string x2]) (.agg #[.int .i64 y0, .int .i64 y1, .string y2])).run Tryd.prog w = .ok (x0 == y0 && (x1 == y1 && (x2.toList == y2.toList))) w := by
 refine eqA_of Tryd.underlying51 (by kernel_rfl) ?_
 refine eqf_cons (by rfl) (by go_simp; rfl) (by go_simp; rfl) (by go_simp) ?_
 refine eqf_cons (by rfl) (by go_simp; rfl) (by go_simp; rfl) (by go_simp) ?_
 exact eqf_last (by rfl) (by go_simp; rfl) (by go_simp; rfl) (by go_simp)

abbrev b1_0 : Array Bool := #[false, false, false, false, false, false, false, false, false, false, false, false, false, false, false, false, false, false]
abbrev b1_1 : Array Bool := #[true, false, false, false, false, false, false, false, false, false, false, false, false, false, false, false, false, false]
abbrev b1_2 : Array Bool := #[true, false, true, false, false, false, false, false, false, false, false, false, false, false, false, false, false, false]
abbrev b1_3 : Array Bool := #[true, false, true, false, false, true, false, false, false, false, false, false, false, false, false, false, false, false]
abbrev b1_4 : Array Bool := #[true, false, true, false, false, true, false, true, false, false, false, false, false, false, false, false, false, false]
abbrev b1_5 : Array Bool := #[true, false, true, false, false, true, false, true, false, false, true, false, false, false, false, false, false, false]
abbrev b1_6 : Array Bool := #[true, false, true, false, false, true, false, true, false, false, true, false, true, false, false, false, false, false]
abbrev b1_7 : Array Bool := #[true, true, true, false, false, true, false, true, false, false, true, false, true, false, false, false, false, false]
abbrev b1_8 : Array Bool := #[true, true, true, true, false, true, false, true, false, false, true, false, true, false, false, false, false, false]
abbrev b1_9 : Array Bool := #[true, true, true, true, false, true, true, true, false, false, true, false, true, false, false, false, false, false]
abbrev b1_10 : Array Bool := #[true, true, true, true, false, true, true, true, true, false, true, false, true, false, false, false, false, false]
abbrev b1_11 : Array Bool := #[true, true, true, true, false, true, true, true, true, false, true, true, true, false, false, false, false, false]
abbrev b1_12 : Array Bool := #[true, true, true, true, false, true, true, true, true, false, true, true, true, true, false, false, false, false]
abbrev b1_13 : Array Bool := #[true, true, true, true, true, true, true, true, true, false, true, true, true, true, false, false, false, false]
abbrev b1_14 : Array Bool := #[true, true, true, true, true, true, true, true, true, true, true, true, true, true, false, false, false, false]
abbrev b1_15 : Array Bool := #[true, true, true, true, true, true, true, true, true, true, true, true, true, true, true, false, false, false]
abbrev b1_16 : Array Bool := #[true, true, true, true, true, true, true, true, true, true, true, true, true, true, true, true, false, false]
abbrev b1_17 : Array Bool := #[true, true, true, true, true, true, true, true, true, true, true, true, true, true, true, true, true, false]
abbrev b1_18 : Array Bool := #[true, true, true, true, true, true, true, true, true, true, true, true, true, true, true, true, true, true]
abbrev b1_19 : Array Bool := #[false, false, false, false, false, false, false, false, false, false]
abbrev b1_20 : Array Bool := #[true, false, false, false, false, false, false, false, false, false]
abbrev b1_21 : Array Bool := #[true, true, false, false, false, false, false, false, false, false]
abbrev b1_22 : Array Bool := #[true, true, true, false, false, false, false, false, false, false]
abbrev b1_23 : Array Bool := #[true, true, true, false, true, false, false, false, false, false]
abbrev b1_24 : Array Bool := #[true, true, true, false, true, true, false, false, false, false]
abbrev b1_25 : Array Bool := #[true, true, true, false, true, true, true, false, false, false]
abbrev b1_26 : Array Bool := #[true, true, true, true, true, true, true, false, false, false]
abbrev b1_27 : Array Bool := #[true, true, true, true, true, true, true, true, false, false]
abbrev b1_28 : Array Bool := #[true, true, true, true, true, true, true, true, true, false]
abbrev b1_29 : Array Bool := #[true, true, true, true, true, true, true, true, true, true]
def corollaryref13_Small.l0 : Nat → List (S27) → Int → Option (Bool)
 | 0, _, _ => none
 | k + 1, x0, x3 => if x3 < (x0.length : Int) then (if 0 ≤ x3 then (if (((rd_T27 x0 x3).f0).length : Int) > 40 then (some false) else (corollaryref13_Small.l0 k x0 (wrap64 (x3 + 1)))) else (none)) else (some true)
def corollaryref13_Small.f (k : Nat) (l0 : List (S27)) : Option (Bool) := if (l0.length : Int) > 60 then (some false) else (corollaryref13_Small.l0 k l0 0)
theorem corollaryref13_Small.mono_l : ∀ k, (∀ y0 y1, LeO (corollaryref13_Small.l0 k y0 y1) (corollaryref13_Small.l0 (k + 1) y0 y1))
 | 0 => fun _ _ r h => by simp [corollaryref13_Small.l0] at h
 | k + 1 => by
  have ih0 := corollaryref13_Small.mono_l k
  ·intro y0 y1
   unfold corollaryref13_Small.l0
   repeat' first
   | (with_reducible exact ih0 _ _)
   | (with_reducible exact LeO.refl _)
   | (with_reducible exact LeO.none _)
   | (with_reducible refine LeO.ite ?_ ?_)
   | (with_reducible refine LeO.bind ?_ (fun _ => ?_))
   | exact ih0 _ _
   | exact LeO.none _
   | refine LeO.ite ?_ ?_
   | refine LeO.bind ?_ (fun _ => ?_)
theorem corollaryref13_Small.mono : ∀ a0 k, LeO (corollaryref13_Small.f k a0) (corollaryref13_Small.f (k + 1) a0) := by
 intro a0 k
 have ih0 := corollaryref13_Small.mono_l k
 unfold corollaryref13_Small.f
 repeat' first
   | (with_reducible exact ih0 _ _)
   | (with_reducible exact LeO.refl _)
   | (with_reducible exact LeO.none _)
   | (with_reducible refine LeO.ite ?_ ?_)
   | (with_reducible refine LeO.bind ?_ (fun _ => ?_))
   | exact ih0 _ _
   | exact LeO.none _
   | refine LeO.ite ?_ ?_
   | refine LeO.bind ?_ (fun _ => ?_)
set_option maxHeartbeats 8000000 in
set_option maxRecDepth 100000 in
theorem corollaryref13_Small.calls (k : Nat) (A0 : Option Addr) (c0 : Nat) (l0 : List (S27)) (r : Bool) (w : World) (hr0 : Kd.C k27 w A0 l0.length l0) (hc0 : l0.length ≤ c0) (h : corollaryref13_Small.f k l0 = some r) :
  Calls Tryd.prog 9 #[.slice A0 l0.length c0] w fun e w' => e = .returned (.bool r) ∧ Drawn0 w w' := by
 have HR0 := Aside0.mk hr0
 have HC0 := Aside0.mk hc0
 clear hr0 hc0
 have H : (if (l0.length : Int) > 60 then (some false) else (corollaryref13_Small.l0 k l0 0)) = some r := h
 clear h
 by_cases c2 : (l0.length : Int) > 60
 ·rw [if_pos c2] at H
  have c2b0 : decide (60 < (l0.length : Int)) = true := decide_eq_true c2
  have c2b1 : decide (60 < l0.length) = true := decide_eq_true (by omega)
  clear c2
  obtain rfl := Option.some.inj H
  go_enter Tryd.func9, Tryd.ntmps9
  go_wp2
  go_ret
  exact ⟨q9_, q10_⟩
 ·rw [if_neg c2] at H
  have c2b0 : decide (60 < (l0.length : Int)) = false := decide_eq_false c2
  have c2b1 : decide (60 < l0.length) = false := decide_eq_false (by omega)
  clear c2
  have H' := Aside0.mk H
  clear H
  go_enter Tryd.func9, Tryd.ntmps9
  go_wp2
  go_loopg [3] k (fun kq v3 w' => ∃ (x3_1 : Int), v3 = .int .i64 x3_1 ∧ Aside0 (corollaryref13_Small.l0 kq l0 x3_1 = some r) ∧ Aside0 (kq ≤ k) ∧ Drawn0 w w')
  case atStart => exact ⟨(0), q9_, H', ⟨Nat.le_refl _⟩, q10_⟩
  case round =>
   clear H'
   try clear c2
   try clear c2b0
   try clear c2b1
   try clear p2
   obtain ⟨x3_1, rfl, HA, HK1, ⟨m1, rfl⟩⟩ := hrel
   cases gk with
   | zero => exact absurd HA.out (by simp [corollaryref13_Small.l0])
   | succ k1 =>
    have H := HA.out
    clear HA
    simp only [corollaryref13_Small.l0] at H
    by_cases c3 : x3_1 < (l0.length : Int)
    ·rw [if_pos c3] at H
     have c3b0 : decide (x3_1 < (l0.length : Int)) = true := decide_eq_true c3
     clear c3
     by_cases c4 : 0 ≤ x3_1
     ·rw [if_pos c4] at H
      have c4b0 : decide (0 ≤ x3_1) = true := decide_eq_true c4
      clear c4
      by_cases c5 : (((rd_T27 l0 x3_1).f0).length : Int) > 40
      ·rw [if_pos c5] at H
       have c5b0 : decide (40 < (((rd_T27 l0 x3_1).f0).length : Int)) = true := decide_eq_true c5
       have c5b1 : decide (40 < ((rd_T27 l0 x3_1).f0).length) = true := decide_eq_true (by omega)
       clear c5
       obtain rfl := Option.some.inj H
       have p101 : 0 ≤ (x3_1 : Int) := of_decide_eq_true q5_
       have q101 : x3_1 < (l0.length : Int) := of_decide_eq_true q5_
       obtain ⟨ad101, A101_0, c101_0, e101, hx101_0, hx101_1, hl101_0, hi101_0⟩ := at_T27 HR0.out x3_1 p101 q101
       cases e101
       have HR101_0 := Aside0.mk hi101_0
       have HC101_0 := Aside0.mk hl101_0
       clear hi101_0 hl101_0
       replace p101 := eq_true p101
       replace q101 := eq_true q101
       go_wp2
       go_ret
       exact ⟨q9_, q10_⟩
      ·rw [if_neg c5] at H
       have c5b0 : decide (40 < (((rd_T27 l0 x3_1).f0).length : Int)) = false := decide_eq_false c5
       have c5b1 : decide (40 < ((rd_T27 l0 x3_1).f0).length) = false := decide_eq_false (by omega)
       clear c5
       have H' := Aside0.mk H
       clear H
       have p101 : 0 ≤ (x3_1 : Int) := of_decide_eq_true q5_
       have q101 : x3_1 < (l0.length : Int) := of_decide_eq_true q5_
       obtain ⟨ad101, A101_0, c101_0, e101, hx101_0, hx101_1, hl101_0, hi101_0⟩ := at_T27 HR0.out x3_1 p101 q101
       cases e101
       have HR101_0 := Aside0.mk hi101_0
       have HC101_0 := Aside0.mk hl101_0
       clear hi101_0 hl101_0
       replace p101 := eq_true p101
       replace q101 := eq_true q101
       go_wp2
       go_roundg k1
       case measure => have := HK1.out; omega
       case rel => exact ⟨(wrap64 (x3_1 + 1)), q9_, H', ⟨by have := HK1.out; omega⟩, q10_⟩
     ·rw [if_neg c4] at H
      exact absurd H (by simp)
    ·rw [if_neg c3] at H
     have c3b0 : decide (x3_1 < (l0.length : Int)) = false := decide_eq_false c3
     clear c3
     obtain rfl := Option.some.inj H
     go_wp2
     go_ret
     exact ⟨q9_, q10_⟩
def bag_fits.f (a0 : Int) : Option (Bool) := if a0 ≥ (-1099511627776) then (some (decide (a0 ≤ 1099511627776))) else (some false)
set_option maxHeartbeats 8000000 in
set_option maxRecDepth 100000 in
theorem bag_fits.calls (a0 : Int) (r : Bool) (w : World) (h : bag_fits.f a0 = some r) :
  Calls Tryd.prog 28 #[.int .i64 a0] w fun e w' => e = .returned (.bool r) ∧ Drawn0 w w' := by
 have H : (if a0 ≥ (-1099511627776) then (some (decide (a0 ≤ 1099511627776))) else (some false)) = some r := h
 clear h
 by_cases c2 : a0 ≥ (-1099511627776)
 ·rw [if_pos c2] at H
  have c2b0 : decide ((-1099511627776) ≤ a0) = true := decide_eq_true c2
  clear c2
  obtain rfl := Option.some.inj H
  go_enter Tryd.func28, Tryd.ntmps28
  go_wp2
  go_ret
  exact ⟨q9_, q10_⟩
 ·rw [if_neg c2] at H
  have c2b0 : decide ((-1099511627776) ≤ a0) = false := decide_eq_false c2
  clear c2
  obtain rfl := Option.some.inj H
  go_enter Tryd.func28, Tryd.ntmps28
  go_wp2
  go_ret
  exact ⟨q9_, q10_⟩
def utf8_ValidString.f (a0 : ByteArray) : Option (Bool) := if a0.size ≤ 9223372036854775807 then some (Go.Lib.validD a0.data.toList) else none
theorem utf8_ValidString.calls (a0 : ByteArray) (r : Bool) (w : World) (h : utf8_ValidString.f a0 = some r) (hG : Glob w) :
  Calls Tryd.prog 56 #[.string a0] w fun e w' => e = .returned (.bool r) ∧ Below w.heap.size w w' := by
 unfold utf8_ValidString.f at h
 split at h
 ·rename_i hs
  obtain rfl := Option.some.inj h
  exact Any.utf8_ValidString Tryd.laysValid a0 w hs hG.u8
 ·exact absurd h (by simp)
def value_Right.f (a0_0 : Int) (a0_1 : Int) (a0_2 : ByteArray) : Option (Bool) := if a0_0 = 0 then (if a0_1 = 0 then (some (a0_2.toList == ([] : List UInt8))) else (some false)) else (if a0_0 = 1 then (if a0_1 = 0 then (some (a0_2.toList == ([] : List UInt8))) else (if a0_1 = 1 then (some (a0_2.toList == ([] : List UInt8))) else (some false))) else (if a0_0 = 2 then (some (a0_2.toList == ([] : List UInt8))) else (if a0_0 = 3 then (if a0_1 = 0 then (if (a0_2.size : Int) ≤ 64 then ((utf8_ValidString.f a0_2).bind fun t103 => (some t103)) else (some false)) else (some false)) else (if a0_0 = 4 then (if a0_1 = 0 then (some (decide ((a0_2.size : Int) ≤ 64))) else (some false)) else (some false)))))
set_option maxHeartbeats 8000000 in
set_option maxRecDepth 100000 in
theorem value_Right.calls (a0_0 : Int) (a0_1 : Int) (a0_2 : ByteArray) (r : Bool) (w : World) (h : value_Right.f a0_0 a0_1 a0_2 = some r) (hG : Glob w) :
  Calls Tryd.prog 48 #[.agg #[.int .i64 a0_0, .int .i64 a0_1, .string a0_2]] w fun e w' => e = .returned (.bool r) ∧ Below w.heap.size w w' := by
 have hu51 := Tryd.underlying51
 have HG := Aside0.mk hG
 clear hG
 have HB := Aside0.mk (Below.refl w.heap.size w)
 have H : (if a0_0 = 0 then (if a0_1 = 0 then (some (a0_2.toList == ([] : List UInt8))) else (some false)) else (if a0_0 = 1 then (if a0_1 = 0 then (some (a0_2.toList == ([] : List UInt8))) else (if a0_1 = 1 then (some (a0_2.toList == ([] : List UInt8))) else (some false))) else (if a0_0 = 2 then (some (a0_2.toList == ([] : List UInt8))) else (if a0_0 = 3 then (if a0_1 = 0 then (if (a0_2.size : Int) ≤ 64 then ((utf8_ValidString.f a0_2).bind fun t103 => (some t103)) else (some false)) else (some false)) else (if a0_0 = 4 then (if a0_1 = 0 then (some (decide ((a0_2.size : Int) ≤ 64))) else (some false)) else (some false)))))) = some r := h
 clear h
 by_cases c2 : a0_0 = 0
 ·rw [if_pos c2] at H
  have c2b0 : (a0_0 == 0) = true := beq_iff_eq.mpr c2
  have c2b1 : (a0_0 != 0) = false := bne_eq_false_iff_eq.mpr c2
  clear c2
  by_cases c3 : a0_1 = 0
  ·rw [if_pos c3] at H
   have c3b0 : (a0_1 == 0) = true := beq_iff_eq.mpr c3
   have c3b1 : (a0_1 != 0) = false := bne_eq_false_iff_eq.mpr c3
   clear c3
   obtain rfl := Option.some.inj H
   go_enter Tryd.func48, Tryd.ntmps48
   go_wp2_with (first | ((with_reducible refine gate_dst (N := 1) rfl ?_); (try (refine gate_guard (by rfl) ?_; dsimp only)); refine box_event ?hg (N := 1) ?hd (cs := #[.int .i64 a0_0, .int .i64 a0_1, .string a0_2]) (t := 51) ?hr ?_; (case hd => rfl); (case hg => rfl); (case hr => first | (go_simp; done) | (go_simp; rfl)); intro gb102 hg w4 hbox hb; have n0_ := Aside0.mk (below_step q0_ hb); have n1_ := Aside0.mk (hbox); have n2_ := Aside0.mk ((q3_ : w.heap.size ≤ gb102)); have n3_ := Aside0.mk ((q3_ : w.heap.size ≤ gb102)); clear HB; have HB := n0_; have BK102 := n1_; have GW102 := n2_; have GE102 := n3_; clear n0_ n1_ n2_ n3_; clear hb hbox hg; have hcz5_0 : w4.cell? ⟨gb102, 0, none⟩ = some (.int .i64 a0_0) := (blk_cell BK102.out 0).trans rfl; have hcz5_1 : w4.cell? ⟨gb102, 1, none⟩ = some (.int .i64 a0_1) := (blk_cell BK102.out 1).trans rfl; have hcz5_2 : w4.cell? ⟨gb102, 2, none⟩ = some (.string a0_2) := (blk_cell BK102.out 2).trans rfl; have hfz5_0 := blk_frozen BK102.out 0; have hfz5_1 := blk_frozen BK102.out 1; have hfz5_2 := blk_frozen BK102.out 2))
   go_ret
   exact ⟨q4_, q0_⟩
  ·rw [if_neg c3] at H
   have c3b0 : (a0_1 == 0) = false := beq_eq_false_iff_ne.mpr c3
   have c3b1 : (a0_1 != 0) = true := bne_iff_ne.mpr c3
   obtain rfl := Option.some.inj H
   go_enter Tryd.func48, Tryd.ntmps48
   go_wp2_with (first | ((with_reducible refine gate_dst (N := 1) rfl ?_); (try (refine gate_guard (by rfl) ?_; dsimp only)); refine box_event ?hg (N := 1) ?hd (cs := #[.int .i64 a0_0, .int .i64 a0_1, .string a0_2]) (t := 51) ?hr ?_; (case hd => rfl); (case hg => rfl); (case hr => first | (go_simp; done) | (go_simp; rfl)); intro gb102 hg w6 hbox hb; have n0_ := Aside0.mk (below_step q0_ hb); have n1_ := Aside0.mk (hbox); have n2_ := Aside0.mk ((q3_ : w.heap.size ≤ gb102)); have n3_ := Aside0.mk ((q3_ : w.heap.size ≤ gb102)); clear HB; have HB := n0_; have BK102 := n1_; have GW102 := n2_; have GE102 := n3_; clear n0_ n1_ n2_ n3_; clear hb hbox hg; have hcz7_0 : w6.cell? ⟨gb102, 0, none⟩ = some (.int .i64 a0_0) := (blk_cell BK102.out 0).trans rfl; have hcz7_1 : w6.cell? ⟨gb102, 1, none⟩ = some (.int .i64 a0_1) := (blk_cell BK102.out 1).trans rfl; have hcz7_2 : w6.cell? ⟨gb102, 2, none⟩ = some (.string a0_2) := (blk_cell BK102.out 2).trans rfl; have hfz7_0 := blk_frozen BK102.out 0; have hfz7_1 := blk_frozen BK102.out 1; have hfz7_2 := blk_frozen BK102.out 2))
   go_ret
   exact ⟨q4_, q0_⟩
 ·rw [if_neg c2] at H
  have c2b0 : (a0_0 == 0) = false := beq_eq_false_iff_ne.mpr c2
  have c2b1 : (a0_0 != 0) = true := bne_iff_ne.mpr c2
  by_cases c8 : a0_0 = 1
  ·rw [if_pos c8] at H
   have c8b0 : (a0_0 == 1) = true := beq_iff_eq.mpr c8
   have c8b1 : (a0_0 != 1) = false := bne_eq_false_iff_eq.mpr c8
   clear c8
   by_cases c9 : a0_1 = 0
   ·rw [if_pos c9] at H
    have c9b0 : (a0_1 == 0) = true := beq_iff_eq.mpr c9
    have c9b1 : (a0_1 != 0) = false := bne_eq_false_iff_eq.mpr c9
    clear c9
    obtain rfl := Option.some.inj H
    go_enter Tryd.func48, Tryd.ntmps48
    go_wp2_with (first | ((with_reducible refine gate_dst (N := 1) rfl ?_); (try (refine gate_guard (by rfl) ?_; dsimp only)); refine box_event ?hg (N := 1) ?hd (cs := #[.int .i64 a0_0, .int .i64 a0_1, .string a0_2]) (t := 51) ?hr ?_; (case hd => rfl); (case hg => rfl); (case hr => first | (go_simp; done) | (go_simp; rfl)); intro gb102 hg w10 hbox hb; have n0_ := Aside0.mk (below_step q0_ hb); have n1_ := Aside0.mk (hbox); have n2_ := Aside0.mk ((q3_ : w.heap.size ≤ gb102)); have n3_ := Aside0.mk ((q3_ : w.heap.size ≤ gb102)); clear HB; have HB := n0_; have BK102 := n1_; have GW102 := n2_; have GE102 := n3_; clear n0_ n1_ n2_ n3_; clear hb hbox hg; have hcz11_0 : w10.cell? ⟨gb102, 0, none⟩ = some (.int .i64 a0_0) := (blk_cell BK102.out 0).trans rfl; have hcz11_1 : w10.cell? ⟨gb102, 1, none⟩ = some (.int .i64 a0_1) := (blk_cell BK102.out 1).trans rfl; have hcz11_2 : w10.cell? ⟨gb102, 2, none⟩ = some (.string a0_2) := (blk_cell BK102.out 2).trans rfl; have hfz11_0 := blk_frozen BK102.out 0; have hfz11_1 := blk_frozen BK102.out 1; have hfz11_2 := blk_frozen BK102.out 2))
    go_ret
    exact ⟨q4_, q0_⟩
   ·rw [if_neg c9] at H
    have c9b0 : (a0_1 == 0) = false := beq_eq_false_iff_ne.mpr c9
    have c9b1 : (a0_1 != 0) = true := bne_iff_ne.mpr c9
    by_cases c12 : a0_1 = 1
    ·rw [if_pos c12] at H
     have c12b0 : (a0_1 == 1) = true := beq_iff_eq.mpr c12
     have c12b1 : (a0_1 != 1) = false := bne_eq_false_iff_eq.mpr c12
     clear c12
     obtain rfl := Option.some.inj H
     go_enter Tryd.func48, Tryd.ntmps48
     go_wp2_with (first | ((with_reducible refine gate_dst (N := 1) rfl ?_); (try (refine gate_guard (by rfl) ?_; dsimp only)); refine box_event ?hg (N := 1) ?hd (cs := #[.int .i64 a0_0, .int .i64 a0_1, .string a0_2]) (t := 51) ?hr ?_; (case hd => rfl); (case hg => rfl); (case hr => first | (go_simp; done) | (go_simp; rfl)); intro gb102 hg w13 hbox hb; have n0_ := Aside0.mk (below_step q0_ hb); have n1_ := Aside0.mk (hbox); have n2_ := Aside0.mk ((q3_ : w.heap.size ≤ gb102)); have n3_ := Aside0.mk ((q3_ : w.heap.size ≤ gb102)); clear HB; have HB := n0_; have BK102 := n1_; have GW102 := n2_; have GE102 := n3_; clear n0_ n1_ n2_ n3_; clear hb hbox hg; have hcz14_0 : w13.cell? ⟨gb102, 0, none⟩ = some (.int .i64 a0_0) := (blk_cell BK102.out 0).trans rfl; have hcz14_1 : w13.cell? ⟨gb102, 1, none⟩ = some (.int .i64 a0_1) := (blk_cell BK102.out 1).trans rfl; have hcz14_2 : w13.cell? ⟨gb102, 2, none⟩ = some (.string a0_2) := (blk_cell BK102.out 2).trans rfl; have hfz14_0 := blk_frozen BK102.out 0; have hfz14_1 := blk_frozen BK102.out 1; have hfz14_2 := blk_frozen BK102.out 2))
     go_ret
     exact ⟨q4_, q0_⟩
    ·rw [if_neg c12] at H
     have c12b0 : (a0_1 == 1) = false := beq_eq_false_iff_ne.mpr c12
     have c12b1 : (a0_1 != 1) = true := bne_iff_ne.mpr c12
     obtain rfl := Option.some.inj H
     go_enter Tryd.func48, Tryd.ntmps48
     go_wp2_with (first | ((with_reducible refine gate_dst (N := 1) rfl ?_); (try (refine gate_guard (by rfl) ?_; dsimp only)); refine box_event ?hg (N := 1) ?hd (cs := #[.int .i64 a0_0, .int .i64 a0_1, .string a0_2]) (t := 51) ?hr ?_; (case hd => rfl); (case hg => rfl); (case hr => first | (go_simp; done) | (go_simp; rfl)); intro gb102 hg w15 hbox hb; have n0_ := Aside0.mk (below_step q0_ hb); have n1_ := Aside0.mk (hbox); have n2_ := Aside0.mk ((q3_ : w.heap.size ≤ gb102)); have n3_ := Aside0.mk ((q3_ : w.heap.size ≤ gb102)); clear HB; have HB := n0_; have BK102 := n1_; have GW102 := n2_; have GE102 := n3_; clear n0_ n1_ n2_ n3_; clear hb hbox hg; have hcz16_0 : w15.cell? ⟨gb102, 0, none⟩ = some (.int .i64 a0_0) := (blk_cell BK102.out 0).trans rfl; have hcz16_1 : w15.cell? ⟨gb102, 1, none⟩ = some (.int .i64 a0_1) := (blk_cell BK102.out 1).trans rfl; have hcz16_2 : w15.cell? ⟨gb102, 2, none⟩ = some (.string a0_2) := (blk_cell BK102.out 2).trans rfl; have hfz16_0 := blk_frozen BK102.out 0; have hfz16_1 := blk_frozen BK102.out 1; have hfz16_2 := blk_frozen BK102.out 2))
     go_ret
     exact ⟨q4_, q0_⟩
  ·rw [if_neg c8] at H
   have c8b0 : (a0_0 == 1) = false := beq_eq_false_iff_ne.mpr c8
   have c8b1 : (a0_0 != 1) = true := bne_iff_ne.mpr c8
   by_cases c17 : a0_0 = 2
   ·rw [if_pos c17] at H
    have c17b0 : (a0_0 == 2) = true := beq_iff_eq.mpr c17
    have c17b1 : (a0_0 != 2) = false := bne_eq_false_iff_eq.mpr c17
    clear c17
    obtain rfl := Option.some.inj H
    go_enter Tryd.func48, Tryd.ntmps48
    go_wp2_with (first | ((with_reducible refine gate_dst (N := 1) rfl ?_); (try (refine gate_guard (by rfl) ?_; dsimp only)); refine box_event ?hg (N := 1) ?hd (cs := #[.int .i64 a0_0, .int .i64 a0_1, .string a0_2]) (t := 51) ?hr ?_; (case hd => rfl); (case hg => rfl); (case hr => first | (go_simp; done) | (go_simp; rfl)); intro gb102 hg w18 hbox hb; have n0_ := Aside0.mk (below_step q0_ hb); have n1_ := Aside0.mk (hbox); have n2_ := Aside0.mk ((q3_ : w.heap.size ≤ gb102)); have n3_ := Aside0.mk ((q3_ : w.heap.size ≤ gb102)); clear HB; have HB := n0_; have BK102 := n1_; have GW102 := n2_; have GE102 := n3_; clear n0_ n1_ n2_ n3_; clear hb hbox hg; have hcz19_0 : w18.cell? ⟨gb102, 0, none⟩ = some (.int .i64 a0_0) := (blk_cell BK102.out 0).trans rfl; have hcz19_1 : w18.cell? ⟨gb102, 1, none⟩ = some (.int .i64 a0_1) := (blk_cell BK102.out 1).trans rfl; have hcz19_2 : w18.cell? ⟨gb102, 2, none⟩ = some (.string a0_2) := (blk_cell BK102.out 2).trans rfl; have hfz19_0 := blk_frozen BK102.out 0; have hfz19_1 := blk_frozen BK102.out 1; have hfz19_2 := blk_frozen BK102.out 2))
    go_ret
    exact ⟨q4_, q0_⟩
   ·rw [if_neg c17] at H
    have c17b0 : (a0_0 == 2) = false := beq_eq_false_iff_ne.mpr c17
    have c17b1 : (a0_0 != 2) = true := bne_iff_ne.mpr c17
    by_cases c20 : a0_0 = 3
    ·rw [if_pos c20] at H
     have c20b0 : (a0_0 == 3) = true := beq_iff_eq.mpr c20
     have c20b1 : (a0_0 != 3) = false := bne_eq_false_iff_eq.mpr c20
     clear c20
     by_cases c21 : a0_1 = 0
     ·rw [if_pos c21] at H
      have c21b0 : (a0_1 == 0) = true := beq_iff_eq.mpr c21
      have c21b1 : (a0_1 != 0) = false := bne_eq_false_iff_eq.mpr c21
      clear c21
      by_cases c22 : (a0_2.size : Int) ≤ 64
      ·rw [if_pos c22] at H
       have c22b0 : decide ((a0_2.size : Int) ≤ 64) = true := decide_eq_true c22
       have c22b1 : decide (a0_2.size ≤ 64) = true := decide_eq_true (by omega)
       clear c22
       replace H := Option.bind_eq_some_iff.mp H
       obtain ⟨t103, A230, H⟩ := H
       replace H : (some t103) = some r := H
       have A23 := Aside0.mk A230
       clear A230
       obtain rfl := Option.some.inj H
       go_enter Tryd.func48, Tryd.ntmps48
       go_wp2_with (first | ((with_reducible refine gate_dst (N := 1) rfl ?_); (try (refine gate_guard (by rfl) ?_; dsimp only)); refine box_event ?hg (N := 1) ?hd (cs := #[.int .i64 a0_0, .int .i64 a0_1, .string a0_2]) (t := 51) ?hr ?_; (case hd => rfl); (case hg => rfl); (case hr => first | (go_simp; done) | (go_simp; rfl)); intro gb102 hg w24 hbox hb; have n0_ := Aside0.mk (below_step q0_ hb); have n1_ := Aside0.mk (hbox); have n2_ := Aside0.mk ((q3_ : w.heap.size ≤ gb102)); have n3_ := Aside0.mk ((q3_ : w.heap.size ≤ gb102)); clear HB; have HB := n0_; have BK102 := n1_; have GW102 := n2_; have GE102 := n3_; clear n0_ n1_ n2_ n3_; clear hb hbox hg; have hcz25_0 : w24.cell? ⟨gb102, 0, none⟩ = some (.int .i64 a0_0) := (blk_cell BK102.out 0).trans rfl; have hcz25_1 : w24.cell? ⟨gb102, 1, none⟩ = some (.int .i64 a0_1) := (blk_cell BK102.out 1).trans rfl; have hcz25_2 : w24.cell? ⟨gb102, 2, none⟩ = some (.string a0_2) := (blk_cell BK102.out 2).trans rfl; have hfz25_0 := blk_frozen BK102.out 0; have hfz25_1 := blk_frozen BK102.out 1; have hfz25_2 := blk_frozen BK102.out 2) | (go_at_call 56; (with_reducible refine (utf8_ValidString.calls a0_2 t103 _ A23.out (by first | exact HG.out | (refine Glob.below HG.out ?_; (repeat (first | (with_reducible first | exact HB.out | apply below_alloc | apply pw_below_drewN | apply below_drew1 | refine below_set ?_ GE102.out) | exact HB.out))) | (repeat (first | exact HG.out | apply Glob.drewN | apply Glob.drew | apply Glob.alloc)))).mono ?_); rintro e w26 ⟨rfl, hb⟩; have n0_ := Aside0.mk (blk_below (g := gb102) (o := .cells #[.int .i64 a0_0, .int .i64 a0_1, .string a0_2] 51 (0, 0)) (by (with_reducible repeat first | apply bN_ | apply bD_ | apply bA_); exact BK102.out) hb); have n1_ := Aside0.mk (below_step q0_ hb); clear BK102; clear HB; have BK102 := n0_; have HB := n1_; clear n0_ n1_; (try clear hb); (try clear hb2); (try clear hk); (try clear hi)))
       go_ret
       exact ⟨q4_, q0_⟩
      ·rw [if_neg c22] at H
       have c22b0 : decide ((a0_2.size : Int) ≤ 64) = false := decide_eq_false c22
       have c22b1 : decide (a0_2.size ≤ 64) = false := decide_eq_false (by omega)
       clear c22
       obtain rfl := Option.some.inj H
       go_enter Tryd.func48, Tryd.ntmps48
       go_wp2_with (first | ((with_reducible refine gate_dst (N := 1) rfl ?_); (try (refine gate_guard (by rfl) ?_; dsimp only)); refine box_event ?hg (N := 1) ?hd (cs := #[.int .i64 a0_0, .int .i64 a0_1, .string a0_2]) (t := 51) ?hr ?_; (case hd => rfl); (case hg => rfl); (case hr => first | (go_simp; done) | (go_simp; rfl)); intro gb102 hg w27 hbox hb; have n0_ := Aside0.mk (below_step q0_ hb); have n1_ := Aside0.mk (hbox); have n2_ := Aside0.mk ((q3_ : w.heap.size ≤ gb102)); have n3_ := Aside0.mk ((q3_ : w.heap.size ≤ gb102)); clear HB; have HB := n0_; have BK102 := n1_; have GW102 := n2_; have GE102 := n3_; clear n0_ n1_ n2_ n3_; clear hb hbox hg; have hcz28_0 : w27.cell? ⟨gb102, 0, none⟩ = some (.int .i64 a0_0) := (blk_cell BK102.out 0).trans rfl; have hcz28_1 : w27.cell? ⟨gb102, 1, none⟩ = some (.int .i64 a0_1) := (blk_cell BK102.out 1).trans rfl; have hcz28_2 : w27.cell? ⟨gb102, 2, none⟩ = some (.string a0_2) := (blk_cell BK102.out 2).trans rfl; have hfz28_0 := blk_frozen BK102.out 0; have hfz28_1 := blk_frozen BK102.out 1; have hfz28_2 := blk_frozen BK102.out 2))
       go_ret
       exact ⟨q4_, q0_⟩
     ·rw [if_neg c21] at H
      have c21b0 : (a0_1 == 0) = false := beq_eq_false_iff_ne.mpr c21
      have c21b1 : (a0_1 != 0) = true := bne_iff_ne.mpr c21
      obtain rfl := Option.some.inj H
      go_enter Tryd.func48, Tryd.ntmps48
      go_wp2_with (first | ((with_reducible refine gate_dst (N := 1) rfl ?_); (try (refine gate_guard (by rfl) ?_; dsimp only)); refine box_event ?hg (N := 1) ?hd (cs := #[.int .i64 a0_0, .int .i64 a0_1, .string a0_2]) (t := 51) ?hr ?_; (case hd => rfl); (case hg => rfl); (case hr => first | (go_simp; done) | (go_simp; rfl)); intro gb102 hg w29 hbox hb; have n0_ := Aside0.mk (below_step q0_ hb); have n1_ := Aside0.mk (hbox); have n2_ := Aside0.mk ((q3_ : w.heap.size ≤ gb102)); have n3_ := Aside0.mk ((q3_ : w.heap.size ≤ gb102)); clear HB; have HB := n0_; have BK102 := n1_; have GW102 := n2_; have GE102 := n3_; clear n0_ n1_ n2_ n3_; clear hb hbox hg; have hcz30_0 : w29.cell? ⟨gb102, 0, none⟩ = some (.int .i64 a0_0) := (blk_cell BK102.out 0).trans rfl; have hcz30_1 : w29.cell? ⟨gb102, 1, none⟩ = some (.int .i64 a0_1) := (blk_cell BK102.out 1).trans rfl; have hcz30_2 : w29.cell? ⟨gb102, 2, none⟩ = some (.string a0_2) := (blk_cell BK102.out 2).trans rfl; have hfz30_0 := blk_frozen BK102.out 0; have hfz30_1 := blk_frozen BK102.out 1; have hfz30_2 := blk_frozen BK102.out 2))
      go_ret
      exact ⟨q4_, q0_⟩
    ·rw [if_neg c20] at H
     have c20b0 : (a0_0 == 3) = false := beq_eq_false_iff_ne.mpr c20
     have c20b1 : (a0_0 != 3) = true := bne_iff_ne.mpr c20
     by_cases c31 : a0_0 = 4
     ·rw [if_pos c31] at H
      have c31b0 : (a0_0 == 4) = true := beq_iff_eq.mpr c31
      have c31b1 : (a0_0 != 4) = false := bne_eq_false_iff_eq.mpr c31
      clear c31
      by_cases c32 : a0_1 = 0
      ·rw [if_pos c32] at H
       have c32b0 : (a0_1 == 0) = true := beq_iff_eq.mpr c32
       have c32b1 : (a0_1 != 0) = false := bne_eq_false_iff_eq.mpr c32
       clear c32
       obtain rfl := Option.some.inj H
       go_enter Tryd.func48, Tryd.ntmps48
       go_wp2_with (first | ((with_reducible refine gate_dst (N := 1) rfl ?_); (try (refine gate_guard (by rfl) ?_; dsimp only)); refine box_event ?hg (N := 1) ?hd (cs := #[.int .i64 a0_0, .int .i64 a0_1, .string a0_2]) (t := 51) ?hr ?_; (case hd => rfl); (case hg => rfl); (case hr => first | (go_simp; done) | (go_simp; rfl)); intro gb102 hg w33 hbox hb; have n0_ := Aside0.mk (below_step q0_ hb); have n1_ := Aside0.mk (hbox); have n2_ := Aside0.mk ((q3_ : w.heap.size ≤ gb102)); have n3_ := Aside0.mk ((q3_ : w.heap.size ≤ gb102)); clear HB; have HB := n0_; have BK102 := n1_; have GW102 := n2_; have GE102 := n3_; clear n0_ n1_ n2_ n3_; clear hb hbox hg; have hcz34_0 : w33.cell? ⟨gb102, 0, none⟩ = some (.int .i64 a0_0) := (blk_cell BK102.out 0).trans rfl; have hcz34_1 : w33.cell? ⟨gb102, 1, none⟩ = some (.int .i64 a0_1) := (blk_cell BK102.out 1).trans rfl; have hcz34_2 : w33.cell? ⟨gb102, 2, none⟩ = some (.string a0_2) := (blk_cell BK102.out 2).trans rfl; have hfz34_0 := blk_frozen BK102.out 0; have hfz34_1 := blk_frozen BK102.out 1; have hfz34_2 := blk_frozen BK102.out 2))
       go_ret
       exact ⟨q4_, q0_⟩
      ·rw [if_neg c32] at H
       have c32b0 : (a0_1 == 0) = false := beq_eq_false_iff_ne.mpr c32
       have c32b1 : (a0_1 != 0) = true := bne_iff_ne.mpr c32
       obtain rfl := Option.some.inj H
       go_enter Tryd.func48, Tryd.ntmps48
       go_wp2_with (first | ((with_reducible refine gate_dst (N := 1) rfl ?_); (try (refine gate_guard (by rfl) ?_; dsimp only)); refine box_event ?hg (N := 1) ?hd (cs := #[.int .i64 a0_0, .int .i64 a0_1, .string a0_2]) (t := 51) ?hr ?_; (case hd => rfl); (case hg => rfl); (case hr => first | (go_simp; done) | (go_simp; rfl)); intro gb102 hg w35 hbox hb; have n0_ := Aside0.mk (below_step q0_ hb); have n1_ := Aside0.mk (hbox); have n2_ := Aside0.mk ((q3_ : w.heap.size ≤ gb102)); have n3_ := Aside0.mk ((q3_ : w.heap.size ≤ gb102)); clear HB; have HB := n0_; have BK102 := n1_; have GW102 := n2_; have GE102 := n3_; clear n0_ n1_ n2_ n3_; clear hb hbox hg; have hcz36_0 : w35.cell? ⟨gb102, 0, none⟩ = some (.int .i64 a0_0) := (blk_cell BK102.out 0).trans rfl; have hcz36_1 : w35.cell? ⟨gb102, 1, none⟩ = some (.int .i64 a0_1) := (blk_cell BK102.out 1).trans rfl; have hcz36_2 : w35.cell? ⟨gb102, 2, none⟩ = some (.string a0_2) := (blk_cell BK102.out 2).trans rfl; have hfz36_0 := blk_frozen BK102.out 0; have hfz36_1 := blk_frozen BK102.out 1; have hfz36_2 := blk_frozen BK102.out 2))
       go_ret
       exact ⟨q4_, q0_⟩
     ·rw [if_neg c31] at H
      have c31b0 : (a0_0 == 4) = false := beq_eq_false_iff_ne.mpr c31
      have c31b1 : (a0_0 != 4) = true := bne_iff_ne.mpr c31
      obtain rfl := Option.some.inj H
      go_enter Tryd.func48, Tryd.ntmps48
      go_wp2_with (first | ((with_reducible refine gate_dst (N := 1) rfl ?_); (try (refine gate_guard (by rfl) ?_; dsimp only)); refine box_event ?hg (N := 1) ?hd (cs := #[.int .i64 a0_0, .int .i64 a0_1, .string a0_2]) (t := 51) ?hr ?_; (case hd => rfl); (case hg => rfl); (case hr => first | (go_simp; done) | (go_simp; rfl)); intro gb102 hg w37 hbox hb; have n0_ := Aside0.mk (below_step q0_ hb); have n1_ := Aside0.mk (hbox); have n2_ := Aside0.mk ((q3_ : w.heap.size ≤ gb102)); have n3_ := Aside0.mk ((q3_ : w.heap.size ≤ gb102)); clear HB; have HB := n0_; have BK102 := n1_; have GW102 := n2_; have GE102 := n3_; clear n0_ n1_ n2_ n3_; clear hb hbox hg; have hcz38_0 : w37.cell? ⟨gb102, 0, none⟩ = some (.int .i64 a0_0) := (blk_cell BK102.out 0).trans rfl; have hcz38_1 : w37.cell? ⟨gb102, 1, none⟩ = some (.int .i64 a0_1) := (blk_cell BK102.out 1).trans rfl; have hcz38_2 : w37.cell? ⟨gb102, 2, none⟩ = some (.string a0_2) := (blk_cell BK102.out 2).trans rfl; have hfz38_0 := blk_frozen BK102.out 0; have hfz38_1 := blk_frozen BK102.out 1; have hfz38_2 := blk_frozen BK102.out 2))
      go_ret
      exact ⟨q4_, q0_⟩
def bag_wrong.f (a0_0 : Int) (a0_1 : Int) (a0_2 : ByteArray) : Option (Bool) := (value_Right.f a0_0 a0_1 a0_2).bind fun t105 => (some (!t105))
set_option maxHeartbeats 8000000 in
set_option maxRecDepth 100000 in
theorem bag_wrong.calls (a0_0 : Int) (a0_1 : Int) (a0_2 : ByteArray) (r : Bool) (w : World) (h : bag_wrong.f a0_0 a0_1 a0_2 = some r) (hG : Glob w) :
  Calls Tryd.prog 30 #[.agg #[.int .i64 a0_0, .int .i64 a0_1, .string a0_2]] w fun e w' => e = .returned (.bool r) ∧ Below w.heap.size w w' := by
 have hu51 := Tryd.underlying51
 have HG := Aside0.mk hG
 clear hG
 have HB := Aside0.mk (Below.refl w.heap.size w)
 have H : ((value_Right.f a0_0 a0_1 a0_2).bind fun t105 => (some (!t105))) = some r := h
 clear h
 replace H := Option.bind_eq_some_iff.mp H
 obtain ⟨t105, A20, H⟩ := H
 replace H : (some (!t105)) = some r := H
 have A2 := Aside0.mk A20
 clear A20
 obtain rfl := Option.some.inj H
 go_enter Tryd.func30, Tryd.ntmps30
 go_wp2_with (first | ((with_reducible refine gate_dst (N := 1) rfl ?_); refine box_event ?hg (N := 1) ?hd (cs := #[.int .i64 a0_0, .int .i64 a0_1, .string a0_2]) (t := 51) ?hr ?_; (case hd => rfl); (case hg => rfl); (case hr => first | (go_simp; done) | (go_simp; rfl)); intro gb104 hg w3 hbox hb; have n0_ := Aside0.mk (below_step q0_ hb); have n1_ := Aside0.mk (hbox); have n2_ := Aside0.mk ((q3_ : w.heap.size ≤ gb104)); have n3_ := Aside0.mk ((q3_ : w.heap.size ≤ gb104)); clear HB; have HB := n0_; have BK104 := n1_; have GW104 := n2_; have GE104 := n3_; clear n0_ n1_ n2_ n3_; clear hb hbox hg; have hcz4_0 : w3.cell? ⟨gb104, 0, none⟩ = some (.int .i64 a0_0) := (blk_cell BK104.out 0).trans rfl; have hcz4_1 : w3.cell? ⟨gb104, 1, none⟩ = some (.int .i64 a0_1) := (blk_cell BK104.out 1).trans rfl; have hcz4_2 : w3.cell? ⟨gb104, 2, none⟩ = some (.string a0_2) := (blk_cell BK104.out 2).trans rfl; have hfz4_0 := blk_frozen BK104.out 0; have hfz4_1 := blk_frozen BK104.out 1; have hfz4_2 := blk_frozen BK104.out 2) | ((with_reducible refine gate_callee (f := 48) rfl ?_); refine goesL_ (some 4) rfl rfl Tryd.func48 (by kernel_rfl) rfl #[.agg #[.int .i64 a0_0, .int .i64 a0_1, .string a0_2]] rfl q2_ ?_; (with_reducible refine (value_Right.calls a0_0 a0_1 a0_2 t105 _ A2.out (by first | exact HG.out | (refine Glob.below HG.out ?_; (repeat (first | (with_reducible first | exact HB.out | apply below_alloc | apply pw_below_drewN | apply below_drew1 | refine below_set ?_ GE104.out) | exact HB.out))) | (repeat (first | exact HG.out | apply Glob.drewN | apply Glob.drew | apply Glob.alloc)))).mono ?_); rintro e w5 ⟨rfl, hb⟩; refine ⟨_, rfl, ?_⟩; have n0_ := Aside0.mk (blk_below (g := gb104) (o := .cells #[.int .i64 a0_0, .int .i64 a0_1, .string a0_2] 51 (0, 0)) (by (with_reducible repeat first | apply bN_ | apply bD_ | apply bA_); exact BK104.out) hb); have n1_ := Aside0.mk (below_step q0_ hb); clear BK104; clear HB; have BK104 := n0_; have HB := n1_; clear n0_ n1_; (try clear hb); (try clear hb2); (try clear hk); (try clear hi)))
 go_ret
 exact ⟨q4_, q0_⟩
def cmp_isNaN_int.f (a0 : Int) : Option (Bool) := some (a0 != a0)
set_option maxHeartbeats 8000000 in
set_option maxRecDepth 100000 in
theorem cmp_isNaN_int.calls (a0 : Int) (r : Bool) (w : World) (h : cmp_isNaN_int.f a0 = some r) :
  Calls Tryd.prog 59 #[.int .i64 a0] w fun e w' => e = .returned (.bool r) ∧ Drawn0 w w' := by
 have H : (some (a0 != a0)) = some r := h
 clear h
 obtain rfl := Option.some.inj H
 go_enter Tryd.func59, Tryd.ntmps59
 go_wp2
 go_ret
 exact ⟨q9_, q10_⟩
def cmp_Compare_int.f (a0 : Int) (a1 : Int) : Option (Int) := (cmp_isNaN_int.f a0).bind fun t106 => ((cmp_isNaN_int.f a1).bind fun t107 => (if t106 = true then (if t107 = true then (some 0) else (some (-1))) else (if t107 = true then (some 1) else (if a0 < a1 then (some (-1)) else (if a0 > a1 then (some 1) else (some 0))))))
set_option maxHeartbeats 8000000 in
set_option maxRecDepth 100000 in
theorem cmp_Compare_int.calls (a0 : Int) (a1 : Int) (r : Int) (w : World) (h : cmp_Compare_int.f a0 a1 = some r) :
  Calls Tryd.prog 50 #[.int .i64 a0, .int .i64 a1] w fun e w' => e = .returned (.int .i64 r) ∧ Drawn0 w w' := by
 have H : ((cmp_isNaN_int.f a0).bind fun t106 => ((cmp_isNaN_int.f a1).bind fun t107 => (if t106 = true then (if t107 = true then (some 0) else (some (-1))) else (if t107 = true then (some 1) else (if a0 < a1 then (some (-1)) else (if a0 > a1 then (some 1) else (some 0))))))) = some r := h
 clear h
 replace H := Option.bind_eq_some_iff.mp H
 obtain ⟨t106, A30, H⟩ := H
 replace H : ((cmp_isNaN_int.f a1).bind fun t107 => (if t106 = true then (if t107 = true then (some 0) else (some (-1))) else (if t107 = true then (some 1) else (if a0 < a1 then (some (-1)) else (if a0 > a1 then (some 1) else (some 0)))))) = some r := H
 have A3 := Aside0.mk A30
 clear A30
 replace H := Option.bind_eq_some_iff.mp H
 obtain ⟨t107, A40, H⟩ := H
 replace H : (if t106 = true then (if t107 = true then (some 0) else (some (-1))) else (if t107 = true then (some 1) else (if a0 < a1 then (some (-1)) else (if a0 > a1 then (some 1) else (some 0))))) = some r := H
 have A4 := Aside0.mk A40
 clear A40
 by_cases c5 : t106 = true
 ·subst c5
  replace H := ifT_ H
  by_cases c6 : t107 = true
  ·subst c6
   replace H := ifT_ H
   obtain rfl := Option.some.inj H
   go_enter Tryd.func50, Tryd.ntmps50
   go_wp2_with (first | ((with_reducible refine gate_callee (f := 59) rfl ?_); refine goesL_ (some 8) rfl rfl Tryd.func59 (by kernel_rfl) rfl #[.int .i64 a0] rfl q2_ ?_; (with_reducible refine (cmp_isNaN_int.calls a0 true _ A3.out).mono ?_); rintro e w' ⟨rfl, ⟨nd, rfl⟩⟩; refine ⟨_, rfl, ?_⟩) | ((with_reducible refine gate_callee (f := 59) rfl ?_); refine goesL_ (some 10) rfl rfl Tryd.func59 (by kernel_rfl) rfl #[.int .i64 a1] rfl q2_ ?_; (with_reducible refine (cmp_isNaN_int.calls a1 true _ A4.out).mono ?_); rintro e w' ⟨rfl, ⟨nd, rfl⟩⟩; refine ⟨_, rfl, ?_⟩))
   go_ret
   exact ⟨q9_, q10_⟩
  ·replace c6 := Bool.eq_false_iff.mpr c6
   subst c6
   replace H := ifF_ H
   obtain rfl := Option.some.inj H
   go_enter Tryd.func50, Tryd.ntmps50
   go_wp2_with (first | ((with_reducible refine gate_callee (f := 59) rfl ?_); refine goesL_ (some 8) rfl rfl Tryd.func59 (by kernel_rfl) rfl #[.int .i64 a0] rfl q2_ ?_; (with_reducible refine (cmp_isNaN_int.calls a0 true _ A3.out).mono ?_); rintro e w' ⟨rfl, ⟨nd, rfl⟩⟩; refine ⟨_, rfl, ?_⟩) | ((with_reducible refine gate_callee (f := 59) rfl ?_); refine goesL_ (some 10) rfl rfl Tryd.func59 (by kernel_rfl) rfl #[.int .i64 a1] rfl q2_ ?_; (with_reducible refine (cmp_isNaN_int.calls a1 false _ A4.out).mono ?_); rintro e w' ⟨rfl, ⟨nd, rfl⟩⟩; refine ⟨_, rfl, ?_⟩))
   go_ret
   exact ⟨q9_, q10_⟩
 ·replace c5 := Bool.eq_false_iff.mpr c5
  subst c5
  replace H := ifF_ H
  by_cases c7 : t107 = true
  ·subst c7
   replace H := ifT_ H
   obtain rfl := Option.some.inj H
   go_enter Tryd.func50, Tryd.ntmps50
   go_wp2_with (first | ((with_reducible refine gate_callee (f := 59) rfl ?_); refine goesL_ (some 8) rfl rfl Tryd.func59 (by kernel_rfl) rfl #[.int .i64 a0] rfl q2_ ?_; (with_reducible refine (cmp_isNaN_int.calls a0 false _ A3.out).mono ?_); rintro e w' ⟨rfl, ⟨nd, rfl⟩⟩; refine ⟨_, rfl, ?_⟩) | ((with_reducible refine gate_callee (f := 59) rfl ?_); refine goesL_ (some 10) rfl rfl Tryd.func59 (by kernel_rfl) rfl #[.int .i64 a1] rfl q2_ ?_; (with_reducible refine (cmp_isNaN_int.calls a1 true _ A4.out).mono ?_); rintro e w' ⟨rfl, ⟨nd, rfl⟩⟩; refine ⟨_, rfl, ?_⟩))
   go_ret
   exact ⟨q9_, q10_⟩
  ·replace c7 := Bool.eq_false_iff.mpr c7
   subst c7
   replace H := ifF_ H
   by_cases c8 : a0 < a1
   ·rw [if_pos c8] at H
    have c8b0 : decide (a0 < a1) = true := decide_eq_true c8
    clear c8
    obtain rfl := Option.some.inj H
    go_enter Tryd.func50, Tryd.ntmps50
    go_wp2_with (first | ((with_reducible refine gate_callee (f := 59) rfl ?_); refine goesL_ (some 8) rfl rfl Tryd.func59 (by kernel_rfl) rfl #[.int .i64 a0] rfl q2_ ?_; (with_reducible refine (cmp_isNaN_int.calls a0 false _ A3.out).mono ?_); rintro e w' ⟨rfl, ⟨nd, rfl⟩⟩; refine ⟨_, rfl, ?_⟩) | ((with_reducible refine gate_callee (f := 59) rfl ?_); refine goesL_ (some 10) rfl rfl Tryd.func59 (by kernel_rfl) rfl #[.int .i64 a1] rfl q2_ ?_; (with_reducible refine (cmp_isNaN_int.calls a1 false _ A4.out).mono ?_); rintro e w' ⟨rfl, ⟨nd, rfl⟩⟩; refine ⟨_, rfl, ?_⟩))
    go_ret
    exact ⟨q9_, q10_⟩
   ·rw [if_neg c8] at H
    have c8b0 : decide (a0 < a1) = false := decide_eq_false c8
    clear c8
    by_cases c9 : a0 > a1
    ·rw [if_pos c9] at H
     have c9b0 : decide (a1 < a0) = true := decide_eq_true c9
     clear c9
     obtain rfl := Option.some.inj H
     go_enter Tryd.func50, Tryd.ntmps50
     go_wp2_with (first | ((with_reducible refine gate_callee (f := 59) rfl ?_); refine goesL_ (some 8) rfl rfl Tryd.func59 (by kernel_rfl) rfl #[.int .i64 a0] rfl q2_ ?_; (with_reducible refine (cmp_isNaN_int.calls a0 false _ A3.out).mono ?_); rintro e w' ⟨rfl, ⟨nd, rfl⟩⟩; refine ⟨_, rfl, ?_⟩) | ((with_reducible refine gate_callee (f := 59) rfl ?_); refine goesL_ (some 10) rfl rfl Tryd.func59 (by kernel_rfl) rfl #[.int .i64 a1] rfl q2_ ?_; (with_reducible refine (cmp_isNaN_int.calls a1 false _ A4.out).mono ?_); rintro e w' ⟨rfl, ⟨nd, rfl⟩⟩; refine ⟨_, rfl, ?_⟩))
     go_ret
     exact ⟨q9_, q10_⟩
    ·rw [if_neg c9] at H
     have c9b0 : decide (a1 < a0) = false := decide_eq_false c9
     clear c9
     obtain rfl := Option.some.inj H
     go_enter Tryd.func50, Tryd.ntmps50
     go_wp2_with (first | ((with_reducible refine gate_callee (f := 59) rfl ?_); refine goesL_ (some 8) rfl rfl Tryd.func59 (by kernel_rfl) rfl #[.int .i64 a0] rfl q2_ ?_; (with_reducible refine (cmp_isNaN_int.calls a0 false _ A3.out).mono ?_); rintro e w' ⟨rfl, ⟨nd, rfl⟩⟩; refine ⟨_, rfl, ?_⟩) | ((with_reducible refine gate_callee (f := 59) rfl ?_); refine goesL_ (some 10) rfl rfl Tryd.func59 (by kernel_rfl) rfl #[.int .i64 a1] rfl q2_ ?_; (with_reducible refine (cmp_isNaN_int.calls a1 false _ A4.out).mono ?_); rintro e w' ⟨rfl, ⟨nd, rfl⟩⟩; refine ⟨_, rfl, ?_⟩))
     go_ret
     exact ⟨q9_, q10_⟩
def cmp_Or_int.l0 : Nat → Int → List Int → Int → Int → Option (Int)
 | 0, _, _, _, _ => none
 | k + 1, x3, x6, x7, x8 => if x8 < x7 then (if 0 ≤ x8 then (if x8 < (x6.length : Int) then (if (rd x6 x8) = x3 then (cmp_Or_int.l0 k x3 x6 x7 (wrap64 (x8 + 1))) else (some (rd x6 x8))) else (none)) else (none)) else (some x3)
def cmp_Or_int.f (k : Nat) (l0 : List Int) : Option (Int) := cmp_Or_int.l0 k 0 l0 (l0.length : Int) 0
theorem cmp_Or_int.mono_l : ∀ k, (∀ y0 y1 y2 y3, LeO (cmp_Or_int.l0 k y0 y1 y2 y3) (cmp_Or_int.l0 (k + 1) y0 y1 y2 y3))
 | 0 => fun _ _ _ _ r h => by simp [cmp_Or_int.l0] at h
 | k + 1 => by
  have ih0 := cmp_Or_int.mono_l k
  ·intro y0 y1 y2 y3
   unfold cmp_Or_int.l0
   repeat' first
   | (with_reducible exact ih0 _ _ _ _)
   | (with_reducible exact LeO.refl _)
   | (with_reducible exact LeO.none _)
   | (with_reducible refine LeO.ite ?_ ?_)
   | (with_reducible refine LeO.bind ?_ (fun _ => ?_))
   | exact ih0 _ _ _ _
   | exact LeO.none _
   | refine LeO.ite ?_ ?_
   | refine LeO.bind ?_ (fun _ => ?_)
theorem cmp_Or_int.mono : ∀ a0 k, LeO (cmp_Or_int.f k a0) (cmp_Or_int.f (k + 1) a0) := by
 intro a0 k
 have ih0 := cmp_Or_int.mono_l k
 unfold cmp_Or_int.f
 repeat' first
   | (with_reducible exact ih0 _ _ _ _)
   | (with_reducible exact LeO.refl _)
   | (with_reducible exact LeO.none _)
   | (with_reducible refine LeO.ite ?_ ?_)
   | (with_reducible refine LeO.bind ?_ (fun _ => ?_))
   | exact ih0 _ _ _ _
   | exact LeO.none _
   | refine LeO.ite ?_ ?_
   | refine LeO.bind ?_ (fun _ => ?_)
set_option maxHeartbeats 8000000 in
set_option maxRecDepth 100000 in
theorem cmp_Or_int.calls (k : Nat) (A0 : Option Addr) (c0 : Nat) (l0 : List Int) (r : Int) (w : World) (hr0 : Kd.C (Kd.int .i64) w A0 l0.length l0) (hc0 : l0.length ≤ c0) (h : cmp_Or_int.f k l0 = some r) :
  Calls Tryd.prog 57 #[.slice A0 l0.length c0] w fun e w' => e = .returned (.int .i64 r) ∧ Drawn0 w w' := by
 have HR0 := Aside0.mk hr0
 have HC0 := Aside0.mk hc0
 clear hr0 hc0
 have H : (cmp_Or_int.l0 k 0 l0 (l0.length : Int) 0) = some r := h
 clear h
 have H' := Aside0.mk H
 clear H
 go_enter Tryd.func57, Tryd.ntmps57
 go_wp2
 go_loopg [8] k (fun kq v8 w' => ∃ (x8_1 : Int), v8 = .int .i64 x8_1 ∧ Aside0 (cmp_Or_int.l0 kq 0 l0 (l0.length : Int) x8_1 = some r) ∧ Aside0 (kq ≤ k) ∧ Drawn0 w w')
 case atStart => exact ⟨(0), q9_, H', ⟨Nat.le_refl _⟩, q10_⟩
 case round =>
  clear H'
  obtain ⟨x8_1, rfl, HA, HK1, ⟨m1, rfl⟩⟩ := hrel
  cases gk with
  | zero => exact absurd HA.out (by simp [cmp_Or_int.l0])
  | succ k1 =>
   have H := HA.out
   clear HA
   simp only [cmp_Or_int.l0] at H
   by_cases c2 : x8_1 < (l0.length : Int)
   ·rw [if_pos c2] at H
    have c2b0 : decide (x8_1 < (l0.length : Int)) = true := decide_eq_true c2
    clear c2
    by_cases c3 : 0 ≤ x8_1
    ·rw [if_pos c3] at H
     have c3b0 : decide (0 ≤ x8_1) = true := decide_eq_true c3
     clear c3
     by_cases c4 : x8_1 < (l0.length : Int)
     ·rw [if_pos c4] at H
      have c4b0 : decide (x8_1 < (l0.length : Int)) = true := decide_eq_true c4
      clear c4
      by_cases c5 : (rd l0 x8_1) = 0
      ·rw [if_pos c5] at H
       have c5b0 : ((rd l0 x8_1) == 0) = true := beq_iff_eq.mpr c5
       have c5b1 : ((rd l0 x8_1) != 0) = false := bne_eq_false_iff_eq.mpr c5
       clear c5
       have H' := Aside0.mk H
       clear H
       have p108 : 0 ≤ (x8_1 : Int) := of_decide_eq_true q5_
       have q108 : x8_1 < (l0.length : Int) := of_decide_eq_true q5_
       obtain ⟨ad108, e108, hx108_0⟩ := Kd.at_int HR0.out x8_1 p108 q108
       cases e108
       replace p108 := eq_true p108
       replace q108 := eq_true q108
       go_wp2
       go_roundg k1
       case measure => have := HK1.out; omega
       case rel => exact ⟨(wrap64 (x8_1 + 1)), q9_, H', ⟨by have := HK1.out; omega⟩, q10_⟩
      ·rw [if_neg c5] at H
       have c5b0 : ((rd l0 x8_1) == 0) = false := beq_eq_false_iff_ne.mpr c5
       have c5b1 : ((rd l0 x8_1) != 0) = true := bne_iff_ne.mpr c5
       obtain rfl := Option.some.inj H
       have p108 : 0 ≤ (x8_1 : Int) := of_decide_eq_true q5_
       have q108 : x8_1 < (l0.length : Int) := of_decide_eq_true q5_
       obtain ⟨ad108, e108, hx108_0⟩ := Kd.at_int HR0.out x8_1 p108 q108
       cases e108
       replace p108 := eq_true p108
       replace q108 := eq_true q108
       go_wp2
       go_ret
       exact ⟨q9_, q10_⟩
     ·rw [if_neg c4] at H
      exact absurd H (by simp)
    ·rw [if_neg c3] at H
     exact absurd H (by simp)
   ·rw [if_neg c2] at H
    have c2b0 : decide (x8_1 < (l0.length : Int)) = false := decide_eq_false c2
    clear c2
    obtain rfl := Option.some.inj H
    go_wp2
    go_ret
    exact ⟨q9_, q10_⟩
def cmp_isNaN_string.f (a0 : ByteArray) : Option (Bool) := some (a0.toList != a0.toList)
set_option maxHeartbeats 8000000 in
set_option maxRecDepth 100000 in
theorem cmp_isNaN_string.calls (a0 : ByteArray) (r : Bool) (w : World) (h : cmp_isNaN_string.f a0 = some r) :
  Calls Tryd.prog 63 #[.string a0] w fun e w' => e = .returned (.bool r) ∧ Drawn0 w w' := by
 have H : (some (a0.toList != a0.toList)) = some r := h
 clear h
 obtain rfl := Option.some.inj H
 go_enter Tryd.func63, Tryd.ntmps63
 go_wp2
 go_ret
 exact ⟨q9_, q10_⟩
def cmp_Compare_string.f (a0 : ByteArray) (a1 : ByteArray) : Option (Int) := (cmp_isNaN_string.f a0).bind fun t109 => ((cmp_isNaN_string.f a1).bind fun t110 => (if t109 = true then (if t110 = true then (some 0) else (some (-1))) else (if t110 = true then (some 1) else (if (Op.bytesLess a0.toList a1.toList) = true then (some (-1)) else (if (Op.bytesLess a1.toList a0.toList) = true then (some 1) else (some 0))))))
set_option maxHeartbeats 8000000 in
set_option maxRecDepth 100000 in
theorem cmp_Compare_string.calls (a0 : ByteArray) (a1 : ByteArray) (r : Int) (w : World) (h : cmp_Compare_string.f a0 a1 = some r) :
  Calls Tryd.prog 58 #[.string a0, .string a1] w fun e w' => e = .returned (.int .i64 r) ∧ Drawn0 w w' := by
 have H : ((cmp_isNaN_string.f a0).bind fun t109 => ((cmp_isNaN_string.f a1).bind fun t110 => (if t109 = true then (if t110 = true then (some 0) else (some (-1))) else (if t110 = true then (some 1) else (if (Op.bytesLess a0.toList a1.toList) = true then (some (-1)) else (if (Op.bytesLess a1.toList a0.toList) = true then (some 1) else (some 0))))))) = some r := h
 clear h
 replace H := Option.bind_eq_some_iff.mp H
 obtain ⟨t109, A30, H⟩ := H
 replace H : ((cmp_isNaN_string.f a1).bind fun t110 => (if t109 = true then (if t110 = true then (some 0) else (some (-1))) else (if t110 = true then (some 1) else (if (Op.bytesLess a0.toList a1.toList) = true then (some (-1)) else (if (Op.bytesLess a1.toList a0.toList) = true then (some 1) else (some 0)))))) = some r := H
 have A3 := Aside0.mk A30
 clear A30
 replace H := Option.bind_eq_some_iff.mp H
 obtain ⟨t110, A40, H⟩ := H
 replace H : (if t109 = true then (if t110 = true then (some 0) else (some (-1))) else (if t110 = true then (some 1) else (if (Op.bytesLess a0.toList a1.toList) = true then (some (-1)) else (if (Op.bytesLess a1.toList a0.toList) = true then (some 1) else (some 0))))) = some r := H
 have A4 := Aside0.mk A40
 clear A40
 by_cases c5 : t109 = true
 ·subst c5
  replace H := ifT_ H
  by_cases c6 : t110 = true
  ·subst c6
   replace H := ifT_ H
   obtain rfl := Option.some.inj H
   go_enter Tryd.func58, Tryd.ntmps58
   go_wp2_with (first | ((with_reducible refine gate_callee (f := 63) rfl ?_); refine goesL_ (some 8) rfl rfl Tryd.func63 (by kernel_rfl) rfl #[.string a0] rfl q2_ ?_; (with_reducible refine (cmp_isNaN_string.calls a0 true _ A3.out).mono ?_); rintro e w' ⟨rfl, ⟨nd, rfl⟩⟩; refine ⟨_, rfl, ?_⟩) | ((with_reducible refine gate_callee (f := 63) rfl ?_); refine goesL_ (some 10) rfl rfl Tryd.func63 (by kernel_rfl) rfl #[.string a1] rfl q2_ ?_; (with_reducible refine (cmp_isNaN_string.calls a1 true _ A4.out).mono ?_); rintro e w' ⟨rfl, ⟨nd, rfl⟩⟩; refine ⟨_, rfl, ?_⟩))
   go_ret
   exact ⟨q9_, q10_⟩
  ·replace c6 := Bool.eq_false_iff.mpr c6
   subst c6
   replace H := ifF_ H
   obtain rfl := Option.some.inj H
   go_enter Tryd.func58, Tryd.ntmps58
   go_wp2_with (first | ((with_reducible refine gate_callee (f := 63) rfl ?_); refine goesL_ (some 8) rfl rfl Tryd.func63 (by kernel_rfl) rfl #[.string a0] rfl q2_ ?_; (with_reducible refine (cmp_isNaN_string.calls a0 true _ A3.out).mono ?_); rintro e w' ⟨rfl, ⟨nd, rfl⟩⟩; refine ⟨_, rfl, ?_⟩) | ((with_reducible refine gate_callee (f := 63) rfl ?_); refine goesL_ (some 10) rfl rfl Tryd.func63 (by kernel_rfl) rfl #[.string a1] rfl q2_ ?_; (with_reducible refine (cmp_isNaN_string.calls a1 false _ A4.out).mono ?_); rintro e w' ⟨rfl, ⟨nd, rfl⟩⟩; refine ⟨_, rfl, ?_⟩))
   go_ret
   exact ⟨q9_, q10_⟩
 ·replace c5 := Bool.eq_false_iff.mpr c5
  subst c5
  replace H := ifF_ H
  by_cases c7 : t110 = true
  ·subst c7
   replace H := ifT_ H
   obtain rfl := Option.some.inj H
   go_enter Tryd.func58, Tryd.ntmps58
   go_wp2_with (first | ((with_reducible refine gate_callee (f := 63) rfl ?_); refine goesL_ (some 8) rfl rfl Tryd.func63 (by kernel_rfl) rfl #[.string a0] rfl q2_ ?_; (with_reducible refine (cmp_isNaN_string.calls a0 false _ A3.out).mono ?_); rintro e w' ⟨rfl, ⟨nd, rfl⟩⟩; refine ⟨_, rfl, ?_⟩) | ((with_reducible refine gate_callee (f := 63) rfl ?_); refine goesL_ (some 10) rfl rfl Tryd.func63 (by kernel_rfl) rfl #[.string a1] rfl q2_ ?_; (with_reducible refine (cmp_isNaN_string.calls a1 true _ A4.out).mono ?_); rintro e w' ⟨rfl, ⟨nd, rfl⟩⟩; refine ⟨_, rfl, ?_⟩))
   go_ret
   exact ⟨q9_, q10_⟩
  ·replace c7 := Bool.eq_false_iff.mpr c7
   subst c7
   replace H := ifF_ H
   by_cases c8 : (Op.bytesLess a0.toList a1.toList) = true
   ·rw [if_pos c8] at H
    have c8b0 : (Op.bytesLess a0.toList a1.toList) = true := c8
    clear c8
    obtain rfl := Option.some.inj H
    go_enter Tryd.func58, Tryd.ntmps58
    go_wp2_with (first | ((with_reducible refine gate_callee (f := 63) rfl ?_); refine goesL_ (some 8) rfl rfl Tryd.func63 (by kernel_rfl) rfl #[.string a0] rfl q2_ ?_; (with_reducible refine (cmp_isNaN_string.calls a0 false _ A3.out).mono ?_); rintro e w' ⟨rfl, ⟨nd, rfl⟩⟩; refine ⟨_, rfl, ?_⟩) | ((with_reducible refine gate_callee (f := 63) rfl ?_); refine goesL_ (some 10) rfl rfl Tryd.func63 (by kernel_rfl) rfl #[.string a1] rfl q2_ ?_; (with_reducible refine (cmp_isNaN_string.calls a1 false _ A4.out).mono ?_); rintro e w' ⟨rfl, ⟨nd, rfl⟩⟩; refine ⟨_, rfl, ?_⟩))
    go_ret
    exact ⟨q9_, q10_⟩
   ·rw [if_neg c8] at H
    have c8b0 : (Op.bytesLess a0.toList a1.toList) = false := by simpa using c8
    clear c8
    by_cases c9 : (Op.bytesLess a1.toList a0.toList) = true
    ·rw [if_pos c9] at H
     have c9b0 : (Op.bytesLess a1.toList a0.toList) = true := c9
     clear c9
     obtain rfl := Option.some.inj H
     go_enter Tryd.func58, Tryd.ntmps58
     go_wp2_with (first | ((with_reducible refine gate_callee (f := 63) rfl ?_); refine goesL_ (some 8) rfl rfl Tryd.func63 (by kernel_rfl) rfl #[.string a0] rfl q2_ ?_; (with_reducible refine (cmp_isNaN_string.calls a0 false _ A3.out).mono ?_); rintro e w' ⟨rfl, ⟨nd, rfl⟩⟩; refine ⟨_, rfl, ?_⟩) | ((with_reducible refine gate_callee (f := 63) rfl ?_); refine goesL_ (some 10) rfl rfl Tryd.func63 (by kernel_rfl) rfl #[.string a1] rfl q2_ ?_; (with_reducible refine (cmp_isNaN_string.calls a1 false _ A4.out).mono ?_); rintro e w' ⟨rfl, ⟨nd, rfl⟩⟩; refine ⟨_, rfl, ?_⟩))
     go_ret
     exact ⟨q9_, q10_⟩
    ·rw [if_neg c9] at H
     have c9b0 : (Op.bytesLess a1.toList a0.toList) = false := by simpa using c9
     clear c9
     obtain rfl := Option.some.inj H
     go_enter Tryd.func58, Tryd.ntmps58
     go_wp2_with (first | ((with_reducible refine gate_callee (f := 63) rfl ?_); refine goesL_ (some 8) rfl rfl Tryd.func63 (by kernel_rfl) rfl #[.string a0] rfl q2_ ?_; (with_reducible refine (cmp_isNaN_string.calls a0 false _ A3.out).mono ?_); rintro e w' ⟨rfl, ⟨nd, rfl⟩⟩; refine ⟨_, rfl, ?_⟩) | ((with_reducible refine gate_callee (f := 63) rfl ?_); refine goesL_ (some 10) rfl rfl Tryd.func63 (by kernel_rfl) rfl #[.string a1] rfl q2_ ?_; (with_reducible refine (cmp_isNaN_string.calls a1 false _ A4.out).mono ?_); rintro e w' ⟨rfl, ⟨nd, rfl⟩⟩; refine ⟨_, rfl, ?_⟩))
     go_ret
     exact ⟨q9_, q10_⟩
def value_Compare.f (k : Nat) (a0_0 : Int) (a0_1 : Int) (a0_2 : ByteArray) (a1_0 : Int) (a1_1 : Int) (a1_2 : ByteArray) : Option (Int) := (cmp_Compare_int.f a0_0 a1_0).bind fun t113 => ((cmp_Compare_int.f a0_1 a1_1).bind fun t114 => ((cmp_Compare_string.f a0_2 a1_2).bind fun t115 => ((cmp_Or_int.f k (([t113, t114, t115] : List Int))).bind fun t119 => (some t119))))
theorem value_Compare.mono : ∀ a0 a1 a2 a3 a4 a5 k, LeO (value_Compare.f k a0 a1 a2 a3 a4 a5) (value_Compare.f (k + 1) a0 a1 a2 a3 a4 a5) := by
 intro a0 a1 a2 a3 a4 a5 k
 unfold value_Compare.f
 repeat' first
   | (with_reducible exact cmp_Or_int.mono _ _)
   | (with_reducible exact LeO.refl _)
   | (with_reducible exact LeO.none _)
   | (with_reducible refine LeO.ite ?_ ?_)
   | (with_reducible refine LeO.bind ?_ (fun _ => ?_))
   | exact cmp_Or_int.mono _ _
   | exact LeO.none _
   | refine LeO.ite ?_ ?_
   | refine LeO.bind ?_ (fun _ => ?_)
def value_Compare.T1 : Bool × List (List Nat × List Nat) := (true, [([], []), ([0], [0]), ([], []), ([2], [2]), ([1, 3], [1, 3]), ([], []), ([5], [5]), ([], []), ([7], [7]), ([6, 8, 4], [6, 8]), ([], []), ([10], [10]), ([], []), ([12], [12]), ([11, 13, 9], [11, 13]), ([4, 9, 14], [4, 9, 14]), ([15, 14], [15]), ([16, 16, 0, 1, 2, 3, 4, 5, 6, 7, 8, 9, 10, 11, 12, 13, 14, 15, 16], [16])])
def value_Compare.B1 : List Nat := [0, 1, 0, 4, 15, 0, 32, 0, 128, 511, 0, 1024, 0, 4096, 16383, 32767, 65535, 131071]
theorem value_Compare.tab1 : rtab .any (opsOf Tryd.f49 1) = value_Compare.T1 := by kernel_rfl
theorem value_Compare.bits1 : waitsOk value_Compare.T1.2 value_Compare.B1 = true := by kernel_rfl
set_option maxHeartbeats 8000000 in
set_option maxRecDepth 100000 in
theorem value_Compare.calls (k : Nat) (a0_0 : Int) (a0_1 : Int) (a0_2 : ByteArray) (a1_0 : Int) (a1_1 : Int) (a1_2 : ByteArray) (r : Int) (w : World) (h : value_Compare.f k a0_0 a0_1 a0_2 a1_0 a1_1 a1_2 = some r) :
  Calls Tryd.prog 49 #[.agg #[.int .i64 a0_0, .int .i64 a0_1, .string a0_2], .agg #[.int .i64 a1_0, .int .i64 a1_1, .string a1_2]] w fun e w' => e = .returned (.int .i64 r) ∧ Below w.heap.size w w' := by
 have hu51 := Tryd.underlying51
 have HB := Aside0.mk (Below.refl w.heap.size w)
 have H : ((cmp_Compare_int.f a0_0 a1_0).bind fun t113 => ((cmp_Compare_int.f a0_1 a1_1).bind fun t114 => ((cmp_Compare_string.f a0_2 a1_2).bind fun t115 => ((cmp_Or_int.f k (([t113, t114, t115] : List Int))).bind fun t119 => (some t119))))) = some r := h
 clear h
 replace H := Option.bind_eq_some_iff.mp H
 obtain ⟨t113, A30, H⟩ := H
 replace H : ((cmp_Compare_int.f a0_1 a1_1).bind fun t114 => ((cmp_Compare_string.f a0_2 a1_2).bind fun t115 => ((cmp_Or_int.f k (([t113, t114, t115] : List Int))).bind fun t119 => (some t119)))) = some r := H
 have A3 := Aside0.mk A30
 clear A30
 replace H := Option.bind_eq_some_iff.mp H
 obtain ⟨t114, A40, H⟩ := H
 replace H : ((cmp_Compare_string.f a0_2 a1_2).bind fun t115 => ((cmp_Or_int.f k (([t113, t114, t115] : List Int))).bind fun t119 => (some t119))) = some r := H
 have A4 := Aside0.mk A40
 clear A40
 replace H := Option.bind_eq_some_iff.mp H
 obtain ⟨t115, A50, H⟩ := H
 replace H : ((cmp_Or_int.f k (([t113, t114, t115] : List Int))).bind fun t119 => (some t119)) = some r := H
 have A5 := Aside0.mk A50
 clear A50
 obtain ⟨y116, hy116⟩ : ∃ y_ : List Int, y_ = (([t113, t114, t115] : List Int)) := ⟨_, rfl⟩
 replace H : ((cmp_Or_int.f k y116).bind fun t119 => (some t119)) = some r := by first | (rw [hy116]; with_reducible exact H) | (have H2_ := (Option.bind_some _ _).symm.trans H; rw [hy116]; with_reducible exact H2_) | (have H2_ := (Option.bind_some _ _).symm.trans H; with_reducible exact H2_) | with_reducible exact H | (rw [hy116]; exact H) | exact H
 have Ny116 := Aside0.mk hy116
 clear hy116
 replace H := Option.bind_eq_some_iff.mp H
 obtain ⟨t119, A60, H⟩ := H
 replace H : (some t119) = some r := H
 have A6 := Aside0.mk A60
 clear A60
 obtain rfl := Option.some.inj H
 go_enter Tryd.func49, Tryd.ntmps49
 try go_wp2_with (first | ((with_reducible refine gate_dst (N := 2) rfl ?_); refine box_event ?hg (N := 2) ?hd (cs := #[.int .i64 a0_0, .int .i64 a0_1, .string a0_2]) (t := 51) ?hr ?_; (case hd => rfl); (case hg => rfl); (case hr => first | (go_simp; done) | (go_simp; rfl)); intro gb111 hg w7 hbox hb; have n0_ := Aside0.mk (below_step q0_ hb); have n1_ := Aside0.mk (hbox); have n2_ := Aside0.mk ((q3_ : w.heap.size ≤ gb111)); have n3_ := Aside0.mk ((q3_ : w.heap.size ≤ gb111)); clear HB; have HB := n0_; have BK111 := n1_; have GW111 := n2_; have GE111 := n3_; clear n0_ n1_ n2_ n3_; clear hb hbox hg) | ((with_reducible refine gate_dst (N := 3) rfl ?_); refine box_event ?hg (N := 3) ?hd (cs := #[.int .i64 a1_0, .int .i64 a1_1, .string a1_2]) (t := 51) ?hr ?_; (case hd => rfl); (case hg => rfl); (case hr => first | (go_simp; done) | (go_simp; rfl)); intro gb112 hg w8 hbox hb; have n0_ := Aside0.mk (blk_below (g := gb111) (o := .cells #[.int .i64 a0_0, .int .i64 a0_1, .string a0_2] 51 (0, 0)) q67_ hb); have n1_ := Aside0.mk (below_step q0_ hb); have n2_ := Aside0.mk (hbox); have n3_ := Aside0.mk ((q3_ : w.heap.size ≤ gb112)); have n4_ := Aside0.mk ((q3_ : w.heap.size ≤ gb112)); have n5_ := Aside0.mk ((by rw [hg]; exact Nat.ne_of_lt (blk_lt (g := gb111) (o := .cells #[.int .i64 a0_0, .int .i64 a0_1, .string a0_2] 51 (0, 0)) q67_) : gb111 ≠ gb112)); have n6_ := Aside0.mk ((by rw [hg]; exact Nat.ne_of_gt (blk_lt (g := gb111) (o := .cells #[.int .i64 a0_0, .int .i64 a0_1, .string a0_2] 51 (0, 0)) q67_) : gb112 ≠ gb111)); clear BK111; clear HB; have BK111 := n0_; have HB := n1_; have BK112 := n2_; have GW112 := n3_; have GE112 := n4_; have NB111_112 := n5_; have NB112_111 := n6_; clear n0_ n1_ n2_ n3_ n4_ n5_ n6_; clear hb hbox hg))
 have n0_ := Aside0.mk (blk_drew BK111.out)
 have n1_ := Aside0.mk (blk_drew BK112.out)
 have n2_ := Aside0.mk (below_drew1 HB.out)
 clear BK111
 clear BK112
 clear HB
 have BK111 := n0_
 have BK112 := n1_
 have HB := n2_
 clear n0_ n1_ n2_
 refine start_ (n := 18) (S := fun w' => w'.cell? ⟨gb111, 0, none⟩ = some (.int .i64 a0_0) ∧ w'.cell? ⟨gb111, 1, none⟩ = some (.int .i64 a0_1) ∧ w'.cell? ⟨gb111, 2, none⟩ = some (.string a0_2) ∧ w'.cell? ⟨gb112, 0, none⟩ = some (.int .i64 a1_0) ∧ w'.cell? ⟨gb112, 1, none⟩ = some (.int .i64 a1_1) ∧ w'.cell? ⟨gb112, 2, none⟩ = some (.string a1_2)) (ds := []) b1_0 (by kernel_rfl) rfl rfl ⟨(blk_cell BK111.out 0).trans rfl, (blk_cell BK111.out 1).trans rfl, (blk_cell BK111.out 2).trans rfl, (blk_cell BK112.out 0).trans rfl, (blk_cell BK112.out 1).trans rfl, (blk_cell BK112.out 2).trans rfl⟩ (fun hHeld => ?_); refine with_tabW value_Compare.tab1 value_Compare.bits1 (fun HT_ HW_ => ?_)
 generalize w8.drew = w9 at BK111 BK112 HB hHeld ⊢
 refine pure_ (i := 0) (N := some 5) (v := ?_) (a' := ?_) b1_1 rfl rfl qh_ qi_ (Or.inl ⟨qr_, ?_⟩) ?_ ?_; rotate_left; (intro w'; go_simp; with_reducible rfl); rotate_left; exact qa_
 refine pure_ (i := 2) (N := some 7) (v := ?_) (a' := ?_) b1_2 rfl rfl qh_ qi_ (Or.inl ⟨qr_, ?_⟩) ?_ ?_; rotate_left; (intro w'; go_simp; with_reducible rfl); rotate_left; exact qa_
 refine pure_ (i := 5) (N := some 10) (v := ?_) (a' := ?_) b1_3 rfl rfl qh_ qi_ (Or.inl ⟨qr_, ?_⟩) ?_ ?_; rotate_left; (intro w'; go_simp; with_reducible rfl); rotate_left; exact qa_
 refine pure_ (i := 7) (N := some 12) (v := ?_) (a' := ?_) b1_4 rfl rfl qh_ qi_ (Or.inl ⟨qr_, ?_⟩) ?_ ?_; rotate_left; (intro w'; go_simp; with_reducible rfl); rotate_left; exact qa_
 refine pure_ (i := 10) (N := some 15) (v := ?_) (a' := ?_) b1_5 rfl rfl qh_ qi_ (Or.inl ⟨qr_, ?_⟩) ?_ ?_; rotate_left; (intro w'; go_simp; with_reducible rfl); rotate_left; exact qa_
 refine pure_ (i := 12) (N := some 17) (v := ?_) (a' := ?_) b1_6 rfl rfl qh_ qi_ (Or.inl ⟨qr_, ?_⟩) ?_ ?_; rotate_left; (intro w'; go_simp; with_reducible rfl); rotate_left; exact qa_
 refine take_ (i := 1) (N := some 6) (v := ?_) (a' := ?_) b1_7 rfl rfl (take_ofW HT_.out HW_.out (by kernel_rfl)) (fun _ _ _ h => h) (Or.inl ⟨by rfl, ?_⟩) hHeld ?_ ?_; rotate_left; (rintro w' ⟨s0, s1, s2, s3, s4, s5⟩; go_simp; with_reducible rfl); rotate_left; exact qa_
 refine take_ (i := 3) (N := some 8) (v := ?_) (a' := ?_) b1_8 rfl rfl (take_ofW HT_.out HW_.out (by kernel_rfl)) (fun _ _ _ h => h) (Or.inl ⟨by rfl, ?_⟩) hHeld ?_ ?_; rotate_left; (rintro w' ⟨s0, s1, s2, s3, s4, s5⟩; go_simp; with_reducible rfl); rotate_left; exact qa_
 refine take_ (i := 6) (N := some 11) (v := ?_) (a' := ?_) b1_9 rfl rfl (take_ofW HT_.out HW_.out (by kernel_rfl)) (fun _ _ _ h => h) (Or.inl ⟨by rfl, ?_⟩) hHeld ?_ ?_; rotate_left; (rintro w' ⟨s0, s1, s2, s3, s4, s5⟩; go_simp; with_reducible rfl); rotate_left; exact qa_
 refine take_ (i := 8) (N := some 13) (v := ?_) (a' := ?_) b1_10 rfl rfl (take_ofW HT_.out HW_.out (by kernel_rfl)) (fun _ _ _ h => h) (Or.inl ⟨by rfl, ?_⟩) hHeld ?_ ?_; rotate_left; (rintro w' ⟨s0, s1, s2, s3, s4, s5⟩; go_simp; with_reducible rfl); rotate_left; exact qa_
 refine take_ (i := 11) (N := some 16) (v := ?_) (a' := ?_) b1_11 rfl rfl (take_ofW HT_.out HW_.out (by kernel_rfl)) (fun _ _ _ h => h) (Or.inl ⟨by rfl, ?_⟩) hHeld ?_ ?_; rotate_left; (rintro w' ⟨s0, s1, s2, s3, s4, s5⟩; go_simp; with_reducible rfl); rotate_left; exact qa_
 refine take_ (i := 13) (N := some 18) (v := ?_) (a' := ?_) b1_12 rfl rfl (take_ofW HT_.out HW_.out (by kernel_rfl)) (fun _ _ _ h => h) (Or.inl ⟨by rfl, ?_⟩) hHeld ?_ ?_; rotate_left; (rintro w' ⟨s0, s1, s2, s3, s4, s5⟩; go_simp; with_reducible rfl); rotate_left; exact qa_
 refine one_ (i := 4) (N := some 9) b1_13 rfl rfl (one_of HT_.out (by kernel_rfl)) (by decide) (fun K hK => ?_)
 refine goes_ Tryd.func50 (by kernel_rfl) rfl #[.int .i64 a0_0, .int .i64 a1_0] (by rfl) rfl rfl q2_ ?_
 with_reducible refine (cmp_Compare_int.calls a0_0 a1_0 t113 _ A3.out).mono ?_
 rintro e w' ⟨rfl, ⟨nd, rfl⟩⟩
 refine ⟨_, rfl, ?_⟩
 refine hK.out _ _ ⟨(blk_cell BK111.out 0).trans rfl, (blk_cell BK111.out 1).trans rfl, (blk_cell BK111.out 2).trans rfl, (blk_cell BK112.out 0).trans rfl, (blk_cell BK112.out 1).trans rfl, (blk_cell BK112.out 2).trans rfl⟩ (fun hHeld => ?_)
 clear hK K
 refine norm_ (a' := ?_) ?_ ?_
 rotate_left
 ·show Act.put _ (some 9) _ = _
  simp only [Act.put, List.setIfInBounds_toArray, List.set_cons_zero, List.set_cons_succ, i64_w, i32_w]
  rfl
 refine one_ (i := 9) (N := some 14) b1_14 rfl rfl (one_of HT_.out (by kernel_rfl)) (by decide) (fun K hK => ?_)
 refine goes_ Tryd.func50 (by kernel_rfl) rfl #[.int .i64 a0_1, .int .i64 a1_1] (by rfl) rfl rfl q2_ ?_
 with_reducible refine (cmp_Compare_int.calls a0_1 a1_1 t114 _ A4.out).mono ?_
 rintro e w' ⟨rfl, ⟨nd, rfl⟩⟩
 refine ⟨_, rfl, ?_⟩
 refine hK.out _ _ ⟨(blk_cell BK111.out 0).trans rfl, (blk_cell BK111.out 1).trans rfl, (blk_cell BK111.out 2).trans rfl, (blk_cell BK112.out 0).trans rfl, (blk_cell BK112.out 1).trans rfl, (blk_cell BK112.out 2).trans rfl⟩ (fun hHeld => ?_)
 clear hK K
 refine norm_ (a' := ?_) ?_ ?_
 rotate_left
 ·show Act.put _ (some 14) _ = _
  simp only [Act.put, List.setIfInBounds_toArray, List.set_cons_zero, List.set_cons_succ, i64_w, i32_w]
  rfl
 refine one_ (i := 14) (N := some 19) b1_15 rfl rfl (one_of HT_.out (by kernel_rfl)) (by decide) (fun K hK => ?_)
 refine goes_ Tryd.func58 (by kernel_rfl) rfl #[.string a0_2, .string a1_2] (by rfl) rfl rfl q2_ ?_
 with_reducible refine (cmp_Compare_string.calls a0_2 a1_2 t115 _ A5.out).mono ?_
 rintro e w' ⟨rfl, ⟨nd, rfl⟩⟩
 refine ⟨_, rfl, ?_⟩
 refine hK.out _ _ ⟨(blk_cell BK111.out 0).trans rfl, (blk_cell BK111.out 1).trans rfl, (blk_cell BK111.out 2).trans rfl, (blk_cell BK112.out 0).trans rfl, (blk_cell BK112.out 1).trans rfl, (blk_cell BK112.out 2).trans rfl⟩ (fun hHeld => ?_)
 clear hK K
 refine norm_ (a' := ?_) ?_ ?_
 rotate_left
 ·show Act.put _ (some 19) _ = _
  simp only [Act.put, List.setIfInBounds_toArray, List.set_cons_zero, List.set_cons_succ, i64_w, i32_w]
  rfl
 refine one_ (i := 15) (N := some 20) b1_16 rfl rfl (one_of HT_.out (by kernel_rfl)) (by decide) (fun K hK => ?_)
 refine Kd.R_lit_step (Kd.int .i64) _ 3 ?hg (N := 20) ?hd (xs := ([t113, t114, t115] : List Int)) (inner := [.int .i64 t113, .int .i64 t114, .int .i64 t115]) (ok := fun _ => True) (okp := fun _ => True) ?hr ?hp (fun _ hk => hk) trivial (Below.refl _ _) (Nat.le_refl _) (by simp) ?_; (case hd => rfl); (case hg => rfl); (case hr => first | (go_simp; done) | (go_simp; rfl)); (case hp => exact (Reps.one (show Kd.M (Kd.int .i64) _ _ _ t113 [.int .i64 t113] from rfl) (Reps.one (show Kd.M (Kd.int .i64) _ _ _ t114 [.int .i64 t114] from rfl) (Reps.one (show Kd.M (Kd.int .i64) _ _ _ t115 [.int .i64 t115] from rfl) (Reps.none _ _)))))
 intro v117 w10 ho11 hb hg_ hnew_
 clear hg_ hnew_
 (first | rw [← Ny116.out] at ho11 | (simp only [Int.reduceToNat] at ho11; rw [← Ny116.out] at ho11))
 have n0_ := Aside0.mk (Kd.R_lower ho11 (below_size q0_))
 have n1_ := Aside0.mk (blk_below (g := gb111) (o := .cells #[.int .i64 a0_0, .int .i64 a0_1, .string a0_2] 51 (0, 0)) q67_ hb)
 have n2_ := Aside0.mk (blk_below (g := gb112) (o := .cells #[.int .i64 a1_0, .int .i64 a1_1, .string a1_2] 51 (0, 0)) (by (with_reducible repeat first | apply bN_ | apply bD_ | apply bA_); exact BK112.out) hb)
 have n3_ := Aside0.mk (below_step q0_ hb)
 clear BK111
 clear BK112
 clear HB
 have HO118 := n0_
 have BK111 := n1_
 have BK112 := n2_
 have HB := n3_
 clear n0_ n1_ n2_ n3_
 clear hb ho11
 obtain ⟨Ao12, co12, eo12⟩ := Kd.R_slice HO118.out
 (first | subst eo12 | (injection eo12 with f1_ f2_ f3_; have f4_ := f1_.symm; have f5_ := f3_.symm; clear f1_ f2_ f3_; subst f4_; subst f5_))
 refine hK.out _ _ ⟨(blk_cell BK111.out 0).trans rfl, (blk_cell BK111.out 1).trans rfl, (blk_cell BK111.out 2).trans rfl, (blk_cell BK112.out 0).trans rfl, (blk_cell BK112.out 1).trans rfl, (blk_cell BK112.out 2).trans rfl⟩ (fun hHeld => ?_)
 clear hK K
 refine norm_ (a' := ?_) ?_ ?_
 rotate_left
 ·show Act.put _ (some 20) _ = _
  simp only [Act.put, List.setIfInBounds_toArray, List.set_cons_zero, List.set_cons_succ, i64_w, i32_w]
  rfl
 refine one_ (i := 16) (N := some 21) b1_17 rfl rfl (one_of HT_.out (by kernel_rfl)) (by decide) (fun K hK => ?_)
 refine goes_ Tryd.func57 (by kernel_rfl) rfl #[.slice Ao12 y116.length co12] (by rfl) rfl rfl q2_ ?_
 with_reducible refine (cmp_Or_int.calls k _ _ y116 t119 _ ?side1 ?side2 A6.out).mono ?_
 (case side1 => repeat (first | exact (Kd.R_reads' HO118.out).2.2 | (with_reducible refine Kd.C_alloc ?_ _) | (with_reducible refine Kd.C_drewN ?_ _) | (with_reducible refine Kd.C_drew ?_)))
 (case side2 => exact (Kd.R_reads' HO118.out).2.1)
 rintro e w' ⟨rfl, ⟨nd, rfl⟩⟩
 refine ⟨_, rfl, ?_⟩
 refine hK.out _ _ ⟨(blk_cell BK111.out 0).trans rfl, (blk_cell BK111.out 1).trans rfl, (blk_cell BK111.out 2).trans rfl, (blk_cell BK112.out 0).trans rfl, (blk_cell BK112.out 1).trans rfl, (blk_cell BK112.out 2).trans rfl⟩ (fun hHeld => ?_)
 clear hK K
 refine norm_ (a' := ?_) ?_ ?_
 rotate_left
 ·show Act.put _ (some 21) _ = _
  simp only [Act.put, List.setIfInBounds_toArray, List.set_cons_zero, List.set_cons_succ, i64_w, i32_w]
  rfl
 refine pure_ (i := 17) (N := some 4) (v := ?_) (a' := ?_) b1_18 rfl rfl qh_ qi_ (Or.inl ⟨qr_, ?_⟩) ?_ ?_; rotate_left; (intro w'; go_simp; with_reducible rfl); rotate_left; exact qa_
 refine done_ (done_of HT_.out (by kernel_rfl)) ?_
 try go_wp2
 go_ret
 exact ⟨q4_, q0_⟩
def value_Rows.l0 : Nat → List (S51) → List (S51) → Int → Int → Option (Int)
 | 0, _, _, _, _ => none
 | k + 1, x0, x1, x11, x12 => if x12 < x11 then (if 0 ≤ x12 then (if x12 < (x0.length : Int) then (if x12 < (x1.length : Int) then ((value_Compare.f k ((rd_T51 x0 x12).f0) ((rd_T51 x0 x12).f1) ((rd_T51 x0 x12).f2) ((rd_T51 x1 x12).f0) ((rd_T51 x1 x12).f1) ((rd_T51 x1 x12).f2)).bind fun t123 => (if t123 = 0 then (value_Rows.l0 k x0 x1 x11 (wrap64 (x12 + 1))) else (some t123))) else (none)) else (none)) else (none)) else ((cmp_Compare_int.f (x0.length : Int) (x1.length : Int)).bind fun t120 => (some t120))
def value_Rows.f (k : Nat) (l0 : List (S51)) (l1 : List (S51)) : Option (Int) := value_Rows.l0 k l0 l1 (mn (l0.length : Int) (l1.length : Int)) 0
theorem value_Rows.mono_l : ∀ k, (∀ y0 y1 y2 y3, LeO (value_Rows.l0 k y0 y1 y2 y3) (value_Rows.l0 (k + 1) y0 y1 y2 y3))
 | 0 => fun _ _ _ _ r h => by simp [value_Rows.l0] at h
 | k + 1 => by
  have ih0 := value_Rows.mono_l k
  ·intro y0 y1 y2 y3
   unfold value_Rows.l0
   repeat' first
   | (with_reducible exact ih0 _ _ _ _)
   | (with_reducible exact value_Compare.mono _ _ _ _ _ _ _)
   | (with_reducible exact LeO.refl _)
   | (with_reducible exact LeO.none _)
   | (with_reducible refine LeO.ite ?_ ?_)
   | (with_reducible refine LeO.bind ?_ (fun _ => ?_))
   | exact ih0 _ _ _ _
   | exact value_Compare.mono _ _ _ _ _ _ _
   | exact LeO.none _
   | refine LeO.ite ?_ ?_
   | refine LeO.bind ?_ (fun _ => ?_)
theorem value_Rows.mono : ∀ a0 a1 k, LeO (value_Rows.f k a0 a1) (value_Rows.f (k + 1) a0 a1) := by
 intro a0 a1 k
 have ih0 := value_Rows.mono_l k
 unfold value_Rows.f
 repeat' first
   | (with_reducible exact ih0 _ _ _ _)
   | (with_reducible exact value_Compare.mono _ _ _ _ _ _ _)
   | (with_reducible exact LeO.refl _)
   | (with_reducible exact LeO.none _)
   | (with_reducible refine LeO.ite ?_ ?_)
   | (with_reducible refine LeO.bind ?_ (fun _ => ?_))
   | exact ih0 _ _ _ _
   | exact value_Compare.mono _ _ _ _ _ _ _
   | exact LeO.none _
   | refine LeO.ite ?_ ?_
   | refine LeO.bind ?_ (fun _ => ?_)
def value_Rows.T4 : Bool × List (List Nat × List Nat) := (true, [([], []), ([], []), ([0, 1], [0, 1]), ([2], [2]), ([], []), ([], []), ([4, 5], [4, 5]), ([6], [6]), ([3, 7], [3, 7]), ([8, 8, 0, 1, 2, 3, 4, 5, 6, 7, 8], [8])])
def value_Rows.B4 : List Nat := [0, 0, 3, 7, 0, 0, 48, 112, 255, 511]
theorem value_Rows.tab4 : rtab .any (opsOf Tryd.f31 4) = value_Rows.T4 := by kernel_rfl
theorem value_Rows.bits4 : waitsOk value_Rows.T4.2 value_Rows.B4 = true := by kernel_rfl
set_option maxHeartbeats 8000000 in
set_option maxRecDepth 100000 in
theorem value_Rows.calls (k : Nat) (A0 : Option Addr) (c0 : Nat) (l0 : List (S51)) (A1 : Option Addr) (c1 : Nat) (l1 : List (S51)) (r : Int) (w : World) (hr0 : Kd.C k51 w A0 l0.length l0) (hc0 : l0.length ≤ c0) (hr1 : Kd.C k51 w A1 l1.length l1) (hc1 : l1.length ≤ c1) (h : value_Rows.f k l0 l1 = some r) :
  Calls Tryd.prog 31 #[.slice A0 l0.length c0, .slice A1 l1.length c1] w fun e w' => e = .returned (.int .i64 r) ∧ Below w.heap.size w w' := by
 have hu51 := Tryd.underlying51
 have HR0 := Aside0.mk hr0
 have HC0 := Aside0.mk hc0
 clear hr0 hc0
 have HR1 := Aside0.mk hr1
 have HC1 := Aside0.mk hc1
 clear hr1 hc1
 have HB := Aside0.mk (Below.refl w.heap.size w)
 have H : (value_Rows.l0 k l0 l1 (mn (l0.length : Int) (l1.length : Int)) 0) = some r := h
 clear h
 obtain ⟨ji3, hji3⟩ : ∃ j_ : Int, (mn (l0.length : Int) (l1.length : Int)) = j_ := ⟨_, rfl⟩
 replace H : (value_Rows.l0 k l0 l1 ji3 0) = some r := by first | (rw [hji3] at H; exact H) | (simp only [hji3] at H ⊢; exact H)
 (try (have hji3l : 0 ≤ ji3 := by (rw [← hji3]; unfold mn; (repeat' split) <;> omega)))
 (try (have hji3m : 0 ≤ ji3 := by omega))
 have hji3_ : (if (l1.length : Int) < (l0.length : Int) then (l1.length : Int) else (l0.length : Int)) = ji3 := hji3
 have H' := Aside0.mk H
 clear H
 go_enter Tryd.func31, Tryd.ntmps31
 go_wp2
 (try rw [hji3])
 go_loopg [12] k (fun kq v12 w' => ∃ (x12_1 : Int), v12 = .int .i64 x12_1 ∧ Aside0 (value_Rows.l0 kq l0 l1 ji3 x12_1 = some r) ∧ Aside0 (kq ≤ k) ∧ Aside0 (Below w.heap.size w w'))
 case atStart => exact ⟨(0), q9_, H', ⟨Nat.le_refl _⟩, ⟨q0_⟩⟩
 case round =>
  clear H'
  try clear c1
  try clear p2
  try clear c3
  obtain ⟨x12_1, rfl, HA, HK1, HB⟩ := hrel
  cases gk with
  | zero => exact absurd HA.out (by simp [value_Rows.l0])
  | succ k1 =>
   have H := HA.out
   clear HA
   simp only [value_Rows.l0] at H
   by_cases c4 : x12_1 < ji3
   ·rw [if_pos c4] at H
    have c4b0 : decide (x12_1 < ji3) = true := decide_eq_true c4
    clear c4
    by_cases c5 : 0 ≤ x12_1
    ·rw [if_pos c5] at H
     have c5b0 : decide (0 ≤ x12_1) = true := decide_eq_true c5
     clear c5
     by_cases c6 : x12_1 < (l0.length : Int)
     ·rw [if_pos c6] at H
      have c6b0 : decide (x12_1 < (l0.length : Int)) = true := decide_eq_true c6
      clear c6
      by_cases c7 : x12_1 < (l1.length : Int)
      ·rw [if_pos c7] at H
       have c7b0 : decide (x12_1 < (l1.length : Int)) = true := decide_eq_true c7
       clear c7
       replace H := Option.bind_eq_some_iff.mp H
       obtain ⟨t123, A80, H⟩ := H
       replace H : (if t123 = 0 then (value_Rows.l0 k1 l0 l1 ji3 (wrap64 (x12_1 + 1))) else (some t123)) = some r := H
       have A8 := Aside0.mk A80
       clear A80
       by_cases c9 : t123 = 0
       ·rw [if_pos c9] at H
        have c9b0 : (t123 == 0) = true := beq_iff_eq.mpr c9
        have c9b1 : (t123 != 0) = false := bne_eq_false_iff_eq.mpr c9
        clear c9
        have H' := Aside0.mk H
        clear H
        try go_wp2
        have n0_ := Aside0.mk (below_drew1 HB.out)
        clear HB
        have HB := n0_
        clear n0_
        have p121 : 0 ≤ (x12_1 : Int) := of_decide_eq_true q5_
        have q121 : x12_1 < (l0.length : Int) := of_decide_eq_true q5_
        obtain ⟨ad121, e121, hx121_0, hx121_1, hx121_2⟩ := at_T51 HR0.out x12_1 p121 q121
        have hw121_2 := hx121_2
        have hw121_1 := hx121_1
        have hw121_0 := hx121_0
        cases e121
        replace hx121_0 := (HB.out.cell (World.block_lt_of_cell? w _ hx121_0)).trans hx121_0
        replace hx121_1 := (HB.out.cell (World.block_lt_of_cell? w _ hx121_1)).trans hx121_1
        replace hx121_2 := (HB.out.cell (World.block_lt_of_cell? w _ hx121_2)).trans hx121_2
        replace p121 := eq_true p121
        replace q121 := eq_true q121
        have p122 : 0 ≤ (x12_1 : Int) := of_decide_eq_true q5_
        have q122 : x12_1 < (l1.length : Int) := of_decide_eq_true q5_
        obtain ⟨ad122, e122, hx122_0, hx122_1, hx122_2⟩ := at_T51 HR1.out x12_1 p122 q122
        have hw122_2 := hx122_2
        have hw122_1 := hx122_1
        have hw122_0 := hx122_0
        cases e122
        replace hx122_0 := (HB.out.cell (World.block_lt_of_cell? w _ hx122_0)).trans hx122_0
        replace hx122_1 := (HB.out.cell (World.block_lt_of_cell? w _ hx122_1)).trans hx122_1
        replace hx122_2 := (HB.out.cell (World.block_lt_of_cell? w _ hx122_2)).trans hx122_2
        replace p122 := eq_true p122
        replace q122 := eq_true q122
        refine start_ (n := 10) (S := fun w' => w'.cell? (ad121.add ((x12_1).toNat * 3)) = some (.int .i64 ((rd_T51 l0 x12_1).f0)) ∧ w'.cell? ⟨(ad121.add ((x12_1).toNat * 3)).block, (ad121.add ((x12_1).toNat * 3)).off + 1, none⟩ = some (.int .i64 ((rd_T51 l0 x12_1).f1)) ∧ w'.cell? ⟨(ad121.add ((x12_1).toNat * 3)).block, (ad121.add ((x12_1).toNat * 3)).off + 2, none⟩ = some (.string ((rd_T51 l0 x12_1).f2)) ∧ w'.cell? (ad122.add ((x12_1).toNat * 3)) = some (.int .i64 ((rd_T51 l1 x12_1).f0)) ∧ w'.cell? ⟨(ad122.add ((x12_1).toNat * 3)).block, (ad122.add ((x12_1).toNat * 3)).off + 1, none⟩ = some (.int .i64 ((rd_T51 l1 x12_1).f1)) ∧ w'.cell? ⟨(ad122.add ((x12_1).toNat * 3)).block, (ad122.add ((x12_1).toNat * 3)).off + 2, none⟩ = some (.string ((rd_T51 l1 x12_1).f2))) (ds := []) b1_19 (by kernel_rfl) rfl rfl ⟨((HB.out.cell (World.block_lt_of_cell? w _ hw121_0)).trans hw121_0), ((HB.out.cell (World.block_lt_of_cell? w _ hw121_1)).trans hw121_1), ((HB.out.cell (World.block_lt_of_cell? w _ hw121_2)).trans hw121_2), ((HB.out.cell (World.block_lt_of_cell? w _ hw122_0)).trans hw122_0), ((HB.out.cell (World.block_lt_of_cell? w _ hw122_1)).trans hw122_1), ((HB.out.cell (World.block_lt_of_cell? w _ hw122_2)).trans hw122_2)⟩ (fun hHeld => ?_); refine with_tabW value_Rows.tab4 value_Rows.bits4 (fun HT_ HW_ => ?_)
        generalize wr.drew = w10 at HB hx121_0 hx121_1 hx121_2 hx122_0 hx122_1 hx122_2 hHeld ⊢
        refine pure_ (i := 0) (N := some 15) (v := ?_) (a' := ?_) b1_20 rfl rfl qh_ qi_ (Or.inl ⟨qr_, ?_⟩) ?_ ?_; rotate_left; (intro w'; go_simp; with_reducible rfl); rotate_left; exact qa_
        refine pure_ (i := 1) (N := some 16) (v := ?_) (a' := ?_) b1_21 rfl rfl qh_ qi_ (Or.inl ⟨qr_, ?_⟩) ?_ ?_; rotate_left; (intro w'; go_simp; with_reducible rfl); rotate_left; exact qa_
        refine pure_ (i := 2) (N := some 17) (v := ?_) (a' := ?_) b1_22 rfl rfl qh_ qi_ (Or.inl ⟨qr_, ?_⟩) ?_ ?_; rotate_left; (intro w'; go_simp; with_reducible rfl); rotate_left; exact qa_
        refine pure_ (i := 4) (N := some 19) (v := ?_) (a' := ?_) b1_23 rfl rfl qh_ qi_ (Or.inl ⟨qr_, ?_⟩) ?_ ?_; rotate_left; (intro w'; go_simp; with_reducible rfl); rotate_left; exact qa_
        refine pure_ (i := 5) (N := some 20) (v := ?_) (a' := ?_) b1_24 rfl rfl qh_ qi_ (Or.inl ⟨qr_, ?_⟩) ?_ ?_; rotate_left; (intro w'; go_simp; with_reducible rfl); rotate_left; exact qa_
        refine pure_ (i := 6) (N := some 21) (v := ?_) (a' := ?_) b1_25 rfl rfl qh_ qi_ (Or.inl ⟨qr_, ?_⟩) ?_ ?_; rotate_left; (intro w'; go_simp; with_reducible rfl); rotate_left; exact qa_
        refine take_ (i := 3) (N := some 18) (v := ?_) (a' := ?_) b1_26 rfl rfl (take_ofW HT_.out HW_.out (by kernel_rfl)) (fun _ _ _ h => h) (Or.inl ⟨by rfl, ?_⟩) hHeld ?_ ?_; rotate_left; (rintro w' ⟨s0, s1, s2, s3, s4, s5⟩; go_simp; with_reducible rfl); rotate_left; exact qa_
        refine take_ (i := 7) (N := some 22) (v := ?_) (a' := ?_) b1_27 rfl rfl (take_ofW HT_.out HW_.out (by kernel_rfl)) (fun _ _ _ h => h) (Or.inl ⟨by rfl, ?_⟩) hHeld ?_ ?_; rotate_left; (rintro w' ⟨s0, s1, s2, s3, s4, s5⟩; go_simp; with_reducible rfl); rotate_left; exact qa_
        refine one_ (i := 8) (N := some 23) b1_28 rfl rfl (one_of HT_.out (by kernel_rfl)) (by decide) (fun K hK => ?_)
        refine goes_ Tryd.func49 (by kernel_rfl) rfl #[.agg #[.int .i64 ((rd_T51 l0 x12_1).f0), .int .i64 ((rd_T51 l0 x12_1).f1), .string ((rd_T51 l0 x12_1).f2)], .agg #[.int .i64 ((rd_T51 l1 x12_1).f0), .int .i64 ((rd_T51 l1 x12_1).f1), .string ((rd_T51 l1 x12_1).f2)]] (by rfl) rfl rfl q2_ ?_
        with_reducible refine (value_Compare.calls k1 ((rd_T51 l0 x12_1).f0) ((rd_T51 l0 x12_1).f1) ((rd_T51 l0 x12_1).f2) ((rd_T51 l1 x12_1).f0) ((rd_T51 l1 x12_1).f1) ((rd_T51 l1 x12_1).f2) t123 _ A8.out).mono ?_
        rintro e w11 ⟨rfl, hb⟩
        refine ⟨_, rfl, ?_⟩
        have n0_ := Aside0.mk (below_step q0_ hb)
        clear HB
        have HB := n0_
        clear n0_
        (try clear hb)
        (try clear hb2)
        (try clear hk)
        (try clear hi)
        refine hK.out _ _ ⟨((HB.out.cell (World.block_lt_of_cell? w _ hw121_0)).trans hw121_0), ((HB.out.cell (World.block_lt_of_cell? w _ hw121_1)).trans hw121_1), ((HB.out.cell (World.block_lt_of_cell? w _ hw121_2)).trans hw121_2), ((HB.out.cell (World.block_lt_of_cell? w _ hw122_0)).trans hw122_0), ((HB.out.cell (World.block_lt_of_cell? w _ hw122_1)).trans hw122_1), ((HB.out.cell (World.block_lt_of_cell? w _ hw122_2)).trans hw122_2)⟩ (fun hHeld => ?_)
        clear hK K
        refine norm_ (a' := ?_) ?_ ?_
        rotate_left
        ·show Act.put _ (some 23) _ = _
         simp only [Act.put, List.setIfInBounds_toArray, List.set_cons_zero, List.set_cons_succ, i64_w, i32_w]
         rfl
        refine pure_ (i := 9) (N := some 6) (v := ?_) (a' := ?_) b1_29 rfl rfl qh_ qi_ (Or.inl ⟨qr_, ?_⟩) ?_ ?_; rotate_left; (intro w'; go_simp; with_reducible rfl); rotate_left; exact qa_
        refine done_ (done_of HT_.out (by kernel_rfl)) ?_
        try go_wp2
        go_roundg k1
        case measure => have := HK1.out; omega
        case rel => exact ⟨(wrap64 (x12_1 + 1)), q9_, H', ⟨by have := HK1.out; omega⟩, ⟨q0_⟩⟩
       ·rw [if_neg c9] at H
        have c9b0 : (t123 == 0) = false := beq_eq_false_iff_ne.mpr c9
        have c9b1 : (t123 != 0) = true := bne_iff_ne.mpr c9
        obtain rfl := Option.some.inj H
        try go_wp2
        have n0_ := Aside0.mk (below_drew1 HB.out)
        clear HB
        have HB := n0_
        clear n0_
        have p121 : 0 ≤ (x12_1 : Int) := of_decide_eq_true q5_
        have q121 : x12_1 < (l0.length : Int) := of_decide_eq_true q5_
        obtain ⟨ad121, e121, hx121_0, hx121_1, hx121_2⟩ := at_T51 HR0.out x12_1 p121 q121
        have hw121_2 := hx121_2
        have hw121_1 := hx121_1
        have hw121_0 := hx121_0
        cases e121
        replace hx121_0 := (HB.out.cell (World.block_lt_of_cell? w _ hx121_0)).trans hx121_0
        replace hx121_1 := (HB.out.cell (World.block_lt_of_cell? w _ hx121_1)).trans hx121_1
        replace hx121_2 := (HB.out.cell (World.block_lt_of_cell? w _ hx121_2)).trans hx121_2
        replace p121 := eq_true p121
        replace q121 := eq_true q121
        have p122 : 0 ≤ (x12_1 : Int) := of_decide_eq_true q5_
        have q122 : x12_1 < (l1.length : Int) := of_decide_eq_true q5_
        obtain ⟨ad122, e122, hx122_0, hx122_1, hx122_2⟩ := at_T51 HR1.out x12_1 p122 q122
        have hw122_2 := hx122_2
        have hw122_1 := hx122_1
        have hw122_0 := hx122_0
        cases e122
        replace hx122_0 := (HB.out.cell (World.block_lt_of_cell? w _ hx122_0)).trans hx122_0
        replace hx122_1 := (HB.out.cell (World.block_lt_of_cell? w _ hx122_1)).trans hx122_1
        replace hx122_2 := (HB.out.cell (World.block_lt_of_cell? w _ hx122_2)).trans hx122_2
        replace p122 := eq_true p122
        replace q122 := eq_true q122
        refine start_ (n := 10) (S := fun w' => w'.cell? (ad121.add ((x12_1).toNat * 3)) = some (.int .i64 ((rd_T51 l0 x12_1).f0)) ∧ w'.cell? ⟨(ad121.add ((x12_1).toNat * 3)).block, (ad121.add ((x12_1).toNat * 3)).off + 1, none⟩ = some (.int .i64 ((rd_T51 l0 x12_1).f1)) ∧ w'.cell? ⟨(ad121.add ((x12_1).toNat * 3)).block, (ad121.add ((x12_1).toNat * 3)).off + 2, none⟩ = some (.string ((rd_T51 l0 x12_1).f2)) ∧ w'.cell? (ad122.add ((x12_1).toNat * 3)) = some (.int .i64 ((rd_T51 l1 x12_1).f0)) ∧ w'.cell? ⟨(ad122.add ((x12_1).toNat * 3)).block, (ad122.add ((x12_1).toNat * 3)).off + 1, none⟩ = some (.int .i64 ((rd_T51 l1 x12_1).f1)) ∧ w'.cell? ⟨(ad122.add ((x12_1).toNat * 3)).block, (ad122.add ((x12_1).toNat * 3)).off + 2, none⟩ = some (.string ((rd_T51 l1 x12_1).f2))) (ds := []) b1_19 (by kernel_rfl) rfl rfl ⟨((HB.out.cell (World.block_lt_of_cell? w _ hw121_0)).trans hw121_0), ((HB.out.cell (World.block_lt_of_cell? w _ hw121_1)).trans hw121_1), ((HB.out.cell (World.block_lt_of_cell? w _ hw121_2)).trans hw121_2), ((HB.out.cell (World.block_lt_of_cell? w _ hw122_0)).trans hw122_0), ((HB.out.cell (World.block_lt_of_cell? w _ hw122_1)).trans hw122_1), ((HB.out.cell (World.block_lt_of_cell? w _ hw122_2)).trans hw122_2)⟩ (fun hHeld => ?_); refine with_tabW value_Rows.tab4 value_Rows.bits4 (fun HT_ HW_ => ?_)
        generalize wr.drew = w12 at HB hx121_0 hx121_1 hx121_2 hx122_0 hx122_1 hx122_2 hHeld ⊢
        refine pure_ (i := 0) (N := some 15) (v := ?_) (a' := ?_) b1_20 rfl rfl qh_ qi_ (Or.inl ⟨qr_, ?_⟩) ?_ ?_; rotate_left; (intro w'; go_simp; with_reducible rfl); rotate_left; exact qa_
        refine pure_ (i := 1) (N := some 16) (v := ?_) (a' := ?_) b1_21 rfl rfl qh_ qi_ (Or.inl ⟨qr_, ?_⟩) ?_ ?_; rotate_left; (intro w'; go_simp; with_reducible rfl); rotate_left; exact qa_
        refine pure_ (i := 2) (N := some 17) (v := ?_) (a' := ?_) b1_22 rfl rfl qh_ qi_ (Or.inl ⟨qr_, ?_⟩) ?_ ?_; rotate_left; (intro w'; go_simp; with_reducible rfl); rotate_left; exact qa_
        refine pure_ (i := 4) (N := some 19) (v := ?_) (a' := ?_) b1_23 rfl rfl qh_ qi_ (Or.inl ⟨qr_, ?_⟩) ?_ ?_; rotate_left; (intro w'; go_simp; with_reducible rfl); rotate_left; exact qa_
        refine pure_ (i := 5) (N := some 20) (v := ?_) (a' := ?_) b1_24 rfl rfl qh_ qi_ (Or.inl ⟨qr_, ?_⟩) ?_ ?_; rotate_left; (intro w'; go_simp; with_reducible rfl); rotate_left; exact qa_
        refine pure_ (i := 6) (N := some 21) (v := ?_) (a' := ?_) b1_25 rfl rfl qh_ qi_ (Or.inl ⟨qr_, ?_⟩) ?_ ?_; rotate_left; (intro w'; go_simp; with_reducible rfl); rotate_left; exact qa_
        refine take_ (i := 3) (N := some 18) (v := ?_) (a' := ?_) b1_26 rfl rfl (take_ofW HT_.out HW_.out (by kernel_rfl)) (fun _ _ _ h => h) (Or.inl ⟨by rfl, ?_⟩) hHeld ?_ ?_; rotate_left; (rintro w' ⟨s0, s1, s2, s3, s4, s5⟩; go_simp; with_reducible rfl); rotate_left; exact qa_
        refine take_ (i := 7) (N := some 22) (v := ?_) (a' := ?_) b1_27 rfl rfl (take_ofW HT_.out HW_.out (by kernel_rfl)) (fun _ _ _ h => h) (Or.inl ⟨by rfl, ?_⟩) hHeld ?_ ?_; rotate_left; (rintro w' ⟨s0, s1, s2, s3, s4, s5⟩; go_simp; with_reducible rfl); rotate_left; exact qa_
        refine one_ (i := 8) (N := some 23) b1_28 rfl rfl (one_of HT_.out (by kernel_rfl)) (by decide) (fun K hK => ?_)
        refine goes_ Tryd.func49 (by kernel_rfl) rfl #[.agg #[.int .i64 ((rd_T51 l0 x12_1).f0), .int .i64 ((rd_T51 l0 x12_1).f1), .string ((rd_T51 l0 x12_1).f2)], .agg #[.int .i64 ((rd_T51 l1 x12_1).f0), .int .i64 ((rd_T51 l1 x12_1).f1), .string ((rd_T51 l1 x12_1).f2)]] (by rfl) rfl rfl q2_ ?_
        with_reducible refine (value_Compare.calls k1 ((rd_T51 l0 x12_1).f0) ((rd_T51 l0 x12_1).f1) ((rd_T51 l0 x12_1).f2) ((rd_T51 l1 x12_1).f0) ((rd_T51 l1 x12_1).f1) ((rd_T51 l1 x12_1).f2) t123 _ A8.out).mono ?_
        rintro e w13 ⟨rfl, hb⟩
        refine ⟨_, rfl, ?_⟩
        have n0_ := Aside0.mk (below_step q0_ hb)
        clear HB
        have HB := n0_
        clear n0_
        (try clear hb)
        (try clear hb2)
        (try clear hk)
        (try clear hi)
        refine hK.out _ _ ⟨((HB.out.cell (World.block_lt_of_cell? w _ hw121_0)).trans hw121_0), ((HB.out.cell (World.block_lt_of_cell? w _ hw121_1)).trans hw121_1), ((HB.out.cell (World.block_lt_of_cell? w _ hw121_2)).trans hw121_2), ((HB.out.cell (World.block_lt_of_cell? w _ hw122_0)).trans hw122_0), ((HB.out.cell (World.block_lt_of_cell? w _ hw122_1)).trans hw122_1), ((HB.out.cell (World.block_lt_of_cell? w _ hw122_2)).trans hw122_2)⟩ (fun hHeld => ?_)
        clear hK K
        refine norm_ (a' := ?_) ?_ ?_
        rotate_left
        ·show Act.put _ (some 23) _ = _
         simp only [Act.put, List.setIfInBounds_toArray, List.set_cons_zero, List.set_cons_succ, i64_w, i32_w]
         rfl
        refine pure_ (i := 9) (N := some 6) (v := ?_) (a' := ?_) b1_29 rfl rfl qh_ qi_ (Or.inl ⟨qr_, ?_⟩) ?_ ?_; rotate_left; (intro w'; go_simp; with_reducible rfl); rotate_left; exact qa_
        refine done_ (done_of HT_.out (by kernel_rfl)) ?_
        try go_wp2
        go_ret
        exact ⟨by first | rfl | (simp [errW_none, errW_some] <;> rfl) | (simp only [← hji3]; first | rfl | (simp [errW_none, errW_some] <;> rfl)) | (simp [*, errW_none, errW_some] <;> rfl), q0_⟩
      ·rw [if_neg c7] at H
       exact absurd H (by simp)
     ·rw [if_neg c6] at H
      exact absurd H (by simp)
    ·rw [if_neg c5] at H
     exact absurd H (by simp)
   ·rw [if_neg c4] at H
    have c4b0 : decide (x12_1 < ji3) = false := decide_eq_false c4
    clear c4
    replace H := Option.bind_eq_some_iff.mp H
    obtain ⟨t120, A140, H⟩ := H
    replace H : (some t120) = some r := H
    have A14 := Aside0.mk A140
    clear A140
    obtain rfl := Option.some.inj H
    go_wp2_with (first | ((with_reducible refine gate_callee (f := 50) rfl ?_); refine goesL_ (some 32) rfl rfl Tryd.func50 (by kernel_rfl) rfl #[.int .i64 (l0.length : Int), .int .i64 (l1.length : Int)] rfl q2_ ?_; (with_reducible refine (cmp_Compare_int.calls (l0.length : Int) (l1.length : Int) t120 _ A14.out).mono ?_); rintro e w' ⟨rfl, ⟨nd, rfl⟩⟩; refine ⟨_, rfl, ?_⟩))
    go_ret
    exact ⟨by first | rfl | (simp [errW_none, errW_some] <;> rfl) | (simp only [← hji3]; first | rfl | (simp [errW_none, errW_some] <;> rfl)) | (simp [*, errW_none, errW_some] <;> rfl), q0_⟩

end Go.Proofs.YtckligjgnbgdiaaDoor.P
