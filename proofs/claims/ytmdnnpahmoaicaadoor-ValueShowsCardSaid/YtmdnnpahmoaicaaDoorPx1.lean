-- Written by our own program (wip/xprint) over the seat's translation. Lean checks it.
import Derived.Test.YtmdnnpahmoaicaaDoorPx0
namespace Go.Proofs.YtmdnnpahmoaicaaDoor.P
open Go.RowKit Go.Proofs.YtmdnnpahmoaicaaDoorW.PrintWords Go.Proofs.YtmdnnpahmoaicaaDoorW.PrintLast Go.Proofs.YtmdnnpahmoaicaaDoorW.PrintMore
attribute [local go_sem] max2_int min2_mn max_two min_two max_three min_three max_four min_four   -- for this text's walks alone
set_option linter.unusedVariables false
set_option linter.unusedSimpArgs false


theorem eqA23 (d : Nat) (w : World) (x0 y0 : Int) (x1 y1 : Int) (x2 y2 : ByteArray) :
    (Op.equalIn (d + 2) 23 (.agg #[.int .i64 x0, .int .i64 x1, .string x2]) (.agg #[.int .i64 y0, .int .i64 y1, .string y2])).run Tryd.prog w = .ok (x0 == y0 && (x1 == y1 && (x2.toList == y2.toList))) w := by
  refine eqA_of Tryd.underlying23 (by kernel_rfl) ?_
  refine eqf_cons (by rfl) (by go_simp; rfl) (by go_simp; rfl) (by go_simp) ?_
  refine eqf_cons (by rfl) (by go_simp; rfl) (by go_simp; rfl) (by go_simp) ?_
  exact eqf_last (by rfl) (by go_simp; rfl) (by go_simp; rfl) (by go_simp)

/-! ### utf8_ValidString: function 29 -/
-- SUPPLIED (wip/xprint)
/-- Is a text UTF-8? By the kit's contract (Lib.validD). -/
def utf8_ValidString.f (a0 : ByteArray) : Option (Bool) := if a0.size ≤ 9223372036854775807 then some (Go.Lib.validD a0.data.toList) else none
theorem utf8_ValidString.calls (a0 : ByteArray) (r : Bool) (w : World) (h : utf8_ValidString.f a0 = some r) (hG : Glob w) :
    Calls Tryd.prog 29 #[.string a0] w fun e w' => e = .returned (.bool r) ∧ Below w.heap.size w w' := by
  unfold utf8_ValidString.f at h
  split at h
  · rename_i hs
    obtain rfl := Option.some.inj h
    exact Any.utf8_ValidString Tryd.laysValid a0 w hs hG.u8
  · exact absurd h (by simp)


/-! ### value_Right: function 13 -/
def value_Right.f (a0_0 : Int) (a0_1 : Int) (a0_2 : ByteArray) : Option (Bool) := if a0_0 = 0 then (if a0_1 = 0 then (some (a0_2.toList == ([] : List UInt8))) else (some false)) else (if a0_0 = 1 then (if a0_1 = 0 then (some (a0_2.toList == ([] : List UInt8))) else (if a0_1 = 1 then (some (a0_2.toList == ([] : List UInt8))) else (some false))) else (if a0_0 = 2 then (some (a0_2.toList == ([] : List UInt8))) else (if a0_0 = 3 then (if a0_1 = 0 then (if (a0_2.size : Int) ≤ 64 then ((utf8_ValidString.f a0_2).bind fun t102 => (some t102)) else (some false)) else (some false)) else (if a0_0 = 4 then (if a0_1 = 0 then (some (decide ((a0_2.size : Int) ≤ 64))) else (some false)) else (some false)))))
set_option maxHeartbeats 8000000 in
set_option maxRecDepth 100000 in
theorem value_Right.calls (a0_0 : Int) (a0_1 : Int) (a0_2 : ByteArray) (r : Bool) (w : World) (h : value_Right.f a0_0 a0_1 a0_2 = some r) (hG : Glob w) :
    Calls Tryd.prog 13 #[.agg #[.int .i64 a0_0, .int .i64 a0_1, .string a0_2]] w fun e w' => e = .returned (.bool r) ∧ Below w.heap.size w w' := by
  have hu23 := Tryd.underlying23
  have HG := Aside0.mk hG
  clear hG
  have HB := Aside0.mk (Below.refl w.heap.size w)
  have H : (if a0_0 = 0 then (if a0_1 = 0 then (some (a0_2.toList == ([] : List UInt8))) else (some false)) else (if a0_0 = 1 then (if a0_1 = 0 then (some (a0_2.toList == ([] : List UInt8))) else (if a0_1 = 1 then (some (a0_2.toList == ([] : List UInt8))) else (some false))) else (if a0_0 = 2 then (some (a0_2.toList == ([] : List UInt8))) else (if a0_0 = 3 then (if a0_1 = 0 then (if (a0_2.size : Int) ≤ 64 then ((utf8_ValidString.f a0_2).bind fun t102 => (some t102)) else (some false)) else (some false)) else (if a0_0 = 4 then (if a0_1 = 0 then (some (decide ((a0_2.size : Int) ≤ 64))) else (some false)) else (some false)))))) = some r := h
  clear h
  by_cases c2 : a0_0 = 0
  · rw [if_pos c2] at H
    have c2b0 : (a0_0 == 0) = true := beq_iff_eq.mpr c2
    have c2b1 : (a0_0 != 0) = false := bne_eq_false_iff_eq.mpr c2
    clear c2
    by_cases c3 : a0_1 = 0
    · rw [if_pos c3] at H
      have c3b0 : (a0_1 == 0) = true := beq_iff_eq.mpr c3
      have c3b1 : (a0_1 != 0) = false := bne_eq_false_iff_eq.mpr c3
      clear c3
      obtain rfl := Option.some.inj H
      go_enter Tryd.func13, Tryd.ntmps13
      go_wp2_with (first | ((with_reducible refine gate_dst (N := 1) rfl ?_); (try (refine gate_guard (by rfl) ?_; dsimp only)); refine box_event ?hg (N := 1) ?hd (cs := #[.int .i64 a0_0, .int .i64 a0_1, .string a0_2]) (t := 23) ?hr ?_; (case hd => rfl); (case hg => rfl); (case hr => first | (go_simp; done) | (go_simp; rfl)); intro gb101 hg w4 hbox hb; have n0_ := Aside0.mk (below_step q0_ hb); have n1_ := Aside0.mk (hbox); have n2_ := Aside0.mk ((q1_ : w.heap.size ≤ gb101)); have n3_ := Aside0.mk ((q1_ : w.heap.size ≤ gb101)); clear HB; have HB := n0_; have BK101 := n1_; have GW101 := n2_; have GE101 := n3_; clear n0_ n1_ n2_ n3_; clear hb hbox hg; have hcz5_0 : w4.cell? ⟨gb101, 0, none⟩ = some (.int .i64 a0_0) := (blk_cell BK101.out 0).trans rfl; have hcz5_1 : w4.cell? ⟨gb101, 1, none⟩ = some (.int .i64 a0_1) := (blk_cell BK101.out 1).trans rfl; have hcz5_2 : w4.cell? ⟨gb101, 2, none⟩ = some (.string a0_2) := (blk_cell BK101.out 2).trans rfl; have hfz5_0 := blk_frozen BK101.out 0; have hfz5_1 := blk_frozen BK101.out 1; have hfz5_2 := blk_frozen BK101.out 2))
      go_ret
      exact ⟨q13_, q0_⟩
    · rw [if_neg c3] at H
      have c3b0 : (a0_1 == 0) = false := beq_eq_false_iff_ne.mpr c3
      have c3b1 : (a0_1 != 0) = true := bne_iff_ne.mpr c3
      obtain rfl := Option.some.inj H
      go_enter Tryd.func13, Tryd.ntmps13
      go_wp2_with (first | ((with_reducible refine gate_dst (N := 1) rfl ?_); (try (refine gate_guard (by rfl) ?_; dsimp only)); refine box_event ?hg (N := 1) ?hd (cs := #[.int .i64 a0_0, .int .i64 a0_1, .string a0_2]) (t := 23) ?hr ?_; (case hd => rfl); (case hg => rfl); (case hr => first | (go_simp; done) | (go_simp; rfl)); intro gb101 hg w6 hbox hb; have n0_ := Aside0.mk (below_step q0_ hb); have n1_ := Aside0.mk (hbox); have n2_ := Aside0.mk ((q1_ : w.heap.size ≤ gb101)); have n3_ := Aside0.mk ((q1_ : w.heap.size ≤ gb101)); clear HB; have HB := n0_; have BK101 := n1_; have GW101 := n2_; have GE101 := n3_; clear n0_ n1_ n2_ n3_; clear hb hbox hg; have hcz7_0 : w6.cell? ⟨gb101, 0, none⟩ = some (.int .i64 a0_0) := (blk_cell BK101.out 0).trans rfl; have hcz7_1 : w6.cell? ⟨gb101, 1, none⟩ = some (.int .i64 a0_1) := (blk_cell BK101.out 1).trans rfl; have hcz7_2 : w6.cell? ⟨gb101, 2, none⟩ = some (.string a0_2) := (blk_cell BK101.out 2).trans rfl; have hfz7_0 := blk_frozen BK101.out 0; have hfz7_1 := blk_frozen BK101.out 1; have hfz7_2 := blk_frozen BK101.out 2))
      go_ret
      exact ⟨q13_, q0_⟩
  · rw [if_neg c2] at H
    have c2b0 : (a0_0 == 0) = false := beq_eq_false_iff_ne.mpr c2
    have c2b1 : (a0_0 != 0) = true := bne_iff_ne.mpr c2
    by_cases c8 : a0_0 = 1
    · rw [if_pos c8] at H
      have c8b0 : (a0_0 == 1) = true := beq_iff_eq.mpr c8
      have c8b1 : (a0_0 != 1) = false := bne_eq_false_iff_eq.mpr c8
      clear c8
      by_cases c9 : a0_1 = 0
      · rw [if_pos c9] at H
        have c9b0 : (a0_1 == 0) = true := beq_iff_eq.mpr c9
        have c9b1 : (a0_1 != 0) = false := bne_eq_false_iff_eq.mpr c9
        clear c9
        obtain rfl := Option.some.inj H
        go_enter Tryd.func13, Tryd.ntmps13
        go_wp2_with (first | ((with_reducible refine gate_dst (N := 1) rfl ?_); (try (refine gate_guard (by rfl) ?_; dsimp only)); refine box_event ?hg (N := 1) ?hd (cs := #[.int .i64 a0_0, .int .i64 a0_1, .string a0_2]) (t := 23) ?hr ?_; (case hd => rfl); (case hg => rfl); (case hr => first | (go_simp; done) | (go_simp; rfl)); intro gb101 hg w10 hbox hb; have n0_ := Aside0.mk (below_step q0_ hb); have n1_ := Aside0.mk (hbox); have n2_ := Aside0.mk ((q1_ : w.heap.size ≤ gb101)); have n3_ := Aside0.mk ((q1_ : w.heap.size ≤ gb101)); clear HB; have HB := n0_; have BK101 := n1_; have GW101 := n2_; have GE101 := n3_; clear n0_ n1_ n2_ n3_; clear hb hbox hg; have hcz11_0 : w10.cell? ⟨gb101, 0, none⟩ = some (.int .i64 a0_0) := (blk_cell BK101.out 0).trans rfl; have hcz11_1 : w10.cell? ⟨gb101, 1, none⟩ = some (.int .i64 a0_1) := (blk_cell BK101.out 1).trans rfl; have hcz11_2 : w10.cell? ⟨gb101, 2, none⟩ = some (.string a0_2) := (blk_cell BK101.out 2).trans rfl; have hfz11_0 := blk_frozen BK101.out 0; have hfz11_1 := blk_frozen BK101.out 1; have hfz11_2 := blk_frozen BK101.out 2))
        go_ret
        exact ⟨q13_, q0_⟩
      · rw [if_neg c9] at H
        have c9b0 : (a0_1 == 0) = false := beq_eq_false_iff_ne.mpr c9
        have c9b1 : (a0_1 != 0) = true := bne_iff_ne.mpr c9
        by_cases c12 : a0_1 = 1
        · rw [if_pos c12] at H
          have c12b0 : (a0_1 == 1) = true := beq_iff_eq.mpr c12
          have c12b1 : (a0_1 != 1) = false := bne_eq_false_iff_eq.mpr c12
          clear c12
          obtain rfl := Option.some.inj H
          go_enter Tryd.func13, Tryd.ntmps13
          go_wp2_with (first | ((with_reducible refine gate_dst (N := 1) rfl ?_); (try (refine gate_guard (by rfl) ?_; dsimp only)); refine box_event ?hg (N := 1) ?hd (cs := #[.int .i64 a0_0, .int .i64 a0_1, .string a0_2]) (t := 23) ?hr ?_; (case hd => rfl); (case hg => rfl); (case hr => first | (go_simp; done) | (go_simp; rfl)); intro gb101 hg w13 hbox hb; have n0_ := Aside0.mk (below_step q0_ hb); have n1_ := Aside0.mk (hbox); have n2_ := Aside0.mk ((q1_ : w.heap.size ≤ gb101)); have n3_ := Aside0.mk ((q1_ : w.heap.size ≤ gb101)); clear HB; have HB := n0_; have BK101 := n1_; have GW101 := n2_; have GE101 := n3_; clear n0_ n1_ n2_ n3_; clear hb hbox hg; have hcz14_0 : w13.cell? ⟨gb101, 0, none⟩ = some (.int .i64 a0_0) := (blk_cell BK101.out 0).trans rfl; have hcz14_1 : w13.cell? ⟨gb101, 1, none⟩ = some (.int .i64 a0_1) := (blk_cell BK101.out 1).trans rfl; have hcz14_2 : w13.cell? ⟨gb101, 2, none⟩ = some (.string a0_2) := (blk_cell BK101.out 2).trans rfl; have hfz14_0 := blk_frozen BK101.out 0; have hfz14_1 := blk_frozen BK101.out 1; have hfz14_2 := blk_frozen BK101.out 2))
          go_ret
          exact ⟨q13_, q0_⟩
        · rw [if_neg c12] at H
          have c12b0 : (a0_1 == 1) = false := beq_eq_false_iff_ne.mpr c12
          have c12b1 : (a0_1 != 1) = true := bne_iff_ne.mpr c12
          obtain rfl := Option.some.inj H
          go_enter Tryd.func13, Tryd.ntmps13
          go_wp2_with (first | ((with_reducible refine gate_dst (N := 1) rfl ?_); (try (refine gate_guard (by rfl) ?_; dsimp only)); refine box_event ?hg (N := 1) ?hd (cs := #[.int .i64 a0_0, .int .i64 a0_1, .string a0_2]) (t := 23) ?hr ?_; (case hd => rfl); (case hg => rfl); (case hr => first | (go_simp; done) | (go_simp; rfl)); intro gb101 hg w15 hbox hb; have n0_ := Aside0.mk (below_step q0_ hb); have n1_ := Aside0.mk (hbox); have n2_ := Aside0.mk ((q1_ : w.heap.size ≤ gb101)); have n3_ := Aside0.mk ((q1_ : w.heap.size ≤ gb101)); clear HB; have HB := n0_; have BK101 := n1_; have GW101 := n2_; have GE101 := n3_; clear n0_ n1_ n2_ n3_; clear hb hbox hg; have hcz16_0 : w15.cell? ⟨gb101, 0, none⟩ = some (.int .i64 a0_0) := (blk_cell BK101.out 0).trans rfl; have hcz16_1 : w15.cell? ⟨gb101, 1, none⟩ = some (.int .i64 a0_1) := (blk_cell BK101.out 1).trans rfl; have hcz16_2 : w15.cell? ⟨gb101, 2, none⟩ = some (.string a0_2) := (blk_cell BK101.out 2).trans rfl; have hfz16_0 := blk_frozen BK101.out 0; have hfz16_1 := blk_frozen BK101.out 1; have hfz16_2 := blk_frozen BK101.out 2))
          go_ret
          exact ⟨q13_, q0_⟩
    · rw [if_neg c8] at H
      have c8b0 : (a0_0 == 1) = false := beq_eq_false_iff_ne.mpr c8
      have c8b1 : (a0_0 != 1) = true := bne_iff_ne.mpr c8
      by_cases c17 : a0_0 = 2
      · rw [if_pos c17] at H
        have c17b0 : (a0_0 == 2) = true := beq_iff_eq.mpr c17
        have c17b1 : (a0_0 != 2) = false := bne_eq_false_iff_eq.mpr c17
        clear c17
        obtain rfl := Option.some.inj H
        go_enter Tryd.func13, Tryd.ntmps13
        go_wp2_with (first | ((with_reducible refine gate_dst (N := 1) rfl ?_); (try (refine gate_guard (by rfl) ?_; dsimp only)); refine box_event ?hg (N := 1) ?hd (cs := #[.int .i64 a0_0, .int .i64 a0_1, .string a0_2]) (t := 23) ?hr ?_; (case hd => rfl); (case hg => rfl); (case hr => first | (go_simp; done) | (go_simp; rfl)); intro gb101 hg w18 hbox hb; have n0_ := Aside0.mk (below_step q0_ hb); have n1_ := Aside0.mk (hbox); have n2_ := Aside0.mk ((q1_ : w.heap.size ≤ gb101)); have n3_ := Aside0.mk ((q1_ : w.heap.size ≤ gb101)); clear HB; have HB := n0_; have BK101 := n1_; have GW101 := n2_; have GE101 := n3_; clear n0_ n1_ n2_ n3_; clear hb hbox hg; have hcz19_0 : w18.cell? ⟨gb101, 0, none⟩ = some (.int .i64 a0_0) := (blk_cell BK101.out 0).trans rfl; have hcz19_1 : w18.cell? ⟨gb101, 1, none⟩ = some (.int .i64 a0_1) := (blk_cell BK101.out 1).trans rfl; have hcz19_2 : w18.cell? ⟨gb101, 2, none⟩ = some (.string a0_2) := (blk_cell BK101.out 2).trans rfl; have hfz19_0 := blk_frozen BK101.out 0; have hfz19_1 := blk_frozen BK101.out 1; have hfz19_2 := blk_frozen BK101.out 2))
        go_ret
        exact ⟨q13_, q0_⟩
      · rw [if_neg c17] at H
        have c17b0 : (a0_0 == 2) = false := beq_eq_false_iff_ne.mpr c17
        have c17b1 : (a0_0 != 2) = true := bne_iff_ne.mpr c17
        by_cases c20 : a0_0 = 3
        · rw [if_pos c20] at H
          have c20b0 : (a0_0 == 3) = true := beq_iff_eq.mpr c20
          have c20b1 : (a0_0 != 3) = false := bne_eq_false_iff_eq.mpr c20
          clear c20
          by_cases c21 : a0_1 = 0
          · rw [if_pos c21] at H
            have c21b0 : (a0_1 == 0) = true := beq_iff_eq.mpr c21
            have c21b1 : (a0_1 != 0) = false := bne_eq_false_iff_eq.mpr c21
            clear c21
            by_cases c22 : (a0_2.size : Int) ≤ 64
            · rw [if_pos c22] at H
              have c22b0 : decide ((a0_2.size : Int) ≤ 64) = true := decide_eq_true c22
              have c22b1 : decide (a0_2.size ≤ 64) = true := decide_eq_true (by omega)
              clear c22
              replace H := Option.bind_eq_some_iff.mp H
              obtain ⟨t102, A230, H⟩ := H
              replace H : (some t102) = some r := H
              have A23 := Aside0.mk A230
              clear A230
              obtain rfl := Option.some.inj H
              go_enter Tryd.func13, Tryd.ntmps13
              go_wp2_with (first | ((with_reducible refine gate_dst (N := 1) rfl ?_); (try (refine gate_guard (by rfl) ?_; dsimp only)); refine box_event ?hg (N := 1) ?hd (cs := #[.int .i64 a0_0, .int .i64 a0_1, .string a0_2]) (t := 23) ?hr ?_; (case hd => rfl); (case hg => rfl); (case hr => first | (go_simp; done) | (go_simp; rfl)); intro gb101 hg w24 hbox hb; have n0_ := Aside0.mk (below_step q0_ hb); have n1_ := Aside0.mk (hbox); have n2_ := Aside0.mk ((q1_ : w.heap.size ≤ gb101)); have n3_ := Aside0.mk ((q1_ : w.heap.size ≤ gb101)); clear HB; have HB := n0_; have BK101 := n1_; have GW101 := n2_; have GE101 := n3_; clear n0_ n1_ n2_ n3_; clear hb hbox hg; have hcz25_0 : w24.cell? ⟨gb101, 0, none⟩ = some (.int .i64 a0_0) := (blk_cell BK101.out 0).trans rfl; have hcz25_1 : w24.cell? ⟨gb101, 1, none⟩ = some (.int .i64 a0_1) := (blk_cell BK101.out 1).trans rfl; have hcz25_2 : w24.cell? ⟨gb101, 2, none⟩ = some (.string a0_2) := (blk_cell BK101.out 2).trans rfl; have hfz25_0 := blk_frozen BK101.out 0; have hfz25_1 := blk_frozen BK101.out 1; have hfz25_2 := blk_frozen BK101.out 2) | (go_at_call 29; (with_reducible refine (utf8_ValidString.calls a0_2 t102 _ A23.out (by first | exact HG.out | (refine Glob.below HG.out ?_; (repeat (first | (with_reducible first | exact HB.out | apply below_alloc | apply pw_below_drewN | apply below_drew1 | refine below_set ?_ GE101.out) | exact HB.out))) | (repeat (first | exact HG.out | apply Glob.drewN | apply Glob.drew | apply Glob.alloc)))).mono ?_); rintro e w26 ⟨rfl, hb⟩; have n0_ := Aside0.mk (blk_below (g := gb101) (o := .cells #[.int .i64 a0_0, .int .i64 a0_1, .string a0_2] 23 (0, 0)) (by (with_reducible repeat first | apply bN_ | apply bD_ | apply bA_); exact BK101.out) hb); have n1_ := Aside0.mk (below_step q0_ hb); clear BK101; clear HB; have BK101 := n0_; have HB := n1_; clear n0_ n1_; (try clear hb); (try clear hb2); (try clear hk); (try clear hi)))
              go_ret
              exact ⟨q13_, q0_⟩
            · rw [if_neg c22] at H
              have c22b0 : decide ((a0_2.size : Int) ≤ 64) = false := decide_eq_false c22
              have c22b1 : decide (a0_2.size ≤ 64) = false := decide_eq_false (by omega)
              clear c22
              obtain rfl := Option.some.inj H
              go_enter Tryd.func13, Tryd.ntmps13
              go_wp2_with (first | ((with_reducible refine gate_dst (N := 1) rfl ?_); (try (refine gate_guard (by rfl) ?_; dsimp only)); refine box_event ?hg (N := 1) ?hd (cs := #[.int .i64 a0_0, .int .i64 a0_1, .string a0_2]) (t := 23) ?hr ?_; (case hd => rfl); (case hg => rfl); (case hr => first | (go_simp; done) | (go_simp; rfl)); intro gb101 hg w27 hbox hb; have n0_ := Aside0.mk (below_step q0_ hb); have n1_ := Aside0.mk (hbox); have n2_ := Aside0.mk ((q1_ : w.heap.size ≤ gb101)); have n3_ := Aside0.mk ((q1_ : w.heap.size ≤ gb101)); clear HB; have HB := n0_; have BK101 := n1_; have GW101 := n2_; have GE101 := n3_; clear n0_ n1_ n2_ n3_; clear hb hbox hg; have hcz28_0 : w27.cell? ⟨gb101, 0, none⟩ = some (.int .i64 a0_0) := (blk_cell BK101.out 0).trans rfl; have hcz28_1 : w27.cell? ⟨gb101, 1, none⟩ = some (.int .i64 a0_1) := (blk_cell BK101.out 1).trans rfl; have hcz28_2 : w27.cell? ⟨gb101, 2, none⟩ = some (.string a0_2) := (blk_cell BK101.out 2).trans rfl; have hfz28_0 := blk_frozen BK101.out 0; have hfz28_1 := blk_frozen BK101.out 1; have hfz28_2 := blk_frozen BK101.out 2))
              go_ret
              exact ⟨q13_, q0_⟩
          · rw [if_neg c21] at H
            have c21b0 : (a0_1 == 0) = false := beq_eq_false_iff_ne.mpr c21
            have c21b1 : (a0_1 != 0) = true := bne_iff_ne.mpr c21
            obtain rfl := Option.some.inj H
            go_enter Tryd.func13, Tryd.ntmps13
            go_wp2_with (first | ((with_reducible refine gate_dst (N := 1) rfl ?_); (try (refine gate_guard (by rfl) ?_; dsimp only)); refine box_event ?hg (N := 1) ?hd (cs := #[.int .i64 a0_0, .int .i64 a0_1, .string a0_2]) (t := 23) ?hr ?_; (case hd => rfl); (case hg => rfl); (case hr => first | (go_simp; done) | (go_simp; rfl)); intro gb101 hg w29 hbox hb; have n0_ := Aside0.mk (below_step q0_ hb); have n1_ := Aside0.mk (hbox); have n2_ := Aside0.mk ((q1_ : w.heap.size ≤ gb101)); have n3_ := Aside0.mk ((q1_ : w.heap.size ≤ gb101)); clear HB; have HB := n0_; have BK101 := n1_; have GW101 := n2_; have GE101 := n3_; clear n0_ n1_ n2_ n3_; clear hb hbox hg; have hcz30_0 : w29.cell? ⟨gb101, 0, none⟩ = some (.int .i64 a0_0) := (blk_cell BK101.out 0).trans rfl; have hcz30_1 : w29.cell? ⟨gb101, 1, none⟩ = some (.int .i64 a0_1) := (blk_cell BK101.out 1).trans rfl; have hcz30_2 : w29.cell? ⟨gb101, 2, none⟩ = some (.string a0_2) := (blk_cell BK101.out 2).trans rfl; have hfz30_0 := blk_frozen BK101.out 0; have hfz30_1 := blk_frozen BK101.out 1; have hfz30_2 := blk_frozen BK101.out 2))
            go_ret
            exact ⟨q13_, q0_⟩
        · rw [if_neg c20] at H
          have c20b0 : (a0_0 == 3) = false := beq_eq_false_iff_ne.mpr c20
          have c20b1 : (a0_0 != 3) = true := bne_iff_ne.mpr c20
          by_cases c31 : a0_0 = 4
          · rw [if_pos c31] at H
            have c31b0 : (a0_0 == 4) = true := beq_iff_eq.mpr c31
            have c31b1 : (a0_0 != 4) = false := bne_eq_false_iff_eq.mpr c31
            clear c31
            by_cases c32 : a0_1 = 0
            · rw [if_pos c32] at H
              have c32b0 : (a0_1 == 0) = true := beq_iff_eq.mpr c32
              have c32b1 : (a0_1 != 0) = false := bne_eq_false_iff_eq.mpr c32
              clear c32
              obtain rfl := Option.some.inj H
              go_enter Tryd.func13, Tryd.ntmps13
              go_wp2_with (first | ((with_reducible refine gate_dst (N := 1) rfl ?_); (try (refine gate_guard (by rfl) ?_; dsimp only)); refine box_event ?hg (N := 1) ?hd (cs := #[.int .i64 a0_0, .int .i64 a0_1, .string a0_2]) (t := 23) ?hr ?_; (case hd => rfl); (case hg => rfl); (case hr => first | (go_simp; done) | (go_simp; rfl)); intro gb101 hg w33 hbox hb; have n0_ := Aside0.mk (below_step q0_ hb); have n1_ := Aside0.mk (hbox); have n2_ := Aside0.mk ((q1_ : w.heap.size ≤ gb101)); have n3_ := Aside0.mk ((q1_ : w.heap.size ≤ gb101)); clear HB; have HB := n0_; have BK101 := n1_; have GW101 := n2_; have GE101 := n3_; clear n0_ n1_ n2_ n3_; clear hb hbox hg; have hcz34_0 : w33.cell? ⟨gb101, 0, none⟩ = some (.int .i64 a0_0) := (blk_cell BK101.out 0).trans rfl; have hcz34_1 : w33.cell? ⟨gb101, 1, none⟩ = some (.int .i64 a0_1) := (blk_cell BK101.out 1).trans rfl; have hcz34_2 : w33.cell? ⟨gb101, 2, none⟩ = some (.string a0_2) := (blk_cell BK101.out 2).trans rfl; have hfz34_0 := blk_frozen BK101.out 0; have hfz34_1 := blk_frozen BK101.out 1; have hfz34_2 := blk_frozen BK101.out 2))
              go_ret
              exact ⟨q13_, q0_⟩
            · rw [if_neg c32] at H
              have c32b0 : (a0_1 == 0) = false := beq_eq_false_iff_ne.mpr c32
              have c32b1 : (a0_1 != 0) = true := bne_iff_ne.mpr c32
              obtain rfl := Option.some.inj H
              go_enter Tryd.func13, Tryd.ntmps13
              go_wp2_with (first | ((with_reducible refine gate_dst (N := 1) rfl ?_); (try (refine gate_guard (by rfl) ?_; dsimp only)); refine box_event ?hg (N := 1) ?hd (cs := #[.int .i64 a0_0, .int .i64 a0_1, .string a0_2]) (t := 23) ?hr ?_; (case hd => rfl); (case hg => rfl); (case hr => first | (go_simp; done) | (go_simp; rfl)); intro gb101 hg w35 hbox hb; have n0_ := Aside0.mk (below_step q0_ hb); have n1_ := Aside0.mk (hbox); have n2_ := Aside0.mk ((q1_ : w.heap.size ≤ gb101)); have n3_ := Aside0.mk ((q1_ : w.heap.size ≤ gb101)); clear HB; have HB := n0_; have BK101 := n1_; have GW101 := n2_; have GE101 := n3_; clear n0_ n1_ n2_ n3_; clear hb hbox hg; have hcz36_0 : w35.cell? ⟨gb101, 0, none⟩ = some (.int .i64 a0_0) := (blk_cell BK101.out 0).trans rfl; have hcz36_1 : w35.cell? ⟨gb101, 1, none⟩ = some (.int .i64 a0_1) := (blk_cell BK101.out 1).trans rfl; have hcz36_2 : w35.cell? ⟨gb101, 2, none⟩ = some (.string a0_2) := (blk_cell BK101.out 2).trans rfl; have hfz36_0 := blk_frozen BK101.out 0; have hfz36_1 := blk_frozen BK101.out 1; have hfz36_2 := blk_frozen BK101.out 2))
              go_ret
              exact ⟨q13_, q0_⟩
          · rw [if_neg c31] at H
            have c31b0 : (a0_0 == 4) = false := beq_eq_false_iff_ne.mpr c31
            have c31b1 : (a0_0 != 4) = true := bne_iff_ne.mpr c31
            obtain rfl := Option.some.inj H
            go_enter Tryd.func13, Tryd.ntmps13
            go_wp2_with (first | ((with_reducible refine gate_dst (N := 1) rfl ?_); (try (refine gate_guard (by rfl) ?_; dsimp only)); refine box_event ?hg (N := 1) ?hd (cs := #[.int .i64 a0_0, .int .i64 a0_1, .string a0_2]) (t := 23) ?hr ?_; (case hd => rfl); (case hg => rfl); (case hr => first | (go_simp; done) | (go_simp; rfl)); intro gb101 hg w37 hbox hb; have n0_ := Aside0.mk (below_step q0_ hb); have n1_ := Aside0.mk (hbox); have n2_ := Aside0.mk ((q1_ : w.heap.size ≤ gb101)); have n3_ := Aside0.mk ((q1_ : w.heap.size ≤ gb101)); clear HB; have HB := n0_; have BK101 := n1_; have GW101 := n2_; have GE101 := n3_; clear n0_ n1_ n2_ n3_; clear hb hbox hg; have hcz38_0 : w37.cell? ⟨gb101, 0, none⟩ = some (.int .i64 a0_0) := (blk_cell BK101.out 0).trans rfl; have hcz38_1 : w37.cell? ⟨gb101, 1, none⟩ = some (.int .i64 a0_1) := (blk_cell BK101.out 1).trans rfl; have hcz38_2 : w37.cell? ⟨gb101, 2, none⟩ = some (.string a0_2) := (blk_cell BK101.out 2).trans rfl; have hfz38_0 := blk_frozen BK101.out 0; have hfz38_1 := blk_frozen BK101.out 1; have hfz38_2 := blk_frozen BK101.out 2))
            go_ret
            exact ⟨q13_, q0_⟩


/-! ### strconv_FormatBool_47: function 47 -/
def strconv_FormatBool_47.f (a0 : Bool) : Option (ByteArray) := if a0 = true then (some (⟨#[116, 114, 117, 101]⟩ : ByteArray)) else (some (⟨#[102, 97, 108, 115, 101]⟩ : ByteArray))
set_option maxHeartbeats 8000000 in
set_option maxRecDepth 100000 in
theorem strconv_FormatBool_47.calls (a0 : Bool) (r : ByteArray) (w : World) (h : strconv_FormatBool_47.f a0 = some r) :
    Calls Tryd.prog 47 #[.bool a0] w fun e w' => e = .returned (.string r) ∧ Drawn0 w w' := by
  have H : (if a0 = true then (some (⟨#[116, 114, 117, 101]⟩ : ByteArray)) else (some (⟨#[102, 97, 108, 115, 101]⟩ : ByteArray))) = some r := h
  clear h
  by_cases c2 : a0 = true
  · subst c2
    replace H := ifT_ H
    obtain rfl := Option.some.inj H
    go_enter Tryd.func47, Tryd.ntmps47
    go_wp2
    go_ret
    exact ⟨q20_, q24_⟩
  · replace c2 := Bool.eq_false_iff.mpr c2
    subst c2
    replace H := ifF_ H
    obtain rfl := Option.some.inj H
    go_enter Tryd.func47, Tryd.ntmps47
    go_wp2
    go_ret
    exact ⟨q20_, q24_⟩


/-! ### strconv_FormatBool_30: function 30 -/
def strconv_FormatBool_30.f (a0 : Bool) : Option (ByteArray) := (strconv_FormatBool_47.f a0).bind fun t103 => (some t103)
set_option maxHeartbeats 8000000 in
set_option maxRecDepth 100000 in
theorem strconv_FormatBool_30.calls (a0 : Bool) (r : ByteArray) (w : World) (h : strconv_FormatBool_30.f a0 = some r) :
    Calls Tryd.prog 30 #[.bool a0] w fun e w' => e = .returned (.string r) ∧ Drawn0 w w' := by
  have H : ((strconv_FormatBool_47.f a0).bind fun t103 => (some t103)) = some r := h
  clear h
  replace H := Option.bind_eq_some_iff.mp H
  obtain ⟨t103, A20, H⟩ := H
  replace H : (some t103) = some r := H
  have A2 := Aside0.mk A20
  clear A20
  obtain rfl := Option.some.inj H
  go_enter Tryd.func30, Tryd.ntmps30
  go_wp2_with (first | ((with_reducible refine gate_callee (f := 47) rfl ?_); refine goesL_ (some 4) rfl rfl Tryd.func47 (by kernel_rfl) rfl #[.bool a0] rfl q2_ ?_; (with_reducible refine (strconv_FormatBool_47.calls a0 t103 _ A2.out).mono ?_); rintro e w' ⟨rfl, ⟨nd, rfl⟩⟩; refine ⟨_, rfl, ?_⟩))
  go_ret
  exact ⟨q20_, q24_⟩


/-! ### strconv_Itoa_31: function 31 -/
-- SUPPLIED (wip/xprint)
/-- A number's decimal numeral. By the kit's contract (Lib.itoa). -/
def strconv_Itoa_31.f (a0 : Int) : Option (ByteArray) := if -9223372036854775808 ≤ a0 ∧ a0 ≤ 9223372036854775807 then some ⟨(Go.Lib.itoa a0).toArray⟩ else none
theorem strconv_Itoa_31.calls (a0 : Int) (r : ByteArray) (w : World) (h : strconv_Itoa_31.f a0 = some r) (hG : Glob w) :
    Calls Tryd.prog 31 #[.int .i64 a0] w fun e w' => e = .returned (.string r) ∧ Below w.heap.size w w' := by
  unfold strconv_Itoa_31.f at h
  split at h
  · rename_i hs
    obtain rfl := Option.some.inj h
    refine (Any.strconv_Itoa { Tryd.laysItoa with } a0 hs.1 hs.2 w hG.pow10).mono ?_
    rintro e w' ⟨rfl, k, os, rfl⟩
    exact ⟨rfl, rfl, rfl, rfl, (by show w.heap.size ≤ (w.heap ++ os).size; rw [Array.size_append]; omega), fun j hj => (show (w.heap ++ os)[j]? = w.heap[j]? from Array.getElem?_append_left hj)⟩
  · exact absurd h (by simp)


/-! ### strings_ReplaceAll: function 32 -/
-- SUPPLIED (wip/xprint)
/-- Each place of a text in a text replaced. By the kit's contract (Lib.replaceAll). -/
def strings_ReplaceAll.f (a0 : ByteArray) (a1 : ByteArray) (a2 : ByteArray) : Option (ByteArray) := if a0.size < 1000000 ∧ 1 ≤ a1.size ∧ a0.size + Go.Lib.countB a0 a1 * a2.size ≤ 1000000 then some ⟨(Go.Lib.replaceAll a0.data.toList a1.data.toList a2.data.toList).toArray⟩ else none
theorem strings_ReplaceAll.calls (a0 : ByteArray) (a1 : ByteArray) (a2 : ByteArray) (r : ByteArray) (w : World) (h : strings_ReplaceAll.f a0 a1 a2 = some r) (hG : Glob w) :
    Calls Tryd.prog 32 #[.string a0, .string a1, .string a2] w fun e w' => e = .returned (.string r) ∧ Below w.heap.size w w' := by
  unfold strings_ReplaceAll.f at h
  split at h
  · rename_i hs
    obtain rfl := Option.some.inj h
    obtain ⟨m, hm⟩ := hG.maxlen
    exact Any.strings_ReplaceAll { Tryd.laysReplace with } Tryd.extraReplace a0 a1 a2 m w (by omega) hm hs.2.1 (by omega)
  · exact absurd h (by simp)


/-! ### value_Show: function 15 -/
def hxTab : List UInt8 := [48, 49, 50, 51, 52, 53, 54, 55, 56, 57, 97, 98, 99, 100, 101, 102]
def hxd (n : Nat) : UInt8 := hxTab.getD n 0
def hexL : List UInt8 → List UInt8
  | [] => []
  | c :: l => hxd (c.toNat / 16) :: hxd (c.toNat % 16) :: hexL l
def show_bytes (s : ByteArray) : Option ByteArray := if s.size ≤ 1000000 then some (((⟨#[120, 39]⟩ : ByteArray) ++ (⟨(hexL s.data.toList).toArray⟩ : ByteArray)) ++ (⟨#[39]⟩ : ByteArray)) else none
theorem hexL_append : ∀ (a b : List UInt8), hexL (a ++ b) = hexL a ++ hexL b
  | [], _ => rfl
  | c :: a, b => by simp [hexL, hexL_append a b]
theorem hexL_length : ∀ a : List UInt8, (hexL a).length = 2 * a.length
  | [] => rfl
  | c :: a => by simp [hexL, hexL_length a]; omega
theorem hexL_take {l : List UInt8} {k : Nat} (h : k < l.length) : hexL (l.take (k + 1)) = hexL (l.take k) ++ [hxd (l[k].toNat / 16), hxd (l[k].toNat % 16)] := by
  rw [List.take_succ_eq_append_getElem h, hexL_append]; rfl
theorem hxd_at {n : Nat} (h : n < 16) : (((⟨#[48, 49, 50, 51, 52, 53, 54, 55, 56, 57, 97, 98, 99, 100, 101, 102]⟩ : ByteArray)[n]'h).toNat : Int) = ((hxd n).toNat : Int) := by
  have key : ∀ m : Fin 16, ((⟨#[48, 49, 50, 51, 52, 53, 54, 55, 56, 57, 97, 98, 99, 100, 101, 102]⟩ : ByteArray)[m.val]'m.isLt) = hxd m.val := by decide +kernel
  rw [key ⟨n, h⟩]
set_option maxHeartbeats 8000000 in
set_option maxRecDepth 100000 in
theorem show_bytes.calls (a0_1 : Int) (a0_2 : ByteArray) (r : ByteArray) (w : World) (hr : value_Right.f 4 a0_1 a0_2 = some true) (h : show_bytes a0_2 = some r) (hG : Glob w) :
    Calls Tryd.prog 15 #[.agg #[.int .i64 4, .int .i64 a0_1, .string a0_2]] w fun e w' => e = .returned (.string r) ∧ Below w.heap.size w w' := by
  have hu23 := Tryd.underlying23
  have HG := Aside0.mk hG
  clear hG
  have HB := Aside0.mk (Below.refl w.heap.size w)
  unfold show_bytes at h
  split at h
  case isFalse => cases h
  rename_i hsz
  have A2 := Aside0.mk hr
  clear hr
  have HR := Aside0.mk (Option.some.inj h)
  clear h
  go_enter Tryd.func15, Tryd.ntmps15
  go_upto_region 12 with (first | ((with_reducible refine gate_dst (N := 1) rfl ?_); refine box_event ?hg (N := 1) ?hd (cs := #[.int .i64 4, .int .i64 a0_1, .string a0_2]) (t := 23) ?hr ?_; (case hd => rfl); (case hg => rfl); (case hr => first | (go_simp; done) | (go_simp; rfl)); intro gb125 hg w21 hbox hb; have n0_ := Aside0.mk (below_step q0_ hb); have n1_ := Aside0.mk (hbox); have n2_ := Aside0.mk ((q1_ : w.heap.size ≤ gb125)); have n3_ := Aside0.mk ((q1_ : w.heap.size ≤ gb125)); clear HB; have HB := n0_; have BK125 := n1_; have GW125 := n2_; have GE125 := n3_; clear n0_ n1_ n2_ n3_; clear hb hbox hg; have hcz22_0 : w21.cell? ⟨gb125, 0, none⟩ = some (.int .i64 4) := (blk_cell BK125.out 0).trans rfl; have hcz22_1 : w21.cell? ⟨gb125, 1, none⟩ = some (.int .i64 a0_1) := (blk_cell BK125.out 1).trans rfl; have hcz22_2 : w21.cell? ⟨gb125, 2, none⟩ = some (.string a0_2) := (blk_cell BK125.out 2).trans rfl; have hfz22_0 := blk_frozen BK125.out 0; have hfz22_1 := blk_frozen BK125.out 1; have hfz22_2 := blk_frozen BK125.out 2) | ((with_reducible refine gate_callee (f := 13) rfl ?_); refine goesL_ (some 6) rfl rfl Tryd.func13 (by kernel_rfl) rfl #[.agg #[.int .i64 4, .int .i64 a0_1, .string a0_2]] rfl q2_ ?_; (with_reducible refine (value_Right.calls 4 a0_1 a0_2 true _ A2.out q96_).mono ?_); rintro e w23 ⟨rfl, hb⟩; refine ⟨_, rfl, ?_⟩; have n0_ := Aside0.mk (blk_below (g := gb125) (o := .cells #[.int .i64 4, .int .i64 a0_1, .string a0_2] 23 (0, 0)) q166_ hb); have n1_ := Aside0.mk (below_step q0_ hb); clear BK125; clear HB; have BK125 := n0_; have HB := n1_; clear n0_ n1_; (try clear hb); (try clear hb2); (try clear hk); (try clear hi); have hcz24_0 : w23.cell? ⟨gb125, 0, none⟩ = some (.int .i64 4) := (blk_cell BK125.out 0).trans rfl; have hcz24_1 : w23.cell? ⟨gb125, 1, none⟩ = some (.int .i64 a0_1) := (blk_cell BK125.out 1).trans rfl; have hcz24_2 : w23.cell? ⟨gb125, 2, none⟩ = some (.string a0_2) := (blk_cell BK125.out 2).trans rfl; have hfz24_0 := blk_frozen BK125.out 0; have hfz24_1 := blk_frozen BK125.out 1; have hfz24_2 := blk_frozen BK125.out 2))
  have hgl : gb125 < w23.heap.size := World.block_lt_of_cell? w23 _ hcz24_2
  have HI := Aside0.mk (Go.Lib.fresh_isBuilder 48 5 w23)
  have HW := Aside0.mk ((Below.refl w23.heap.size w23).alloc (Nat.le_refl _) (Obj.cells #[Value.pointer none, Value.slice none 0 0] 48))
  generalize hwz : w23.alloc (Obj.cells #[Value.pointer none, Value.slice none 0 0] 48) = wz at HI HW ⊢
  clear hwz
  have hcz : wz.cell? ⟨gb125, 2, none⟩ = some (.string a0_2) := (HW.out.cell hgl).trans hcz24_2
  clear hcz22_0 hcz22_1 hcz22_2 hfz22_0 hfz22_1 hfz22_2
  go_wp2
  go_loopw [33] (fun i wr => ∃ k : Nat, k ≤ a0_2.size ∧ i = .int .i64 k ∧ Aside0 (Go.Lib.IsBuilder 48 5 w23.heap.size w23.heap.size (Go.Lib.byteCells (hexL (a0_2.data.toList.take k))) wr) ∧ Aside0 (Below w23.heap.size w23 wr)) (fun i _ => a0_2.size - (intOf i).toNat)
  case atStart => exact ⟨0, Nat.zero_le _, rfl, HI, HW⟩
  case round =>
    obtain ⟨k, hk, rfl, HB2, HW2⟩ := hrel
    have hcz3 : wr.cell? ⟨gb125, 2, none⟩ = some (.string a0_2) := (HW2.out.cell hgl).trans hcz24_2
    by_cases hlt : k < a0_2.size
    · have hc16 : ((a0_2[k]'hlt).toNat : Int) / 16 < 16 := by have := (a0_2[k]'hlt).toNat_lt; omega
      have hc16n : (a0_2[k]'hlt).toNat / 16 < 16 := by have := (a0_2[k]'hlt).toNat_lt; omega
      have hd16n : (a0_2[k]'hlt).toNat % 16 < 16 := Nat.mod_lt _ (by omega)
      have hBw : w23.heap.size ≤ wr.heap.size := HW2.out.size
      have hlk : (Go.Lib.byteCells (hexL (a0_2.data.toList.take k))).length = 2 * k := by
        rw [Go.Lib.byteCells_length, hexL_length, List.length_take, ← Go.Lib.size_eq]; omega
      have hnx : Go.Lib.byteCells (hexL (a0_2.data.toList.take k)) ++ [Value.int .u8 ((hxd ((a0_2[k]'hlt).toNat / 16)).toNat : Int)] ++ [Value.int .u8 ((hxd ((a0_2[k]'hlt).toNat % 16)).toNat : Int)] = Go.Lib.byteCells (hexL (a0_2.data.toList.take (k + 1))) := by
        have hk' : k < a0_2.data.toList.length := by rw [← Go.Lib.size_eq]; exact hlt
        have hg : a0_2.data.toList[k]'hk' = a0_2[k]'hlt := by simp [ByteArray.getElem_eq_getElem_data]
        rw [hexL_take hk', hg, Go.Lib.byteCells_append, List.append_assoc]; rfl
      have HNX := Aside0.mk hnx
      have HLK := Aside0.mk hlk
      clear hnx hlk
      go_wp2_with (go_at_call 33; fail)
      refine (Any.Builder_WriteByte Tryd.laysWriteByte Tryd.extraWriteByte w23.heap.size w23.heap.size _ _ wr HB2.out (by rw [HLK.out]; omega) hBw).mono ?_
      rintro e w1 ⟨rfl, h1, hb1⟩
      rw [hxd_at hc16n] at h1
      have hcz4 : w1.cell? ⟨gb125, 2, none⟩ = some (.string a0_2) := (hb1.cell hgl).trans hcz3
      have hBw1 : w23.heap.size ≤ w1.heap.size := Nat.le_trans hBw hb1.size
      have H1 := Aside0.mk h1
      have HW3 := Aside0.mk (HW2.out.trans hb1)
      clear h1 hb1
      go_wp2_with (go_at_call 33; fail)
      refine (Any.Builder_WriteByte Tryd.laysWriteByte Tryd.extraWriteByte w23.heap.size w23.heap.size _ _ w1 (Or.inr H1.out) (by rw [List.length_append, HLK.out]; simp; omega) hBw1).mono ?_
      rintro e w2 ⟨rfl, h2, hb2⟩
      rw [hxd_at hd16n] at h2
      have h2' : Go.Lib.IsBuilder 48 5 w23.heap.size w23.heap.size (Go.Lib.byteCells (hexL (a0_2.data.toList.take (k + 1)))) w2 := HNX.out ▸ Or.inr h2
      have H2 := Aside0.mk h2'
      have HW4 := Aside0.mk (HW3.out.trans hb2)
      clear h2 h2' hb2
      go_wp2
      exact ⟨⟨k + 1, by omega, by go_num, H2, HW4⟩, by simp [intOf]; omega⟩
    · have hke : k = a0_2.size := by omega
      subst hke
      have hall : a0_2.data.toList.take a0_2.size = a0_2.data.toList := by rw [Go.Lib.size_eq, List.take_length]
      have hBw : w23.heap.size ≤ wr.heap.size := HW2.out.size
      have HB3 := Aside0.mk (hall ▸ HB2.out)
      clear HB2 hall
      have hs5 : (9223372036854775807 < 2 + (hexL a0_2.data.toList).length) = False := eq_false (by rw [hexL_length, ← Go.Lib.size_eq]; omega)
      have hs6 : (9223372036854775807 < 2 + (hexL a0_2.data.toList).length + 1) = False := eq_false (by rw [hexL_length, ← Go.Lib.size_eq]; omega)
      go_wp2_with (go_at_call 34; fail)
      refine (Any.Builder_String_any Tryd.laysBString Tryd.extraBString w23.heap.size w23.heap.size _ wr HB3.out hBw).mono ?_
      rintro e w3 ⟨rfl, hb3⟩
      have Hb3 := Aside0.mk (HB.out.trans ((HW2.out.trans hb3).mono (HB.out.size)))
      clear hb3
      go_wp2
      go_ret
      exact ⟨congrArg _ (congrArg _ HR.out), Hb3.out⟩
def value_Show.f (a0_0 : Int) (a0_1 : Int) (a0_2 : ByteArray) : Option (ByteArray) := (value_Right.f a0_0 a0_1 a0_2).bind fun t126 => (if t126 = true then (if a0_0 = 1 then ((strconv_FormatBool_30.f (a0_1 == 1)).bind fun t127 => (some t127)) else (if a0_0 = 2 then ((strconv_Itoa_31.f a0_1).bind fun t128 => (some t128)) else (if a0_0 = 3 then ((strings_ReplaceAll.f a0_2 (⟨#[39]⟩ : ByteArray) (⟨#[39, 39]⟩ : ByteArray)).bind fun t129 => (if 1 + t129.size ≤ 9223372036854775807 then (if ((⟨#[39]⟩ : ByteArray) ++ t129).size + 1 ≤ 9223372036854775807 then (some (((⟨#[39]⟩ : ByteArray) ++ t129) ++ (⟨#[39]⟩ : ByteArray))) else (none)) else (none))) else (if a0_0 = 4 then (show_bytes a0_2) else (some (⟨#[110, 117, 108, 108]⟩ : ByteArray)))))) else (some (⟨#[]⟩ : ByteArray)))
set_option maxHeartbeats 8000000 in
set_option maxRecDepth 100000 in
theorem value_Show.calls (a0_0 : Int) (a0_1 : Int) (a0_2 : ByteArray) (r : ByteArray) (w : World) (h : value_Show.f a0_0 a0_1 a0_2 = some r) (hG : Glob w) :
    Calls Tryd.prog 15 #[.agg #[.int .i64 a0_0, .int .i64 a0_1, .string a0_2]] w fun e w' => e = .returned (.string r) ∧ Below w.heap.size w w' := by
  have hu23 := Tryd.underlying23
  have HG := Aside0.mk hG
  clear hG
  have HB := Aside0.mk (Below.refl w.heap.size w)
  have H : ((value_Right.f a0_0 a0_1 a0_2).bind fun t126 => (if t126 = true then (if a0_0 = 1 then ((strconv_FormatBool_30.f (a0_1 == 1)).bind fun t127 => (some t127)) else (if a0_0 = 2 then ((strconv_Itoa_31.f a0_1).bind fun t128 => (some t128)) else (if a0_0 = 3 then ((strings_ReplaceAll.f a0_2 (⟨#[39]⟩ : ByteArray) (⟨#[39, 39]⟩ : ByteArray)).bind fun t129 => (if 1 + t129.size ≤ 9223372036854775807 then (if ((⟨#[39]⟩ : ByteArray) ++ t129).size + 1 ≤ 9223372036854775807 then (some (((⟨#[39]⟩ : ByteArray) ++ t129) ++ (⟨#[39]⟩ : ByteArray))) else (none)) else (none))) else (if a0_0 = 4 then (show_bytes a0_2) else (some (⟨#[110, 117, 108, 108]⟩ : ByteArray)))))) else (some (⟨#[]⟩ : ByteArray)))) = some r := h
  clear h
  replace H := Option.bind_eq_some_iff.mp H
  obtain ⟨t126, A20, H⟩ := H
  replace H : (if t126 = true then (if a0_0 = 1 then ((strconv_FormatBool_30.f (a0_1 == 1)).bind fun t127 => (some t127)) else (if a0_0 = 2 then ((strconv_Itoa_31.f a0_1).bind fun t128 => (some t128)) else (if a0_0 = 3 then ((strings_ReplaceAll.f a0_2 (⟨#[39]⟩ : ByteArray) (⟨#[39, 39]⟩ : ByteArray)).bind fun t129 => (if 1 + t129.size ≤ 9223372036854775807 then (if ((⟨#[39]⟩ : ByteArray) ++ t129).size + 1 ≤ 9223372036854775807 then (some (((⟨#[39]⟩ : ByteArray) ++ t129) ++ (⟨#[39]⟩ : ByteArray))) else (none)) else (none))) else (if a0_0 = 4 then (show_bytes a0_2) else (some (⟨#[110, 117, 108, 108]⟩ : ByteArray)))))) else (some (⟨#[]⟩ : ByteArray))) = some r := H
  have A2 := Aside0.mk A20
  clear A20
  by_cases c3 : t126 = true
  · subst c3
    replace H := ifT_ H
    by_cases c4 : a0_0 = 1
    · rw [if_pos c4] at H
      have c4b0 : (a0_0 == 1) = true := beq_iff_eq.mpr c4
      have c4b1 : (a0_0 != 1) = false := bne_eq_false_iff_eq.mpr c4
      clear c4
      replace H := Option.bind_eq_some_iff.mp H
      obtain ⟨t127, A50, H⟩ := H
      replace H : (some t127) = some r := H
      have A5 := Aside0.mk A50
      clear A50
      obtain rfl := Option.some.inj H
      go_enter Tryd.func15, Tryd.ntmps15
      go_wp2_with (first | ((with_reducible refine gate_dst (N := 1) rfl ?_); refine box_event ?hg (N := 1) ?hd (cs := #[.int .i64 a0_0, .int .i64 a0_1, .string a0_2]) (t := 23) ?hr ?_; (case hd => rfl); (case hg => rfl); (case hr => first | (go_simp; done) | (go_simp; rfl)); intro gb125 hg w6 hbox hb; have n0_ := Aside0.mk (below_step q0_ hb); have n1_ := Aside0.mk (hbox); have n2_ := Aside0.mk ((q1_ : w.heap.size ≤ gb125)); have n3_ := Aside0.mk ((q1_ : w.heap.size ≤ gb125)); clear HB; have HB := n0_; have BK125 := n1_; have GW125 := n2_; have GE125 := n3_; clear n0_ n1_ n2_ n3_; clear hb hbox hg; have hcz7_0 : w6.cell? ⟨gb125, 0, none⟩ = some (.int .i64 a0_0) := (blk_cell BK125.out 0).trans rfl; have hcz7_1 : w6.cell? ⟨gb125, 1, none⟩ = some (.int .i64 a0_1) := (blk_cell BK125.out 1).trans rfl; have hcz7_2 : w6.cell? ⟨gb125, 2, none⟩ = some (.string a0_2) := (blk_cell BK125.out 2).trans rfl; have hfz7_0 := blk_frozen BK125.out 0; have hfz7_1 := blk_frozen BK125.out 1; have hfz7_2 := blk_frozen BK125.out 2) | ((with_reducible refine gate_callee (f := 13) rfl ?_); refine goesL_ (some 6) rfl rfl Tryd.func13 (by kernel_rfl) rfl #[.agg #[.int .i64 a0_0, .int .i64 a0_1, .string a0_2]] rfl q2_ ?_; (with_reducible refine (value_Right.calls a0_0 a0_1 a0_2 true _ A2.out q96_).mono ?_); rintro e w8 ⟨rfl, hb⟩; refine ⟨_, rfl, ?_⟩; have n0_ := Aside0.mk (blk_below (g := gb125) (o := .cells #[.int .i64 a0_0, .int .i64 a0_1, .string a0_2] 23 (0, 0)) q166_ hb); have n1_ := Aside0.mk (below_step q0_ hb); clear BK125; clear HB; have BK125 := n0_; have HB := n1_; clear n0_ n1_; (try clear hb); (try clear hb2); (try clear hk); (try clear hi); have hcz9_0 : w8.cell? ⟨gb125, 0, none⟩ = some (.int .i64 a0_0) := (blk_cell BK125.out 0).trans rfl; have hcz9_1 : w8.cell? ⟨gb125, 1, none⟩ = some (.int .i64 a0_1) := (blk_cell BK125.out 1).trans rfl; have hcz9_2 : w8.cell? ⟨gb125, 2, none⟩ = some (.string a0_2) := (blk_cell BK125.out 2).trans rfl; have hfz9_0 := blk_frozen BK125.out 0; have hfz9_1 := blk_frozen BK125.out 1; have hfz9_2 := blk_frozen BK125.out 2) | ((with_reducible refine gate_callee (f := 30) rfl ?_); refine goesL_ (some 15) rfl rfl Tryd.func30 (by kernel_rfl) rfl #[.bool (a0_1 == 1)] rfl q2_ ?_; (with_reducible refine (strconv_FormatBool_30.calls (a0_1 == 1) t127 _ A5.out).mono ?_); rintro e w' ⟨rfl, ⟨nd, rfl⟩⟩; refine ⟨_, rfl, ?_⟩))
      go_ret
      exact ⟨q13_, q0_⟩
    · rw [if_neg c4] at H
      have c4b0 : (a0_0 == 1) = false := beq_eq_false_iff_ne.mpr c4
      have c4b1 : (a0_0 != 1) = true := bne_iff_ne.mpr c4
      by_cases c10 : a0_0 = 2
      · rw [if_pos c10] at H
        have c10b0 : (a0_0 == 2) = true := beq_iff_eq.mpr c10
        have c10b1 : (a0_0 != 2) = false := bne_eq_false_iff_eq.mpr c10
        clear c10
        replace H := Option.bind_eq_some_iff.mp H
        obtain ⟨t128, A110, H⟩ := H
        replace H : (some t128) = some r := H
        have A11 := Aside0.mk A110
        clear A110
        obtain rfl := Option.some.inj H
        go_enter Tryd.func15, Tryd.ntmps15
        go_wp2_with (first | ((with_reducible refine gate_dst (N := 1) rfl ?_); refine box_event ?hg (N := 1) ?hd (cs := #[.int .i64 a0_0, .int .i64 a0_1, .string a0_2]) (t := 23) ?hr ?_; (case hd => rfl); (case hg => rfl); (case hr => first | (go_simp; done) | (go_simp; rfl)); intro gb125 hg w12 hbox hb; have n0_ := Aside0.mk (below_step q0_ hb); have n1_ := Aside0.mk (hbox); have n2_ := Aside0.mk ((q1_ : w.heap.size ≤ gb125)); have n3_ := Aside0.mk ((q1_ : w.heap.size ≤ gb125)); clear HB; have HB := n0_; have BK125 := n1_; have GW125 := n2_; have GE125 := n3_; clear n0_ n1_ n2_ n3_; clear hb hbox hg; have hcz13_0 : w12.cell? ⟨gb125, 0, none⟩ = some (.int .i64 a0_0) := (blk_cell BK125.out 0).trans rfl; have hcz13_1 : w12.cell? ⟨gb125, 1, none⟩ = some (.int .i64 a0_1) := (blk_cell BK125.out 1).trans rfl; have hcz13_2 : w12.cell? ⟨gb125, 2, none⟩ = some (.string a0_2) := (blk_cell BK125.out 2).trans rfl; have hfz13_0 := blk_frozen BK125.out 0; have hfz13_1 := blk_frozen BK125.out 1; have hfz13_2 := blk_frozen BK125.out 2) | ((with_reducible refine gate_callee (f := 13) rfl ?_); refine goesL_ (some 6) rfl rfl Tryd.func13 (by kernel_rfl) rfl #[.agg #[.int .i64 a0_0, .int .i64 a0_1, .string a0_2]] rfl q2_ ?_; (with_reducible refine (value_Right.calls a0_0 a0_1 a0_2 true _ A2.out q96_).mono ?_); rintro e w14 ⟨rfl, hb⟩; refine ⟨_, rfl, ?_⟩; have n0_ := Aside0.mk (blk_below (g := gb125) (o := .cells #[.int .i64 a0_0, .int .i64 a0_1, .string a0_2] 23 (0, 0)) q166_ hb); have n1_ := Aside0.mk (below_step q0_ hb); clear BK125; clear HB; have BK125 := n0_; have HB := n1_; clear n0_ n1_; (try clear hb); (try clear hb2); (try clear hk); (try clear hi); have hcz15_0 : w14.cell? ⟨gb125, 0, none⟩ = some (.int .i64 a0_0) := (blk_cell BK125.out 0).trans rfl; have hcz15_1 : w14.cell? ⟨gb125, 1, none⟩ = some (.int .i64 a0_1) := (blk_cell BK125.out 1).trans rfl; have hcz15_2 : w14.cell? ⟨gb125, 2, none⟩ = some (.string a0_2) := (blk_cell BK125.out 2).trans rfl; have hfz15_0 := blk_frozen BK125.out 0; have hfz15_1 := blk_frozen BK125.out 1; have hfz15_2 := blk_frozen BK125.out 2) | ((with_reducible refine gate_callee (f := 31) rfl ?_); refine goesL_ (some 20) rfl rfl Tryd.func31 (by kernel_rfl) rfl #[.int .i64 a0_1] rfl q2_ ?_; (with_reducible refine (strconv_Itoa_31.calls a0_1 t128 _ A11.out q96_).mono ?_); rintro e w16 ⟨rfl, hb⟩; refine ⟨_, rfl, ?_⟩; have n0_ := Aside0.mk (blk_below (g := gb125) (o := .cells #[.int .i64 a0_0, .int .i64 a0_1, .string a0_2] 23 (0, 0)) q166_ hb); have n1_ := Aside0.mk (below_step q0_ hb); clear BK125; clear HB; have BK125 := n0_; have HB := n1_; clear n0_ n1_; (try clear hb); (try clear hb2); (try clear hk); (try clear hi)))
        go_ret
        exact ⟨q13_, q0_⟩
      · rw [if_neg c10] at H
        have c10b0 : (a0_0 == 2) = false := beq_eq_false_iff_ne.mpr c10
        have c10b1 : (a0_0 != 2) = true := bne_iff_ne.mpr c10
        by_cases c17 : a0_0 = 3
        · rw [if_pos c17] at H
          have c17b0 : (a0_0 == 3) = true := beq_iff_eq.mpr c17
          have c17b1 : (a0_0 != 3) = false := bne_eq_false_iff_eq.mpr c17
          clear c17
          replace H := Option.bind_eq_some_iff.mp H
          obtain ⟨t129, A180, H⟩ := H
          replace H : (if 1 + t129.size ≤ 9223372036854775807 then (if ((⟨#[39]⟩ : ByteArray) ++ t129).size + 1 ≤ 9223372036854775807 then (some (((⟨#[39]⟩ : ByteArray) ++ t129) ++ (⟨#[39]⟩ : ByteArray))) else (none)) else (none)) = some r := H
          have A18 := Aside0.mk A180
          clear A180
          by_cases c19 : 1 + t129.size ≤ 9223372036854775807
          · rw [if_pos c19] at H
            have c19b0 := eq_true c19
            have c19b1 : decide (1 + t129.size ≤ 9223372036854775807) = true := decide_eq_true c19
            try have c19b2 : (9223372036854775807 < 1 + t129.size) = False := eq_false (Nat.not_lt.2 c19)
            by_cases c20 : ((⟨#[39]⟩ : ByteArray) ++ t129).size + 1 ≤ 9223372036854775807
            · rw [if_pos c20] at H
              have c20b0 := eq_true c20
              have c20b1 : decide (((⟨#[39]⟩ : ByteArray) ++ t129).size + 1 ≤ 9223372036854775807) = true := decide_eq_true c20
              try have c20b2 : (9223372036854775807 < ((⟨#[39]⟩ : ByteArray) ++ t129).size + 1) = False := eq_false (Nat.not_lt.2 c20)
              (try (have c20b3 : 1 + t129.size + 1 ≤ 9223372036854775807 := by first | (have hq_ := c20; simp only [ByteArray.size_append] at hq_; exact hq_) | simpa [ByteArray.size_append] using c20))
              (try (have c20b4 : (9223372036854775807 < 1 + t129.size + 1) = False := eq_false (Nat.not_lt.2 c20b3)))
              obtain rfl := Option.some.inj H
              go_enter Tryd.func15, Tryd.ntmps15
              go_wp2_with (first | ((with_reducible refine gate_dst (N := 1) rfl ?_); refine box_event ?hg (N := 1) ?hd (cs := #[.int .i64 a0_0, .int .i64 a0_1, .string a0_2]) (t := 23) ?hr ?_; (case hd => rfl); (case hg => rfl); (case hr => first | (go_simp; done) | (go_simp; rfl)); intro gb125 hg w21 hbox hb; have n0_ := Aside0.mk (below_step q0_ hb); have n1_ := Aside0.mk (hbox); have n2_ := Aside0.mk ((q1_ : w.heap.size ≤ gb125)); have n3_ := Aside0.mk ((q1_ : w.heap.size ≤ gb125)); clear HB; have HB := n0_; have BK125 := n1_; have GW125 := n2_; have GE125 := n3_; clear n0_ n1_ n2_ n3_; clear hb hbox hg; have hcz22_0 : w21.cell? ⟨gb125, 0, none⟩ = some (.int .i64 a0_0) := (blk_cell BK125.out 0).trans rfl; have hcz22_1 : w21.cell? ⟨gb125, 1, none⟩ = some (.int .i64 a0_1) := (blk_cell BK125.out 1).trans rfl; have hcz22_2 : w21.cell? ⟨gb125, 2, none⟩ = some (.string a0_2) := (blk_cell BK125.out 2).trans rfl; have hfz22_0 := blk_frozen BK125.out 0; have hfz22_1 := blk_frozen BK125.out 1; have hfz22_2 := blk_frozen BK125.out 2) | ((with_reducible refine gate_callee (f := 13) rfl ?_); refine goesL_ (some 6) rfl rfl Tryd.func13 (by kernel_rfl) rfl #[.agg #[.int .i64 a0_0, .int .i64 a0_1, .string a0_2]] rfl q2_ ?_; (with_reducible refine (value_Right.calls a0_0 a0_1 a0_2 true _ A2.out q96_).mono ?_); rintro e w23 ⟨rfl, hb⟩; refine ⟨_, rfl, ?_⟩; have n0_ := Aside0.mk (blk_below (g := gb125) (o := .cells #[.int .i64 a0_0, .int .i64 a0_1, .string a0_2] 23 (0, 0)) q166_ hb); have n1_ := Aside0.mk (below_step q0_ hb); clear BK125; clear HB; have BK125 := n0_; have HB := n1_; clear n0_ n1_; (try clear hb); (try clear hb2); (try clear hk); (try clear hi); have hcz24_0 : w23.cell? ⟨gb125, 0, none⟩ = some (.int .i64 a0_0) := (blk_cell BK125.out 0).trans rfl; have hcz24_1 : w23.cell? ⟨gb125, 1, none⟩ = some (.int .i64 a0_1) := (blk_cell BK125.out 1).trans rfl; have hcz24_2 : w23.cell? ⟨gb125, 2, none⟩ = some (.string a0_2) := (blk_cell BK125.out 2).trans rfl; have hfz24_0 := blk_frozen BK125.out 0; have hfz24_1 := blk_frozen BK125.out 1; have hfz24_2 := blk_frozen BK125.out 2) | ((with_reducible refine gate_callee (f := 32) rfl ?_); refine goesL_ (some 25) rfl rfl Tryd.func32 (by kernel_rfl) rfl #[.string a0_2, .string (⟨#[39]⟩ : ByteArray), .string (⟨#[39, 39]⟩ : ByteArray)] rfl q2_ ?_; (with_reducible refine (strings_ReplaceAll.calls a0_2 (⟨#[39]⟩ : ByteArray) (⟨#[39, 39]⟩ : ByteArray) t129 _ A18.out q96_).mono ?_); rintro e w25 ⟨rfl, hb⟩; refine ⟨_, rfl, ?_⟩; have n0_ := Aside0.mk (blk_below (g := gb125) (o := .cells #[.int .i64 a0_0, .int .i64 a0_1, .string a0_2] 23 (0, 0)) q166_ hb); have n1_ := Aside0.mk (below_step q0_ hb); clear BK125; clear HB; have BK125 := n0_; have HB := n1_; clear n0_ n1_; (try clear hb); (try clear hb2); (try clear hk); (try clear hi)))
              go_ret
              exact ⟨q13_, q0_⟩
            · rw [if_neg c20] at H
              exact absurd H (by simp)
          · rw [if_neg c19] at H
            exact absurd H (by simp)
        · rw [if_neg c17] at H
          have c17b0 : (a0_0 == 3) = false := beq_eq_false_iff_ne.mpr c17
          have c17b1 : (a0_0 != 3) = true := bne_iff_ne.mpr c17
          by_cases c26 : a0_0 = 4
          · rw [if_pos c26] at H
            subst c26
            exact show_bytes.calls a0_1 a0_2 r w A2.out H HG.out
          · rw [if_neg c26] at H
            have c26b0 : (a0_0 == 4) = false := beq_eq_false_iff_ne.mpr c26
            have c26b1 : (a0_0 != 4) = true := bne_iff_ne.mpr c26
            obtain rfl := Option.some.inj H
            go_enter Tryd.func15, Tryd.ntmps15
            go_wp2_with (first | ((with_reducible refine gate_dst (N := 1) rfl ?_); refine box_event ?hg (N := 1) ?hd (cs := #[.int .i64 a0_0, .int .i64 a0_1, .string a0_2]) (t := 23) ?hr ?_; (case hd => rfl); (case hg => rfl); (case hr => first | (go_simp; done) | (go_simp; rfl)); intro gb125 hg w27 hbox hb; have n0_ := Aside0.mk (below_step q0_ hb); have n1_ := Aside0.mk (hbox); have n2_ := Aside0.mk ((q1_ : w.heap.size ≤ gb125)); have n3_ := Aside0.mk ((q1_ : w.heap.size ≤ gb125)); clear HB; have HB := n0_; have BK125 := n1_; have GW125 := n2_; have GE125 := n3_; clear n0_ n1_ n2_ n3_; clear hb hbox hg; have hcz28_0 : w27.cell? ⟨gb125, 0, none⟩ = some (.int .i64 a0_0) := (blk_cell BK125.out 0).trans rfl; have hcz28_1 : w27.cell? ⟨gb125, 1, none⟩ = some (.int .i64 a0_1) := (blk_cell BK125.out 1).trans rfl; have hcz28_2 : w27.cell? ⟨gb125, 2, none⟩ = some (.string a0_2) := (blk_cell BK125.out 2).trans rfl; have hfz28_0 := blk_frozen BK125.out 0; have hfz28_1 := blk_frozen BK125.out 1; have hfz28_2 := blk_frozen BK125.out 2) | ((with_reducible refine gate_callee (f := 13) rfl ?_); refine goesL_ (some 6) rfl rfl Tryd.func13 (by kernel_rfl) rfl #[.agg #[.int .i64 a0_0, .int .i64 a0_1, .string a0_2]] rfl q2_ ?_; (with_reducible refine (value_Right.calls a0_0 a0_1 a0_2 true _ A2.out q96_).mono ?_); rintro e w29 ⟨rfl, hb⟩; refine ⟨_, rfl, ?_⟩; have n0_ := Aside0.mk (blk_below (g := gb125) (o := .cells #[.int .i64 a0_0, .int .i64 a0_1, .string a0_2] 23 (0, 0)) q166_ hb); have n1_ := Aside0.mk (below_step q0_ hb); clear BK125; clear HB; have BK125 := n0_; have HB := n1_; clear n0_ n1_; (try clear hb); (try clear hb2); (try clear hk); (try clear hi); have hcz30_0 : w29.cell? ⟨gb125, 0, none⟩ = some (.int .i64 a0_0) := (blk_cell BK125.out 0).trans rfl; have hcz30_1 : w29.cell? ⟨gb125, 1, none⟩ = some (.int .i64 a0_1) := (blk_cell BK125.out 1).trans rfl; have hcz30_2 : w29.cell? ⟨gb125, 2, none⟩ = some (.string a0_2) := (blk_cell BK125.out 2).trans rfl; have hfz30_0 := blk_frozen BK125.out 0; have hfz30_1 := blk_frozen BK125.out 1; have hfz30_2 := blk_frozen BK125.out 2))
            go_ret
            exact ⟨q13_, q0_⟩
  · replace c3 := Bool.eq_false_iff.mpr c3
    subst c3
    replace H := ifF_ H
    obtain rfl := Option.some.inj H
    go_enter Tryd.func15, Tryd.ntmps15
    go_wp2_with (first | ((with_reducible refine gate_dst (N := 1) rfl ?_); refine box_event ?hg (N := 1) ?hd (cs := #[.int .i64 a0_0, .int .i64 a0_1, .string a0_2]) (t := 23) ?hr ?_; (case hd => rfl); (case hg => rfl); (case hr => first | (go_simp; done) | (go_simp; rfl)); intro gb125 hg w31 hbox hb; have n0_ := Aside0.mk (below_step q0_ hb); have n1_ := Aside0.mk (hbox); have n2_ := Aside0.mk ((q1_ : w.heap.size ≤ gb125)); have n3_ := Aside0.mk ((q1_ : w.heap.size ≤ gb125)); clear HB; have HB := n0_; have BK125 := n1_; have GW125 := n2_; have GE125 := n3_; clear n0_ n1_ n2_ n3_; clear hb hbox hg; have hcz32_0 : w31.cell? ⟨gb125, 0, none⟩ = some (.int .i64 a0_0) := (blk_cell BK125.out 0).trans rfl; have hcz32_1 : w31.cell? ⟨gb125, 1, none⟩ = some (.int .i64 a0_1) := (blk_cell BK125.out 1).trans rfl; have hcz32_2 : w31.cell? ⟨gb125, 2, none⟩ = some (.string a0_2) := (blk_cell BK125.out 2).trans rfl; have hfz32_0 := blk_frozen BK125.out 0; have hfz32_1 := blk_frozen BK125.out 1; have hfz32_2 := blk_frozen BK125.out 2) | ((with_reducible refine gate_callee (f := 13) rfl ?_); refine goesL_ (some 6) rfl rfl Tryd.func13 (by kernel_rfl) rfl #[.agg #[.int .i64 a0_0, .int .i64 a0_1, .string a0_2]] rfl q2_ ?_; (with_reducible refine (value_Right.calls a0_0 a0_1 a0_2 false _ A2.out q96_).mono ?_); rintro e w33 ⟨rfl, hb⟩; refine ⟨_, rfl, ?_⟩; have n0_ := Aside0.mk (blk_below (g := gb125) (o := .cells #[.int .i64 a0_0, .int .i64 a0_1, .string a0_2] 23 (0, 0)) q166_ hb); have n1_ := Aside0.mk (below_step q0_ hb); clear BK125; clear HB; have BK125 := n0_; have HB := n1_; clear n0_ n1_; (try clear hb); (try clear hb2); (try clear hk); (try clear hi)))
    go_ret
    exact ⟨q13_, q0_⟩


/-! ### value_ints: function 35 -/
mutual
def value_ints.j0 : Nat → Bool → Int → Int → ByteArray → Int → Int → ByteArray → Option (Bool × Int)
  | 0, _, _, _, _, _, _, _ => none
  | k + 1, x6, x131000, x131001, x131002, x132000, x132001, x132002 => if x6 = true then (some (true, 1)) else (if x131000 = 0 then (value_ints.j1 k true x131000 x131001 x131002 x132000 x132001 x132002) else (value_ints.j1 k (x132000 == 0) x131000 x131001 x131002 x132000 x132001 x132002))
def value_ints.j1 : Nat → Bool → Int → Int → ByteArray → Int → Int → ByteArray → Option (Bool × Int)
  | 0, _, _, _, _, _, _, _ => none
  | k + 1, x15, x131000, x131001, x131002, x132000, x132001, x132002 => if x15 = true then (some (true, 0)) else (if x131000 = 2 then (if x132000 = 2 then (some (false, 0)) else (some (true, 10))) else (some (true, 10)))
end
def value_ints.f (k : Nat) (a0_0 : Int) (a0_1 : Int) (a0_2 : ByteArray) (a1_0 : Int) (a1_1 : Int) (a1_2 : ByteArray) : Option (Bool × Int) := (value_Right.f a0_0 a0_1 a0_2).bind fun t132 => (if t132 = true then ((value_Right.f a1_0 a1_1 a1_2).bind fun t133 => (value_ints.j0 k (!t133) a0_0 a0_1 a0_2 a1_0 a1_1 a1_2)) else (value_ints.j0 k true a0_0 a0_1 a0_2 a1_0 a1_1 a1_2))
theorem value_ints.mono_l : ∀ k, (∀ y0 y1 y2 y3 y4 y5 y6, LeO (value_ints.j0 k y0 y1 y2 y3 y4 y5 y6) (value_ints.j0 (k + 1) y0 y1 y2 y3 y4 y5 y6)) ∧ (∀ y0 y1 y2 y3 y4 y5 y6, LeO (value_ints.j1 k y0 y1 y2 y3 y4 y5 y6) (value_ints.j1 (k + 1) y0 y1 y2 y3 y4 y5 y6))
  | 0 => ⟨fun _ _ _ _ _ _ _ r h => by simp [value_ints.j0] at h, fun _ _ _ _ _ _ _ r h => by simp [value_ints.j1] at h⟩
  | k + 1 => by
    obtain ⟨ih0, ih1⟩ := value_ints.mono_l k
    refine ⟨?_, ?_⟩
    all_goals intros
    all_goals first
      | unfold value_ints.j0
      | unfold value_ints.j1
    all_goals repeat' first
      | (with_reducible exact ih0 _ _ _ _ _ _ _)
      | (with_reducible exact ih1 _ _ _ _ _ _ _)
      | (with_reducible exact LeO.refl _)
      | (with_reducible exact LeO.none _)
      | (with_reducible refine LeO.ite ?_ ?_)
      | (with_reducible refine LeO.bind ?_ (fun _ => ?_))
      | exact ih0 _ _ _ _ _ _ _
      | exact ih1 _ _ _ _ _ _ _
      | exact LeO.none _
      | refine LeO.ite ?_ ?_
      | refine LeO.bind ?_ (fun _ => ?_)
theorem value_ints.mono : ∀ a0 a1 a2 a3 a4 a5 k, LeO (value_ints.f k a0 a1 a2 a3 a4 a5) (value_ints.f (k + 1) a0 a1 a2 a3 a4 a5) := by
  intro a0 a1 a2 a3 a4 a5 k
  obtain ⟨ih0, ih1⟩ := value_ints.mono_l k
  unfold value_ints.f
  repeat' first
      | (with_reducible exact ih0 _ _ _ _ _ _ _)
      | (with_reducible exact ih1 _ _ _ _ _ _ _)
      | (with_reducible exact LeO.refl _)
      | (with_reducible exact LeO.none _)
      | (with_reducible refine LeO.ite ?_ ?_)
      | (with_reducible refine LeO.bind ?_ (fun _ => ?_))
      | exact ih0 _ _ _ _ _ _ _
      | exact ih1 _ _ _ _ _ _ _
      | exact LeO.none _
      | refine LeO.ite ?_ ?_
      | refine LeO.bind ?_ (fun _ => ?_)
set_option maxHeartbeats 8000000 in
set_option maxRecDepth 100000 in
theorem value_ints.calls (k : Nat) (a0_0 : Int) (a0_1 : Int) (a0_2 : ByteArray) (a1_0 : Int) (a1_1 : Int) (a1_2 : ByteArray) (r1 : Bool) (r2 : Int) (w : World) (h : value_ints.f k a0_0 a0_1 a0_2 a1_0 a1_1 a1_2 = some (r1, r2)) (hG : Glob w) :
    Calls Tryd.prog 35 #[.agg #[.int .i64 a0_0, .int .i64 a0_1, .string a0_2], .agg #[.int .i64 a1_0, .int .i64 a1_1, .string a1_2]] w fun e w' => e = .returned (.tuple #[.bool r1, .int .i64 r2]) ∧ Below w.heap.size w w' := by
  have hu23 := Tryd.underlying23
  have HG := Aside0.mk hG
  clear hG
  have HB := Aside0.mk (Below.refl w.heap.size w)
  have H : ((value_Right.f a0_0 a0_1 a0_2).bind fun t132 => (if t132 = true then ((value_Right.f a1_0 a1_1 a1_2).bind fun t133 => (value_ints.j0 k (!t133) a0_0 a0_1 a0_2 a1_0 a1_1 a1_2)) else (value_ints.j0 k true a0_0 a0_1 a0_2 a1_0 a1_1 a1_2))) = some (r1, r2) := h
  clear h
  have HC3 := Aside0.mk H
  clear H
  go_enter Tryd.func35, Tryd.ntmps35
  go_upto_region 1 with (first | ((with_reducible refine gate_dst (N := 2) rfl ?_); refine box_event ?hg (N := 2) ?hd (cs := #[.int .i64 a0_0, .int .i64 a0_1, .string a0_2]) (t := 23) ?hr ?_; (case hd => rfl); (case hg => rfl); (case hr => first | (go_simp; done) | (go_simp; rfl)); intro gb130 hg w4 hbox hb; have n0_ := Aside0.mk (below_step q0_ hb); have n1_ := Aside0.mk (hbox); have n2_ := Aside0.mk ((q1_ : w.heap.size ≤ gb130)); have n3_ := Aside0.mk ((q1_ : w.heap.size ≤ gb130)); clear HB; have HB := n0_; have BK130 := n1_; have GW130 := n2_; have GE130 := n3_; clear n0_ n1_ n2_ n3_; clear hb hbox hg) | ((with_reducible refine gate_dst (N := 3) rfl ?_); refine box_event ?hg (N := 3) ?hd (cs := #[.int .i64 a1_0, .int .i64 a1_1, .string a1_2]) (t := 23) ?hr ?_; (case hd => rfl); (case hg => rfl); (case hr => first | (go_simp; done) | (go_simp; rfl)); intro gb131 hg w5 hbox hb; have n0_ := Aside0.mk (blk_below (g := gb130) (o := .cells #[.int .i64 a0_0, .int .i64 a0_1, .string a0_2] 23 (0, 0)) q158_ hb); have n1_ := Aside0.mk (below_step q0_ hb); have n2_ := Aside0.mk (hbox); have n3_ := Aside0.mk ((q1_ : w.heap.size ≤ gb131)); have n4_ := Aside0.mk ((q1_ : w.heap.size ≤ gb131)); have n5_ := Aside0.mk ((by rw [hg]; exact Nat.ne_of_lt (blk_lt (g := gb130) (o := .cells #[.int .i64 a0_0, .int .i64 a0_1, .string a0_2] 23 (0, 0)) q158_) : gb130 ≠ gb131)); have n6_ := Aside0.mk ((by rw [hg]; exact Nat.ne_of_gt (blk_lt (g := gb130) (o := .cells #[.int .i64 a0_0, .int .i64 a0_1, .string a0_2] 23 (0, 0)) q158_) : gb131 ≠ gb130)); clear BK130; clear HB; have BK130 := n0_; have HB := n1_; have BK131 := n2_; have GW131 := n3_; have GE131 := n4_; have NB130_131 := n5_; have NB131_130 := n6_; clear n0_ n1_ n2_ n3_ n4_ n5_ n6_; clear hb hbox hg))
  (try simp only [Act.put, List.setIfInBounds_toArray, List.set_cons_zero, List.set_cons_succ])
  go_cut [6] (fun v6 wc => ∃ (kq : Nat) (x6_2 : Bool), v6 = .bool x6_2 ∧ Aside0 (value_ints.j0 kq x6_2 a0_0 a0_1 a0_2 a1_0 a1_1 a1_2 = some (r1, r2)) ∧ Aside0 (kq ≤ k) ∧ Aside0 (wc.heap[gb130]? = some (.cells #[.int .i64 a0_0, .int .i64 a0_1, .string a0_2] 23 (0, 0))) ∧ Aside0 (wc.heap[gb131]? = some (.cells #[.int .i64 a1_0, .int .i64 a1_1, .string a1_2] 23 (0, 0))) ∧ Aside0 (Below w.heap.size w wc))
  case first =>
    have H := HC3.out
    clear HC3
    replace H := Option.bind_eq_some_iff.mp H
    obtain ⟨t132, A60, H⟩ := H
    replace H : (if t132 = true then ((value_Right.f a1_0 a1_1 a1_2).bind fun t133 => (value_ints.j0 k (!t133) a0_0 a0_1 a0_2 a1_0 a1_1 a1_2)) else (value_ints.j0 k true a0_0 a0_1 a0_2 a1_0 a1_1 a1_2)) = some (r1, r2) := H
    have A6 := Aside0.mk A60
    clear A60
    by_cases c7 : t132 = true
    · subst c7
      replace H := ifT_ H
      replace H := Option.bind_eq_some_iff.mp H
      obtain ⟨t133, A80, H⟩ := H
      replace H : (value_ints.j0 k (!t133) a0_0 a0_1 a0_2 a1_0 a1_1 a1_2) = some (r1, r2) := H
      have A8 := Aside0.mk A80
      clear A80
      have H' := Aside0.mk H
      clear H
      have hnb9 := NB130_131.out
      have hnc9 := NB131_130.out
      have hcz10_0 : w5.cell? ⟨gb130, 0, none⟩ = some (.int .i64 a0_0) := (blk_cell BK130.out 0).trans rfl
      have hcz10_1 : w5.cell? ⟨gb130, 1, none⟩ = some (.int .i64 a0_1) := (blk_cell BK130.out 1).trans rfl
      have hcz10_2 : w5.cell? ⟨gb130, 2, none⟩ = some (.string a0_2) := (blk_cell BK130.out 2).trans rfl
      have hfz10_0 := blk_frozen BK130.out 0
      have hfz10_1 := blk_frozen BK130.out 1
      have hfz10_2 := blk_frozen BK130.out 2
      go_wp2_with (first | ((with_reducible refine gate_callee (f := 13) rfl ?_); refine goesL_ (some 8) rfl rfl Tryd.func13 (by kernel_rfl) rfl #[.agg #[.int .i64 a0_0, .int .i64 a0_1, .string a0_2]] rfl q2_ ?_; (with_reducible refine (value_Right.calls a0_0 a0_1 a0_2 true _ A6.out q159_).mono ?_); rintro e w11 ⟨rfl, hb⟩; refine ⟨_, rfl, ?_⟩; have n0_ := Aside0.mk (blk_below (g := gb130) (o := .cells #[.int .i64 a0_0, .int .i64 a0_1, .string a0_2] 23 (0, 0)) q158_ hb); have n1_ := Aside0.mk (blk_below (g := gb131) (o := .cells #[.int .i64 a1_0, .int .i64 a1_1, .string a1_2] 23 (0, 0)) q168_ hb); have n2_ := Aside0.mk (below_step q0_ hb); clear BK130; clear BK131; clear HB; have BK130 := n0_; have BK131 := n1_; have HB := n2_; clear n0_ n1_ n2_; (try clear hb); (try clear hb2); (try clear hk); (try clear hi); have hcz12_0 : w11.cell? ⟨gb131, 0, none⟩ = some (.int .i64 a1_0) := (blk_cell BK131.out 0).trans rfl; have hcz12_1 : w11.cell? ⟨gb131, 1, none⟩ = some (.int .i64 a1_1) := (blk_cell BK131.out 1).trans rfl; have hcz12_2 : w11.cell? ⟨gb131, 2, none⟩ = some (.string a1_2) := (blk_cell BK131.out 2).trans rfl; have hfz12_0 := blk_frozen BK131.out 0; have hfz12_1 := blk_frozen BK131.out 1; have hfz12_2 := blk_frozen BK131.out 2) | (go_at_call 13; (with_reducible refine (value_Right.calls a1_0 a1_1 a1_2 t133 _ A8.out q159_).mono ?_); rintro e w13 ⟨rfl, hb⟩; have n0_ := Aside0.mk (blk_below (g := gb130) (o := .cells #[.int .i64 a0_0, .int .i64 a0_1, .string a0_2] 23 (0, 0)) q158_ hb); have n1_ := Aside0.mk (blk_below (g := gb131) (o := .cells #[.int .i64 a1_0, .int .i64 a1_1, .string a1_2] 23 (0, 0)) q168_ hb); have n2_ := Aside0.mk (below_step q0_ hb); clear BK130; clear BK131; clear HB; have BK130 := n0_; have BK131 := n1_; have HB := n2_; clear n0_ n1_ n2_; (try clear hb); (try clear hb2); (try clear hk); (try clear hi)))
      go_meet
      case rel => exact ⟨_, (!t133), q20_, H', ⟨by first | omega | exact Nat.le_refl _⟩, ⟨q158_⟩, ⟨q168_⟩, ⟨q0_⟩⟩
    · replace c7 := Bool.eq_false_iff.mpr c7
      subst c7
      replace H := ifF_ H
      have H' := Aside0.mk H
      clear H
      have hnb14 := NB130_131.out
      have hnc14 := NB131_130.out
      have hcz15_0 : w5.cell? ⟨gb130, 0, none⟩ = some (.int .i64 a0_0) := (blk_cell BK130.out 0).trans rfl
      have hcz15_1 : w5.cell? ⟨gb130, 1, none⟩ = some (.int .i64 a0_1) := (blk_cell BK130.out 1).trans rfl
      have hcz15_2 : w5.cell? ⟨gb130, 2, none⟩ = some (.string a0_2) := (blk_cell BK130.out 2).trans rfl
      have hfz15_0 := blk_frozen BK130.out 0
      have hfz15_1 := blk_frozen BK130.out 1
      have hfz15_2 := blk_frozen BK130.out 2
      go_wp2_with (first | ((with_reducible refine gate_callee (f := 13) rfl ?_); refine goesL_ (some 8) rfl rfl Tryd.func13 (by kernel_rfl) rfl #[.agg #[.int .i64 a0_0, .int .i64 a0_1, .string a0_2]] rfl q2_ ?_; (with_reducible refine (value_Right.calls a0_0 a0_1 a0_2 false _ A6.out q159_).mono ?_); rintro e w16 ⟨rfl, hb⟩; refine ⟨_, rfl, ?_⟩; have n0_ := Aside0.mk (blk_below (g := gb130) (o := .cells #[.int .i64 a0_0, .int .i64 a0_1, .string a0_2] 23 (0, 0)) q158_ hb); have n1_ := Aside0.mk (blk_below (g := gb131) (o := .cells #[.int .i64 a1_0, .int .i64 a1_1, .string a1_2] 23 (0, 0)) q168_ hb); have n2_ := Aside0.mk (below_step q0_ hb); clear BK130; clear BK131; clear HB; have BK130 := n0_; have BK131 := n1_; have HB := n2_; clear n0_ n1_ n2_; (try clear hb); (try clear hb2); (try clear hk); (try clear hi)))
      go_meet
      case rel => exact ⟨_, (true), q20_, H', ⟨by first | omega | exact Nat.le_refl _⟩, ⟨q158_⟩, ⟨q168_⟩, ⟨q0_⟩⟩
  case rest =>
    clear HC3
    try clear c1
    try clear p2
    try clear c3
    try clear c7
    try clear c9
    try clear c13
    try clear c14
    try clear hcz10_0
    try clear hcz10_1
    try clear hcz10_2
    try clear hcz12_0
    try clear hcz12_1
    try clear hcz12_2
    try clear hcz15_0
    try clear hcz15_1
    try clear hcz15_2
    try clear hfz10_0
    try clear hfz10_1
    try clear hfz10_2
    try clear hfz12_0
    try clear hfz12_1
    try clear hfz12_2
    try clear hfz15_0
    try clear hfz15_1
    try clear hfz15_2
    obtain ⟨kq, x6_2, rfl, HA, HJ2, BK130, BK131, HB⟩ := hcut
    cases kq with
    | zero => exact absurd HA.out (by simp [value_ints.j0])
    | succ kj2 =>
      have H := HA.out
      clear HA
      simp only [value_ints.j0] at H
      by_cases c17 : x6_2 = true
      · subst c17
        replace H := ifT_ H
        simp only [Option.some.injEq, Prod.mk.injEq] at H
        obtain ⟨rfl, rfl⟩ := H
        go_wp2
        go_ret2
        exact ⟨q13_, q0_⟩
      · replace c17 := Bool.eq_false_iff.mpr c17
        subst c17
        replace H := ifF_ H
        have HC18 := Aside0.mk H
        clear H
        go_upto_region 3 with (fail)
        go_cut [15] (fun v15 wc => ∃ (kq : Nat) (x15_17 : Bool), v15 = .bool x15_17 ∧ Aside0 (value_ints.j1 kq x15_17 a0_0 a0_1 a0_2 a1_0 a1_1 a1_2 = some (r1, r2)) ∧ Aside0 (kq ≤ kj2) ∧ Aside0 (wc.heap[gb130]? = some (.cells #[.int .i64 a0_0, .int .i64 a0_1, .string a0_2] 23 (0, 0))) ∧ Aside0 (wc.heap[gb131]? = some (.cells #[.int .i64 a1_0, .int .i64 a1_1, .string a1_2] 23 (0, 0))) ∧ Aside0 (Below w.heap.size w wc))
        case first =>
          have H := HC18.out
          clear HC18
          by_cases c19 : a0_0 = 0
          · rw [if_pos c19] at H
            have c19b0 : (a0_0 == 0) = true := beq_iff_eq.mpr c19
            have c19b1 : (a0_0 != 0) = false := bne_eq_false_iff_eq.mpr c19
            clear c19
            (first | rw [c19b0] | (simp only [i64_w, i32_w]; rw [c19b0]) | skip)
            have H' := Aside0.mk H
            clear H
            have hnb20 := NB130_131.out
            have hnc20 := NB131_130.out
            have hcz21_0 : wc.cell? ⟨gb130, 0, none⟩ = some (.int .i64 a0_0) := (blk_cell BK130.out 0).trans rfl
            have hcz21_1 : wc.cell? ⟨gb130, 1, none⟩ = some (.int .i64 a0_1) := (blk_cell BK130.out 1).trans rfl
            have hcz21_2 : wc.cell? ⟨gb130, 2, none⟩ = some (.string a0_2) := (blk_cell BK130.out 2).trans rfl
            have hfz21_0 := blk_frozen BK130.out 0
            have hfz21_1 := blk_frozen BK130.out 1
            have hfz21_2 := blk_frozen BK130.out 2
            go_wp2
            go_meet
            case rel => exact ⟨_, (true), q20_, H', ⟨q169_⟩, ⟨q158_⟩, ⟨q168_⟩, ⟨q0_⟩⟩
          · rw [if_neg c19] at H
            have c19b0 : (a0_0 == 0) = false := beq_eq_false_iff_ne.mpr c19
            have c19b1 : (a0_0 != 0) = true := bne_iff_ne.mpr c19
            (first | rw [c19b0] | (simp only [i64_w, i32_w]; rw [c19b0]) | skip)
            have H' := Aside0.mk H
            clear H
            have hnb22 := NB130_131.out
            have hnc22 := NB131_130.out
            have hcz23_0 : wc.cell? ⟨gb130, 0, none⟩ = some (.int .i64 a0_0) := (blk_cell BK130.out 0).trans rfl
            have hcz23_1 : wc.cell? ⟨gb130, 1, none⟩ = some (.int .i64 a0_1) := (blk_cell BK130.out 1).trans rfl
            have hcz23_2 : wc.cell? ⟨gb130, 2, none⟩ = some (.string a0_2) := (blk_cell BK130.out 2).trans rfl
            have hfz23_0 := blk_frozen BK130.out 0
            have hfz23_1 := blk_frozen BK130.out 1
            have hfz23_2 := blk_frozen BK130.out 2
            have hcz24_0 : wc.cell? ⟨gb131, 0, none⟩ = some (.int .i64 a1_0) := (blk_cell BK131.out 0).trans rfl
            have hcz24_1 : wc.cell? ⟨gb131, 1, none⟩ = some (.int .i64 a1_1) := (blk_cell BK131.out 1).trans rfl
            have hcz24_2 : wc.cell? ⟨gb131, 2, none⟩ = some (.string a1_2) := (blk_cell BK131.out 2).trans rfl
            have hfz24_0 := blk_frozen BK131.out 0
            have hfz24_1 := blk_frozen BK131.out 1
            have hfz24_2 := blk_frozen BK131.out 2
            go_wp2
            go_meet
            case rel => exact ⟨_, ((a1_0 == 0)), q20_, H', ⟨q169_⟩, ⟨q158_⟩, ⟨q168_⟩, ⟨q0_⟩⟩
        case rest =>
          clear HC18
          try clear c1
          try clear c2
          try clear p2
          try clear c3
          try clear c7
          try clear c9
          try clear c13
          try clear c14
          try clear c17
          try clear c19
          try clear c19b0
          try clear c19b1
          try clear c20
          try clear c22
          try clear hcz10_0
          try clear hcz10_1
          try clear hcz10_2
          try clear hcz12_0
          try clear hcz12_1
          try clear hcz12_2
          try clear hcz15_0
          try clear hcz15_1
          try clear hcz15_2
          try clear hcz21_0
          try clear hcz21_1
          try clear hcz21_2
          try clear hcz23_0
          try clear hcz23_1
          try clear hcz23_2
          try clear hcz24_0
          try clear hcz24_1
          try clear hcz24_2
          try clear hfz10_0
          try clear hfz10_1
          try clear hfz10_2
          try clear hfz12_0
          try clear hfz12_1
          try clear hfz12_2
          try clear hfz15_0
          try clear hfz15_1
          try clear hfz15_2
          try clear hfz21_0
          try clear hfz21_1
          try clear hfz21_2
          try clear hfz23_0
          try clear hfz23_1
          try clear hfz23_2
          try clear hfz24_0
          try clear hfz24_1
          try clear hfz24_2
          try clear p2
          obtain ⟨kq, x15_17, rfl, HA, HJ17, BK130, BK131, HB⟩ := hcut
          cases kq with
          | zero => exact absurd HA.out (by simp [value_ints.j1])
          | succ kj17 =>
            have H := HA.out
            clear HA
            simp only [value_ints.j1] at H
            by_cases c25 : x15_17 = true
            · subst c25
              replace H := ifT_ H
              simp only [Option.some.injEq, Prod.mk.injEq] at H
              obtain ⟨rfl, rfl⟩ := H
              go_wp2
              go_ret2
              exact ⟨q13_, q0_⟩
            · replace c25 := Bool.eq_false_iff.mpr c25
              subst c25
              replace H := ifF_ H
              by_cases c26 : a0_0 = 2
              · rw [if_pos c26] at H
                have c26b0 : (a0_0 == 2) = true := beq_iff_eq.mpr c26
                have c26b1 : (a0_0 != 2) = false := bne_eq_false_iff_eq.mpr c26
                clear c26
                by_cases c27 : a1_0 = 2
                · rw [if_pos c27] at H
                  have c27b0 : (a1_0 == 2) = true := beq_iff_eq.mpr c27
                  have c27b1 : (a1_0 != 2) = false := bne_eq_false_iff_eq.mpr c27
                  clear c27
                  simp only [Option.some.injEq, Prod.mk.injEq] at H
                  obtain ⟨rfl, rfl⟩ := H
                  have hnb28 := NB130_131.out
                  have hnc28 := NB131_130.out
                  have hcz29_0 : wc.cell? ⟨gb130, 0, none⟩ = some (.int .i64 a0_0) := (blk_cell BK130.out 0).trans rfl
                  have hcz29_1 : wc.cell? ⟨gb130, 1, none⟩ = some (.int .i64 a0_1) := (blk_cell BK130.out 1).trans rfl
                  have hcz29_2 : wc.cell? ⟨gb130, 2, none⟩ = some (.string a0_2) := (blk_cell BK130.out 2).trans rfl
                  have hfz29_0 := blk_frozen BK130.out 0
                  have hfz29_1 := blk_frozen BK130.out 1
                  have hfz29_2 := blk_frozen BK130.out 2
                  have hcz30_0 : wc.cell? ⟨gb131, 0, none⟩ = some (.int .i64 a1_0) := (blk_cell BK131.out 0).trans rfl
                  have hcz30_1 : wc.cell? ⟨gb131, 1, none⟩ = some (.int .i64 a1_1) := (blk_cell BK131.out 1).trans rfl
                  have hcz30_2 : wc.cell? ⟨gb131, 2, none⟩ = some (.string a1_2) := (blk_cell BK131.out 2).trans rfl
                  have hfz30_0 := blk_frozen BK131.out 0
                  have hfz30_1 := blk_frozen BK131.out 1
                  have hfz30_2 := blk_frozen BK131.out 2
                  go_wp2
                  go_ret2
                  exact ⟨q13_, q0_⟩
                · rw [if_neg c27] at H
                  have c27b0 : (a1_0 == 2) = false := beq_eq_false_iff_ne.mpr c27
                  have c27b1 : (a1_0 != 2) = true := bne_iff_ne.mpr c27
                  simp only [Option.some.injEq, Prod.mk.injEq] at H
                  obtain ⟨rfl, rfl⟩ := H
                  have hnb31 := NB130_131.out
                  have hnc31 := NB131_130.out
                  have hcz32_0 : wc.cell? ⟨gb130, 0, none⟩ = some (.int .i64 a0_0) := (blk_cell BK130.out 0).trans rfl
                  have hcz32_1 : wc.cell? ⟨gb130, 1, none⟩ = some (.int .i64 a0_1) := (blk_cell BK130.out 1).trans rfl
                  have hcz32_2 : wc.cell? ⟨gb130, 2, none⟩ = some (.string a0_2) := (blk_cell BK130.out 2).trans rfl
                  have hfz32_0 := blk_frozen BK130.out 0
                  have hfz32_1 := blk_frozen BK130.out 1
                  have hfz32_2 := blk_frozen BK130.out 2
                  have hcz33_0 : wc.cell? ⟨gb131, 0, none⟩ = some (.int .i64 a1_0) := (blk_cell BK131.out 0).trans rfl
                  have hcz33_1 : wc.cell? ⟨gb131, 1, none⟩ = some (.int .i64 a1_1) := (blk_cell BK131.out 1).trans rfl
                  have hcz33_2 : wc.cell? ⟨gb131, 2, none⟩ = some (.string a1_2) := (blk_cell BK131.out 2).trans rfl
                  have hfz33_0 := blk_frozen BK131.out 0
                  have hfz33_1 := blk_frozen BK131.out 1
                  have hfz33_2 := blk_frozen BK131.out 2
                  go_wp2
                  go_ret2
                  exact ⟨q13_, q0_⟩
              · rw [if_neg c26] at H
                have c26b0 : (a0_0 == 2) = false := beq_eq_false_iff_ne.mpr c26
                have c26b1 : (a0_0 != 2) = true := bne_iff_ne.mpr c26
                simp only [Option.some.injEq, Prod.mk.injEq] at H
                obtain ⟨rfl, rfl⟩ := H
                have hnb34 := NB130_131.out
                have hnc34 := NB131_130.out
                have hcz35_0 : wc.cell? ⟨gb130, 0, none⟩ = some (.int .i64 a0_0) := (blk_cell BK130.out 0).trans rfl
                have hcz35_1 : wc.cell? ⟨gb130, 1, none⟩ = some (.int .i64 a0_1) := (blk_cell BK130.out 1).trans rfl
                have hcz35_2 : wc.cell? ⟨gb130, 2, none⟩ = some (.string a0_2) := (blk_cell BK130.out 2).trans rfl
                have hfz35_0 := blk_frozen BK130.out 0
                have hfz35_1 := blk_frozen BK130.out 1
                have hfz35_2 := blk_frozen BK130.out 2
                go_wp2
                go_ret2
                exact ⟨q13_, q0_⟩


/-! ### value_of: function 36 -/
def value_of.f (a0 : Int) (a1 : Bool) : Option (Int × Int × ByteArray × Int) := if a1 = true then (some (0, 0, (⟨#[]⟩ : ByteArray), 14)) else (some (2, a0, (⟨#[]⟩ : ByteArray), 0))
set_option maxHeartbeats 8000000 in
set_option maxRecDepth 100000 in
theorem value_of.calls (a0 : Int) (a1 : Bool) (r1 : Int) (r2 : Int) (r3 : ByteArray) (r4 : Int) (w : World) (h : value_of.f a0 a1 = some (r1, r2, r3, r4)) :
    Calls Tryd.prog 36 #[.int .i64 a0, .bool a1] w fun e w' => e = .returned (.tuple #[.agg #[.int .i64 r1, .int .i64 r2, .string r3], .int .i64 r4]) ∧ Below w.heap.size w w' := by
  have hu23 := Tryd.underlying23
  have HB := Aside0.mk (Below.refl w.heap.size w)
  have H : (if a1 = true then (some (0, 0, (⟨#[]⟩ : ByteArray), 14)) else (some (2, a0, (⟨#[]⟩ : ByteArray), 0))) = some (r1, r2, r3, r4) := h
  clear h
  by_cases c3 : a1 = true
  · subst c3
    replace H := ifT_ H
    simp only [Option.some.injEq, Prod.mk.injEq] at H
    obtain ⟨rfl, rfl, rfl, rfl⟩ := H
    go_enter Tryd.func36, Tryd.ntmps36
    go_wp2_with (first | ((with_reducible refine gate_dst (N := 4) rfl ?_); refine box_event ?hg (N := 4) ?hd (cs := #[.int .i64 0, .int .i64 0, .string (⟨#[]⟩ : ByteArray)]) (t := 23) ?hr ?_; (case hd => rfl); (case hg => rfl); (case hr => first | (go_simp; done) | (go_simp; rfl)); intro gb134 hg w4 hbox hb; have n0_ := Aside0.mk (below_step q0_ hb); have n1_ := Aside0.mk (hbox); have n2_ := Aside0.mk ((q1_ : w.heap.size ≤ gb134)); have n3_ := Aside0.mk ((q1_ : w.heap.size ≤ gb134)); clear HB; have HB := n0_; have BK134 := n1_; have GW134 := n2_; have GE134 := n3_; clear n0_ n1_ n2_ n3_; clear hb hbox hg; have hcz5_0 : w4.cell? ⟨gb134, 0, none⟩ = some (.int .i64 0) := (blk_cell BK134.out 0).trans rfl; have hcz5_1 : w4.cell? ⟨gb134, 1, none⟩ = some (.int .i64 0) := (blk_cell BK134.out 1).trans rfl; have hcz5_2 : w4.cell? ⟨gb134, 2, none⟩ = some (.string (⟨#[]⟩ : ByteArray)) := (blk_cell BK134.out 2).trans rfl; have hfz5_0 := blk_frozen BK134.out 0; have hfz5_1 := blk_frozen BK134.out 1; have hfz5_2 := blk_frozen BK134.out 2))
    refine bodyPost_ret (results_ct rfl _ _ gb134 23 #[.int .i64 0, .int .i64 0, .string (⟨#[]⟩ : ByteArray)] (0, 0) _ rfl (by (with_reducible repeat first | apply bN_ | apply bD_ | apply bA_); refine blk_put (cs := #[.int .i64 0, .int .i64 0, .string (⟨#[]⟩ : ByteArray)]) ?_ 2 _ rfl; (with_reducible repeat first | apply bN_ | apply bD_ | apply bA_); refine blk_put (cs := #[.int .i64 0, .int .i64 0, .string (⟨#[]⟩ : ByteArray)]) ?_ 1 _ rfl; (with_reducible repeat first | apply bN_ | apply bD_ | apply bA_); refine blk_put (cs := #[.int .i64 0, .int .i64 0, .string (⟨#[]⟩ : ByteArray)]) ?_ 0 _ rfl; (with_reducible repeat first | apply bN_ | apply bD_ | apply bA_); exact BK134.out) Tryd.underlying23 rfl (by kernel_rfl)) rfl ?_
    exact ⟨q13_, q0_⟩
  · replace c3 := Bool.eq_false_iff.mpr c3
    subst c3
    replace H := ifF_ H
    simp only [Option.some.injEq, Prod.mk.injEq] at H
    obtain ⟨rfl, rfl, rfl, rfl⟩ := H
    go_enter Tryd.func36, Tryd.ntmps36
    go_wp2_with (first | ((with_reducible refine gate_dst (N := 4) rfl ?_); refine box_event ?hg (N := 4) ?hd (cs := #[.int .i64 0, .int .i64 0, .string (⟨#[]⟩ : ByteArray)]) (t := 23) ?hr ?_; (case hd => rfl); (case hg => rfl); (case hr => first | (go_simp; done) | (go_simp; rfl)); intro gb134 hg w6 hbox hb; have n0_ := Aside0.mk (below_step q0_ hb); have n1_ := Aside0.mk (hbox); have n2_ := Aside0.mk ((q1_ : w.heap.size ≤ gb134)); have n3_ := Aside0.mk ((q1_ : w.heap.size ≤ gb134)); clear HB; have HB := n0_; have BK134 := n1_; have GW134 := n2_; have GE134 := n3_; clear n0_ n1_ n2_ n3_; clear hb hbox hg; have hcz7_0 : w6.cell? ⟨gb134, 0, none⟩ = some (.int .i64 0) := (blk_cell BK134.out 0).trans rfl; have hcz7_1 : w6.cell? ⟨gb134, 1, none⟩ = some (.int .i64 0) := (blk_cell BK134.out 1).trans rfl; have hcz7_2 : w6.cell? ⟨gb134, 2, none⟩ = some (.string (⟨#[]⟩ : ByteArray)) := (blk_cell BK134.out 2).trans rfl; have hfz7_0 := blk_frozen BK134.out 0; have hfz7_1 := blk_frozen BK134.out 1; have hfz7_2 := blk_frozen BK134.out 2))
    refine bodyPost_ret (results_ct rfl _ _ gb134 23 #[.int .i64 2, .int .i64 a0, .string (⟨#[]⟩ : ByteArray)] (0, 0) _ rfl (by (with_reducible repeat first | apply bN_ | apply bD_ | apply bA_); refine blk_put (cs := #[.int .i64 2, .int .i64 a0, .string (⟨#[]⟩ : ByteArray)]) ?_ 2 _ rfl; (with_reducible repeat first | apply bN_ | apply bD_ | apply bA_); refine blk_put (cs := #[.int .i64 2, .int .i64 0, .string (⟨#[]⟩ : ByteArray)]) ?_ 1 _ rfl; (with_reducible repeat first | apply bN_ | apply bD_ | apply bA_); refine blk_put (cs := #[.int .i64 0, .int .i64 0, .string (⟨#[]⟩ : ByteArray)]) ?_ 0 _ rfl; (with_reducible repeat first | apply bN_ | apply bD_ | apply bA_); exact BK134.out) Tryd.underlying23 rfl (by kernel_rfl)) rfl ?_
    exact ⟨q13_, q0_⟩

end Go.Proofs.YtmdnnpahmoaicaaDoor.P
