-- Written by our own program (wip/xprint) over the seat's translation. Lean checks it.
import Derived.Test.YtmdnnpahmoaicaaDoorPx0
import Derived.Test.YtmdnnpahmoaicaaDoorPx1
import Derived.Test.YtmdnnpahmoaicaaDoorPx47
namespace Go.Proofs.YtmdnnpahmoaicaaDoor.P
open Go.RowKit Go.Proofs.YtmdnnpahmoaicaaDoorW.PrintWords Go.Proofs.YtmdnnpahmoaicaaDoorW.PrintLast Go.Proofs.YtmdnnpahmoaicaaDoorW.PrintMore
attribute [local go_sem] max2_int min2_mn max_two min_two max_three min_three max_four min_four   -- for this text's walks alone
set_option linter.unusedVariables false
set_option linter.unusedSimpArgs false


attribute [local go_sem high] eqA23
/-! ### corollarylaw01_awake: function 14 -/
def corollarylaw01_awake.f (k : Nat)  : Option (Bool) := (value_Add.f k 2 2 (⟨#[]⟩ : ByteArray) 2 3 (⟨#[]⟩ : ByteArray)).bind fun bt148 => (if (bt148.1 == 2 && (bt148.2.1 == 5 && (bt148.2.2.1.toList == ([] : List UInt8)))) = true then (if bt148.2.2.2 = 0 then ((value_Show.f 3 0 (⟨#[105, 116, 39, 115]⟩ : ByteArray)).bind fun t153 => (some (t153.toList == ([39, 105, 116, 39, 39, 115, 39] : List UInt8)))) else (some false)) else (some false))
theorem corollarylaw01_awake.mono : ∀ k, LeO (corollarylaw01_awake.f k ) (corollarylaw01_awake.f (k + 1) ) := by
  intro  k
  unfold corollarylaw01_awake.f
  repeat' first
      | (with_reducible exact value_Add.mono _ _ _ _ _ _ _)
      | (with_reducible exact LeO.refl _)
      | (with_reducible exact LeO.none _)
      | (with_reducible refine LeO.ite ?_ ?_)
      | (with_reducible refine LeO.bind ?_ (fun _ => ?_))
      | exact value_Add.mono _ _ _ _ _ _ _
      | exact LeO.none _
      | refine LeO.ite ?_ ?_
      | refine LeO.bind ?_ (fun _ => ?_)
set_option maxHeartbeats 8000000 in
set_option maxRecDepth 100000 in
theorem corollarylaw01_awake.calls (k : Nat)  (r : Bool) (w : World) (h : corollarylaw01_awake.f k  = some r) (hG : Glob w) :
    Calls Tryd.prog 14 #[] w fun e w' => e = .returned (.bool r) ∧ Below w.heap.size w w' := by
  have hu23 := Tryd.underlying23
  have HG := Aside0.mk hG
  clear hG
  have HB := Aside0.mk (Below.refl w.heap.size w)
  have H : ((value_Add.f k 2 2 (⟨#[]⟩ : ByteArray) 2 3 (⟨#[]⟩ : ByteArray)).bind fun bt148 => (if (bt148.1 == 2 && (bt148.2.1 == 5 && (bt148.2.2.1.toList == ([] : List UInt8)))) = true then (if bt148.2.2.2 = 0 then ((value_Show.f 3 0 (⟨#[105, 116, 39, 115]⟩ : ByteArray)).bind fun t153 => (some (t153.toList == ([39, 105, 116, 39, 39, 115, 39] : List UInt8)))) else (some false)) else (some false))) = some r := h
  clear h
  replace H := Option.bind_eq_some_iff.mp H
  obtain ⟨⟨t148, t149, t150, t151⟩, A10, H⟩ := H
  replace H : (if (t148 == 2 && (t149 == 5 && (t150.toList == ([] : List UInt8)))) = true then (if t151 = 0 then ((value_Show.f 3 0 (⟨#[105, 116, 39, 115]⟩ : ByteArray)).bind fun t153 => (some (t153.toList == ([39, 105, 116, 39, 39, 115, 39] : List UInt8)))) else (some false)) else (some false)) = some r := H
  have A1 := Aside0.mk A10
  clear A10
  by_cases c2 : (t148 == 2 && (t149 == 5 && (t150.toList == ([] : List UInt8)))) = true
  · rw [if_pos c2] at H
    have c2b0 : (t148 == 2 && (t149 == 5 && (t150.toList == ([] : List UInt8)))) = true := c2
    (try (have c2b1 : decide (t148 = 2 && (t149 == 5 && (t150.toList == ([] : List UInt8)))) = true := by simpa using c2))
    (try (have c2b2 : (t148 == 2 && (t149 == 5 && (t150.toList == ([] : List UInt8)))) = true := by simpa using c2))
    (try (have c2b3 : (t148 == 2 && (t149 == 5 && t150.toList.isEmpty)) = true := by simpa using c2))
    clear c2
    by_cases c3 : t151 = 0
    · rw [if_pos c3] at H
      have c3b0 : (t151 == 0) = true := beq_iff_eq.mpr c3
      have c3b1 : (t151 != 0) = false := bne_eq_false_iff_eq.mpr c3
      clear c3
      replace H := Option.bind_eq_some_iff.mp H
      obtain ⟨t153, A40, H⟩ := H
      replace H : (some (t153.toList == ([39, 105, 116, 39, 39, 115, 39] : List UInt8))) = some r := H
      have A4 := Aside0.mk A40
      clear A40
      obtain rfl := Option.some.inj H
      go_enter Tryd.func14, Tryd.ntmps14
      go_wp2_with (first | ((with_reducible refine gate_callee (f := 17) rfl ?_); refine goesL_ (some 6) rfl rfl Tryd.func17 (by kernel_rfl) rfl #[.agg #[.int .i64 2, .int .i64 2, .string (⟨#[]⟩ : ByteArray)], .agg #[.int .i64 2, .int .i64 3, .string (⟨#[]⟩ : ByteArray)]] rfl q2_ ?_; (with_reducible refine (value_Add.calls k 2 2 (⟨#[]⟩ : ByteArray) 2 3 (⟨#[]⟩ : ByteArray) t148 t149 t150 t151 _ A1.out q113_).mono ?_); rintro e w5 ⟨rfl, hb⟩; refine ⟨_, rfl, ?_⟩; have n0_ := Aside0.mk (below_step q0_ hb); clear HB; have HB := n0_; clear n0_; (try clear hb); (try clear hb2); (try clear hk); (try clear hi)) | ((with_reducible refine gate_dst (N := 1) rfl ?_); refine box_event ?hg (N := 1) ?hd (cs := #[.int .i64 0, .int .i64 0, .string (⟨#[]⟩ : ByteArray)]) (t := 23) ?hr ?_; (case hd => rfl); (case hg => rfl); (case hr => first | (go_simp; done) | (go_simp; rfl)); intro gb152 hg w6 hbox hb; have n0_ := Aside0.mk (below_step q0_ hb); have n1_ := Aside0.mk (hbox); have n2_ := Aside0.mk ((q1_ : w.heap.size ≤ gb152)); have n3_ := Aside0.mk ((q1_ : w.heap.size ≤ gb152)); clear HB; have HB := n0_; have BK152 := n1_; have GW152 := n2_; have GE152 := n3_; clear n0_ n1_ n2_ n3_; clear hb hbox hg; have hcz7_0 : w6.cell? ⟨gb152, 0, none⟩ = some (.int .i64 0) := (blk_cell BK152.out 0).trans rfl; have hcz7_1 : w6.cell? ⟨gb152, 1, none⟩ = some (.int .i64 0) := (blk_cell BK152.out 1).trans rfl; have hcz7_2 : w6.cell? ⟨gb152, 2, none⟩ = some (.string (⟨#[]⟩ : ByteArray)) := (blk_cell BK152.out 2).trans rfl; have hfz7_0 := blk_frozen BK152.out 0; have hfz7_1 := blk_frozen BK152.out 1; have hfz7_2 := blk_frozen BK152.out 2) | (go_at_call 15; (with_reducible refine (value_Show.calls 3 0 (⟨#[105, 116, 39, 115]⟩ : ByteArray) t153 _ A4.out (by first | exact HG.out | (refine Glob.below HG.out ?_; (repeat (first | (with_reducible first | exact HB.out | apply below_alloc | apply pw_below_drewN | apply below_drew1 | refine below_set ?_ GE152.out) | exact HB.out))) | (repeat (first | exact HG.out | apply Glob.drewN | apply Glob.drew | apply Glob.alloc)))).mono ?_); rintro e w8 ⟨rfl, hb⟩; have n0_ := Aside0.mk (blk_below (g := gb152) (o := .cells #[.int .i64 t148, .int .i64 t149, .string t150] 23 (0, 0)) (by (with_reducible repeat first | apply bN_ | apply bD_ | apply bA_); refine blk_put (cs := #[.int .i64 t148, .int .i64 t149, .string (⟨#[]⟩ : ByteArray)]) ?_ 2 _ rfl; (with_reducible repeat first | apply bN_ | apply bD_ | apply bA_); refine blk_put (cs := #[.int .i64 t148, .int .i64 0, .string (⟨#[]⟩ : ByteArray)]) ?_ 1 _ rfl; (with_reducible repeat first | apply bN_ | apply bD_ | apply bA_); refine blk_put (cs := #[.int .i64 0, .int .i64 0, .string (⟨#[]⟩ : ByteArray)]) ?_ 0 _ rfl; (with_reducible repeat first | apply bN_ | apply bD_ | apply bA_); exact BK152.out) hb); have n1_ := Aside0.mk (below_step q0_ hb); clear BK152; clear HB; have BK152 := n0_; have HB := n1_; clear n0_ n1_; (try clear hb); (try clear hb2); (try clear hk); (try clear hi)))
      go_ret
      exact ⟨q13_, q0_⟩
    · rw [if_neg c3] at H
      have c3b0 : (t151 == 0) = false := beq_eq_false_iff_ne.mpr c3
      have c3b1 : (t151 != 0) = true := bne_iff_ne.mpr c3
      obtain rfl := Option.some.inj H
      go_enter Tryd.func14, Tryd.ntmps14
      go_wp2_with (first | ((with_reducible refine gate_callee (f := 17) rfl ?_); refine goesL_ (some 6) rfl rfl Tryd.func17 (by kernel_rfl) rfl #[.agg #[.int .i64 2, .int .i64 2, .string (⟨#[]⟩ : ByteArray)], .agg #[.int .i64 2, .int .i64 3, .string (⟨#[]⟩ : ByteArray)]] rfl q2_ ?_; (with_reducible refine (value_Add.calls k 2 2 (⟨#[]⟩ : ByteArray) 2 3 (⟨#[]⟩ : ByteArray) t148 t149 t150 t151 _ A1.out q113_).mono ?_); rintro e w9 ⟨rfl, hb⟩; refine ⟨_, rfl, ?_⟩; have n0_ := Aside0.mk (below_step q0_ hb); clear HB; have HB := n0_; clear n0_; (try clear hb); (try clear hb2); (try clear hk); (try clear hi)) | ((with_reducible refine gate_dst (N := 1) rfl ?_); refine box_event ?hg (N := 1) ?hd (cs := #[.int .i64 0, .int .i64 0, .string (⟨#[]⟩ : ByteArray)]) (t := 23) ?hr ?_; (case hd => rfl); (case hg => rfl); (case hr => first | (go_simp; done) | (go_simp; rfl)); intro gb152 hg w10 hbox hb; have n0_ := Aside0.mk (below_step q0_ hb); have n1_ := Aside0.mk (hbox); have n2_ := Aside0.mk ((q1_ : w.heap.size ≤ gb152)); have n3_ := Aside0.mk ((q1_ : w.heap.size ≤ gb152)); clear HB; have HB := n0_; have BK152 := n1_; have GW152 := n2_; have GE152 := n3_; clear n0_ n1_ n2_ n3_; clear hb hbox hg; have hcz11_0 : w10.cell? ⟨gb152, 0, none⟩ = some (.int .i64 0) := (blk_cell BK152.out 0).trans rfl; have hcz11_1 : w10.cell? ⟨gb152, 1, none⟩ = some (.int .i64 0) := (blk_cell BK152.out 1).trans rfl; have hcz11_2 : w10.cell? ⟨gb152, 2, none⟩ = some (.string (⟨#[]⟩ : ByteArray)) := (blk_cell BK152.out 2).trans rfl; have hfz11_0 := blk_frozen BK152.out 0; have hfz11_1 := blk_frozen BK152.out 1; have hfz11_2 := blk_frozen BK152.out 2))
      go_ret
      exact ⟨q13_, q0_⟩
  · rw [if_neg c2] at H
    have c2b0 : (t148 == 2 && (t149 == 5 && (t150.toList == ([] : List UInt8)))) = false := by simpa using c2
    (try (have c2b1 : decide (t148 = 2 && (t149 == 5 && (t150.toList == ([] : List UInt8)))) = false := by simpa using c2))
    (try (have c2b2 : (t148 == 2 && (t149 == 5 && (t150.toList == ([] : List UInt8)))) = false := by simpa using c2))
    (try (have c2b3 : ¬ (t148 = 2 && (t149 == 5 && (t150.toList == ([] : List UInt8)))) := by simpa using c2))
    (try (have c2b4 : (t148 == 2 && (t149 == 5 && t150.toList.isEmpty)) = false := by simpa using c2))
    clear c2
    obtain rfl := Option.some.inj H
    go_enter Tryd.func14, Tryd.ntmps14
    go_wp2_with (first | ((with_reducible refine gate_callee (f := 17) rfl ?_); refine goesL_ (some 6) rfl rfl Tryd.func17 (by kernel_rfl) rfl #[.agg #[.int .i64 2, .int .i64 2, .string (⟨#[]⟩ : ByteArray)], .agg #[.int .i64 2, .int .i64 3, .string (⟨#[]⟩ : ByteArray)]] rfl q2_ ?_; (with_reducible refine (value_Add.calls k 2 2 (⟨#[]⟩ : ByteArray) 2 3 (⟨#[]⟩ : ByteArray) t148 t149 t150 t151 _ A1.out q113_).mono ?_); rintro e w12 ⟨rfl, hb⟩; refine ⟨_, rfl, ?_⟩; have n0_ := Aside0.mk (below_step q0_ hb); clear HB; have HB := n0_; clear n0_; (try clear hb); (try clear hb2); (try clear hk); (try clear hi)) | ((with_reducible refine gate_dst (N := 1) rfl ?_); refine box_event ?hg (N := 1) ?hd (cs := #[.int .i64 0, .int .i64 0, .string (⟨#[]⟩ : ByteArray)]) (t := 23) ?hr ?_; (case hd => rfl); (case hg => rfl); (case hr => first | (go_simp; done) | (go_simp; rfl)); intro gb152 hg w13 hbox hb; have n0_ := Aside0.mk (below_step q0_ hb); have n1_ := Aside0.mk (hbox); have n2_ := Aside0.mk ((q1_ : w.heap.size ≤ gb152)); have n3_ := Aside0.mk ((q1_ : w.heap.size ≤ gb152)); clear HB; have HB := n0_; have BK152 := n1_; have GW152 := n2_; have GE152 := n3_; clear n0_ n1_ n2_ n3_; clear hb hbox hg; have hcz14_0 : w13.cell? ⟨gb152, 0, none⟩ = some (.int .i64 0) := (blk_cell BK152.out 0).trans rfl; have hcz14_1 : w13.cell? ⟨gb152, 1, none⟩ = some (.int .i64 0) := (blk_cell BK152.out 1).trans rfl; have hcz14_2 : w13.cell? ⟨gb152, 2, none⟩ = some (.string (⟨#[]⟩ : ByteArray)) := (blk_cell BK152.out 2).trans rfl; have hfz14_0 := blk_frozen BK152.out 0; have hfz14_1 := blk_frozen BK152.out 1; have hfz14_2 := blk_frozen BK152.out 2))
    go_ret
    exact ⟨q13_, q0_⟩

end Go.Proofs.YtmdnnpahmoaicaaDoor.P
