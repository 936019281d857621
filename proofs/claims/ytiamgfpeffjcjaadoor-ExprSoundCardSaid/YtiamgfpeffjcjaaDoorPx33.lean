-- Written by our own program (wip/xprint) over the seat's translation. Lean checks it.
import Derived.Test.YtiamgfpeffjcjaaDoorPx0
import Derived.Test.YtiamgfpeffjcjaaDoorPx15
import Derived.Test.YtiamgfpeffjcjaaDoorPx19
import Derived.Test.YtiamgfpeffjcjaaDoorPx23
import Derived.Test.YtiamgfpeffjcjaaDoorPx29
import Derived.Test.YtiamgfpeffjcjaaDoorPx3
namespace Go.Proofs.YtiamgfpeffjcjaaDoor.P
open Go.RowKit Go.Proofs.YtiamgfpeffjcjaaDoorW.PrintWords Go.Proofs.YtiamgfpeffjcjaaDoorW.PrintLast Go.Proofs.YtiamgfpeffjcjaaDoorW.PrintMore
attribute [local go_sem] max2_int min2_int max_two min_two max_three min_three max_four min_four   -- for this text's walks alone
set_option linter.unusedVariables false
set_option linter.unusedSimpArgs false


/-! ### expr_do: function 25 -/
mutual
def expr_do.j0 : Nat → Int → Bool → Int → Bool → Int → Int → ByteArray → Int → Int → ByteArray → Option (Int × Int × ByteArray × Int)
  | 0, _, _, _, _, _, _, _, _, _, _ => none
  | k + 1, x0, x8, x12, x40, x220000, x220001, x220002, x221000, x221001, x221002 => if x40 = true then ((expr_logic.f k x0 x220000 x220001 x220002 x221000 x221001 x221002).bind fun bt238 => (some (bt238.1, bt238.2.1, bt238.2.2, 0))) else (if x12 = 16 then ((expr_truth.f x8).bind fun bt241 => (some (bt241.1, bt241.2.1, bt241.2.2, 0))) else (if x8 = true then (expr_do.j1 k x0 true x220000 x220001 x220002 x221000 x221001 x221002) else (expr_do.j1 k x0 (x221000 == 0) x220000 x220001 x220002 x221000 x221001 x221002)))
def expr_do.j1 : Nat → Int → Bool → Int → Int → ByteArray → Int → Int → ByteArray → Option (Int × Int × ByteArray × Int)
  | 0, _, _, _, _, _, _, _, _ => none
  | k + 1, x0, x51, x220000, x220001, x220002, x221000, x221001, x221002 => if x51 = true then (some (0, 0, (⟨#[]⟩ : ByteArray), 0)) else (if x0 = 15 then ((expr_truth.f (x220001 == 0)).bind fun bt244 => (some (bt244.1, bt244.2.1, bt244.2.2, 0))) else ((value_Compare.f k x220000 x220001 x220002 x221000 x221001 x221002).bind fun t247 => ((expr_compare.f x0 t247).bind fun t248 => ((expr_truth.f t248).bind fun bt249 => (some (bt249.1, bt249.2.1, bt249.2.2, 0))))))
end
def expr_do.f (k : Nat) (a0 : Int) (a1_0 : Int) (a1_1 : Int) (a1_2 : ByteArray) (a2_0 : Int) (a2_1 : Int) (a2_2 : ByteArray) : Option (Int × Int × ByteArray × Int) := if a0 = 3 then ((value_Add.f k a1_0 a1_1 a1_2 a2_0 a2_1 a2_2).bind fun bt222 => (some (bt222.1, bt222.2.1, bt222.2.2.1, bt222.2.2.2))) else (if a0 = 4 then ((value_Sub.f k a1_0 a1_1 a1_2 a2_0 a2_1 a2_2).bind fun bt226 => (some (bt226.1, bt226.2.1, bt226.2.2.1, bt226.2.2.2))) else (if a0 = 5 then ((value_Mul.f k a1_0 a1_1 a1_2 a2_0 a2_1 a2_2).bind fun bt230 => (some (bt230.1, bt230.2.1, bt230.2.2.1, bt230.2.2.2))) else (if a0 = 6 then ((value_Neg.f k a1_0 a1_1 a1_2).bind fun bt234 => (some (bt234.1, bt234.2.1, bt234.2.2.1, bt234.2.2.2))) else (if a0 = 13 then (expr_do.j0 k a0 (a1_0 == 0) a0 (a0 == 13) a1_0 a1_1 a1_2 a2_0 a2_1 a2_2) else (expr_do.j0 k a0 (a1_0 == 0) a0 (a0 == 14) a1_0 a1_1 a1_2 a2_0 a2_1 a2_2)))))
theorem expr_do.mono_l : ∀ k, (∀ y0 y1 y2 y3 y4 y5 y6 y7 y8 y9, LeO (expr_do.j0 k y0 y1 y2 y3 y4 y5 y6 y7 y8 y9) (expr_do.j0 (k + 1) y0 y1 y2 y3 y4 y5 y6 y7 y8 y9)) ∧ (∀ y0 y1 y2 y3 y4 y5 y6 y7, LeO (expr_do.j1 k y0 y1 y2 y3 y4 y5 y6 y7) (expr_do.j1 (k + 1) y0 y1 y2 y3 y4 y5 y6 y7))
  | 0 => ⟨fun _ _ _ _ _ _ _ _ _ _ r h => by simp [expr_do.j0] at h, fun _ _ _ _ _ _ _ _ r h => by simp [expr_do.j1] at h⟩
  | k + 1 => by
    obtain ⟨ih0, ih1⟩ := expr_do.mono_l k
    refine ⟨?_, ?_⟩
    all_goals intros
    all_goals first
      | unfold expr_do.j0
      | unfold expr_do.j1
    all_goals repeat' first
      | (with_reducible exact ih0 _ _ _ _ _ _ _ _ _ _)
      | (with_reducible exact ih1 _ _ _ _ _ _ _ _)
      | (with_reducible exact expr_logic.mono _ _ _ _ _ _ _ _)
      | (with_reducible exact value_Add.mono _ _ _ _ _ _ _)
      | (with_reducible exact value_Compare.mono _ _ _ _ _ _ _)
      | (with_reducible exact value_Mul.mono _ _ _ _ _ _ _)
      | (with_reducible exact value_Neg.mono _ _ _ _)
      | (with_reducible exact value_Sub.mono _ _ _ _ _ _ _)
      | (with_reducible exact LeO.refl _)
      | (with_reducible exact LeO.none _)
      | (with_reducible refine LeO.ite ?_ ?_)
      | (with_reducible refine LeO.bind ?_ (fun _ => ?_))
      | exact ih0 _ _ _ _ _ _ _ _ _ _
      | exact ih1 _ _ _ _ _ _ _ _
      | exact expr_logic.mono _ _ _ _ _ _ _ _
      | exact value_Add.mono _ _ _ _ _ _ _
      | exact value_Compare.mono _ _ _ _ _ _ _
      | exact value_Mul.mono _ _ _ _ _ _ _
      | exact value_Neg.mono _ _ _ _
      | exact value_Sub.mono _ _ _ _ _ _ _
      | exact LeO.none _
      | refine LeO.ite ?_ ?_
      | refine LeO.bind ?_ (fun _ => ?_)
theorem expr_do.mono : ∀ a0 a1 a2 a3 a4 a5 a6 k, LeO (expr_do.f k a0 a1 a2 a3 a4 a5 a6) (expr_do.f (k + 1) a0 a1 a2 a3 a4 a5 a6) := by
  intro a0 a1 a2 a3 a4 a5 a6 k
  obtain ⟨ih0, ih1⟩ := expr_do.mono_l k
  unfold expr_do.f
  repeat' first
      | (with_reducible exact ih0 _ _ _ _ _ _ _ _ _ _)
      | (with_reducible exact ih1 _ _ _ _ _ _ _ _)
      | (with_reducible exact expr_logic.mono _ _ _ _ _ _ _ _)
      | (with_reducible exact value_Add.mono _ _ _ _ _ _ _)
      | (with_reducible exact value_Compare.mono _ _ _ _ _ _ _)
      | (with_reducible exact value_Mul.mono _ _ _ _ _ _ _)
      | (with_reducible exact value_Neg.mono _ _ _ _)
      | (with_reducible exact value_Sub.mono _ _ _ _ _ _ _)
      | (with_reducible exact LeO.refl _)
      | (with_reducible exact LeO.none _)
      | (with_reducible refine LeO.ite ?_ ?_)
      | (with_reducible refine LeO.bind ?_ (fun _ => ?_))
      | exact ih0 _ _ _ _ _ _ _ _ _ _
      | exact ih1 _ _ _ _ _ _ _ _
      | exact expr_logic.mono _ _ _ _ _ _ _ _
      | exact value_Add.mono _ _ _ _ _ _ _
      | exact value_Compare.mono _ _ _ _ _ _ _
      | exact value_Mul.mono _ _ _ _ _ _ _
      | exact value_Neg.mono _ _ _ _
      | exact value_Sub.mono _ _ _ _ _ _ _
      | exact LeO.none _
      | refine LeO.ite ?_ ?_
      | refine LeO.bind ?_ (fun _ => ?_)
set_option maxHeartbeats 8000000 in
set_option maxRecDepth 100000 in
theorem expr_do.calls (k : Nat) (a0 : Int) (a1_0 : Int) (a1_1 : Int) (a1_2 : ByteArray) (a2_0 : Int) (a2_1 : Int) (a2_2 : ByteArray) (r1 : Int) (r2 : Int) (r3 : ByteArray) (r4 : Int) (w : World) (h : expr_do.f k a0 a1_0 a1_1 a1_2 a2_0 a2_1 a2_2 = some (r1, r2, r3, r4)) (hG : Glob w) :
    Calls Tryd.prog 25 #[.int .i64 a0, .agg #[.int .i64 a1_0, .int .i64 a1_1, .string a1_2], .agg #[.int .i64 a2_0, .int .i64 a2_1, .string a2_2]] w fun e w' => e = .returned (.tuple #[.agg #[.int .i64 r1, .int .i64 r2, .string r3], .int .i64 r4]) ∧ Below w.heap.size w w' := by
  have hu31 := Tryd.underlying31
  have HG := Aside0.mk hG
  clear hG
  have HB := Aside0.mk (Below.refl w.heap.size w)
  have H : (if a0 = 3 then ((value_Add.f k a1_0 a1_1 a1_2 a2_0 a2_1 a2_2).bind fun bt222 => (some (bt222.1, bt222.2.1, bt222.2.2.1, bt222.2.2.2))) else (if a0 = 4 then ((value_Sub.f k a1_0 a1_1 a1_2 a2_0 a2_1 a2_2).bind fun bt226 => (some (bt226.1, bt226.2.1, bt226.2.2.1, bt226.2.2.2))) else (if a0 = 5 then ((value_Mul.f k a1_0 a1_1 a1_2 a2_0 a2_1 a2_2).bind fun bt230 => (some (bt230.1, bt230.2.1, bt230.2.2.1, bt230.2.2.2))) else (if a0 = 6 then ((value_Neg.f k a1_0 a1_1 a1_2).bind fun bt234 => (some (bt234.1, bt234.2.1, bt234.2.2.1, bt234.2.2.2))) else (if a0 = 13 then (expr_do.j0 k a0 (a1_0 == 0) a0 (a0 == 13) a1_0 a1_1 a1_2 a2_0 a2_1 a2_2) else (expr_do.j0 k a0 (a1_0 == 0) a0 (a0 == 14) a1_0 a1_1 a1_2 a2_0 a2_1 a2_2)))))) = some (r1, r2, r3, r4) := h
  clear h
  by_cases c4 : a0 = 3
  · rw [if_pos c4] at H
    have c4b0 : (a0 == 3) = true := beq_iff_eq.mpr c4
    have c4b1 : (a0 != 3) = false := bne_eq_false_iff_eq.mpr c4
    clear c4
    replace H := Option.bind_eq_some_iff.mp H
    obtain ⟨⟨t222, t223, t224, t225⟩, A50, H⟩ := H
    replace H : (some (t222, t223, t224, t225)) = some (r1, r2, r3, r4) := H
    have A5 := Aside0.mk A50
    clear A50
    simp only [Option.some.injEq, Prod.mk.injEq] at H
    obtain ⟨rfl, rfl, rfl, rfl⟩ := H
    go_enter Tryd.func25, Tryd.ntmps25
    go_wp2_with (first | ((with_reducible refine gate_dst (N := 4) rfl ?_); refine box_event ?hg (N := 4) ?hd (cs := #[.int .i64 a1_0, .int .i64 a1_1, .string a1_2]) (t := 31) ?hr ?_; (case hd => rfl); (case hg => rfl); (case hr => first | (go_simp; done) | (go_simp; rfl)); intro gb219 hg w6 hbox hb; have n0_ := Aside0.mk (below_step q0_ hb); have n1_ := Aside0.mk (hbox); have n2_ := Aside0.mk ((q1_ : w.heap.size ≤ gb219)); have n3_ := Aside0.mk ((q1_ : w.heap.size ≤ gb219)); clear HB; have HB := n0_; have BK219 := n1_; have GW219 := n2_; have GE219 := n3_; clear n0_ n1_ n2_ n3_; clear hb hbox hg) | ((with_reducible refine gate_dst (N := 5) rfl ?_); refine box_event ?hg (N := 5) ?hd (cs := #[.int .i64 a2_0, .int .i64 a2_1, .string a2_2]) (t := 31) ?hr ?_; (case hd => rfl); (case hg => rfl); (case hr => first | (go_simp; done) | (go_simp; rfl)); intro gb220 hg w7 hbox hb; have n0_ := Aside0.mk (blk_below (g := gb219) (o := .cells #[.int .i64 a1_0, .int .i64 a1_1, .string a1_2] 31 (0, 0)) q13_ hb); have n1_ := Aside0.mk (below_step q0_ hb); have n2_ := Aside0.mk (hbox); have n3_ := Aside0.mk ((q1_ : w.heap.size ≤ gb220)); have n4_ := Aside0.mk ((q1_ : w.heap.size ≤ gb220)); have n5_ := Aside0.mk ((q29_ : gb219 ≠ gb220)); have n6_ := Aside0.mk ((q30_ : gb220 ≠ gb219)); clear BK219; clear HB; have BK219 := n0_; have HB := n1_; have BK220 := n2_; have GW220 := n3_; have GE220 := n4_; have NB219_220 := n5_; have NB220_219 := n6_; clear n0_ n1_ n2_ n3_ n4_ n5_ n6_; clear hb hbox hg) | ((with_reducible refine gate_dst (N := 6) rfl ?_); refine box_event ?hg (N := 6) ?hd (cs := #[.int .i64 0, .int .i64 0, .string (⟨#[]⟩ : ByteArray)]) (t := 31) ?hr ?_; (case hd => rfl); (case hg => rfl); (case hr => first | (go_simp; done) | (go_simp; rfl)); intro gb221 hg w8 hbox hb; have n0_ := Aside0.mk (blk_below (g := gb219) (o := .cells #[.int .i64 a1_0, .int .i64 a1_1, .string a1_2] 31 (0, 0)) q13_ hb); have n1_ := Aside0.mk (blk_below (g := gb220) (o := .cells #[.int .i64 a2_0, .int .i64 a2_1, .string a2_2] 31 (0, 0)) q25_ hb); have n2_ := Aside0.mk (below_step q0_ hb); have n3_ := Aside0.mk (hbox); have n4_ := Aside0.mk ((q1_ : w.heap.size ≤ gb221)); have n5_ := Aside0.mk ((q1_ : w.heap.size ≤ gb221)); have n6_ := Aside0.mk ((q29_ : gb219 ≠ gb221)); have n7_ := Aside0.mk ((q30_ : gb221 ≠ gb219)); have n8_ := Aside0.mk ((q80_ : gb220 ≠ gb221)); have n9_ := Aside0.mk ((q82_ : gb221 ≠ gb220)); clear BK219; clear BK220; clear HB; have BK219 := n0_; have BK220 := n1_; have HB := n2_; have BK221 := n3_; have GW221 := n4_; have GE221 := n5_; have NB219_221 := n6_; have NB221_219 := n7_; have NB220_221 := n8_; have NB221_220 := n9_; clear n0_ n1_ n2_ n3_ n4_ n5_ n6_ n7_ n8_ n9_; clear hb hbox hg; have hnb9 := NB219_220.out; have hnc9 := NB220_219.out; have hnb10 := NB219_221.out; have hnc10 := NB221_219.out; have hcz11_0 : w8.cell? ⟨gb219, 0, none⟩ = some (.int .i64 a1_0) := (blk_cell BK219.out 0).trans rfl; have hcz11_1 : w8.cell? ⟨gb219, 1, none⟩ = some (.int .i64 a1_1) := (blk_cell BK219.out 1).trans rfl; have hcz11_2 : w8.cell? ⟨gb219, 2, none⟩ = some (.string a1_2) := (blk_cell BK219.out 2).trans rfl; have hfz11_0 := blk_frozen BK219.out 0; have hfz11_1 := blk_frozen BK219.out 1; have hfz11_2 := blk_frozen BK219.out 2; have hnb12 := NB220_221.out; have hnc12 := NB221_220.out; have hcz13_0 : w8.cell? ⟨gb220, 0, none⟩ = some (.int .i64 a2_0) := (blk_cell BK220.out 0).trans rfl; have hcz13_1 : w8.cell? ⟨gb220, 1, none⟩ = some (.int .i64 a2_1) := (blk_cell BK220.out 1).trans rfl; have hcz13_2 : w8.cell? ⟨gb220, 2, none⟩ = some (.string a2_2) := (blk_cell BK220.out 2).trans rfl; have hfz13_0 := blk_frozen BK220.out 0; have hfz13_1 := blk_frozen BK220.out 1; have hfz13_2 := blk_frozen BK220.out 2) | ((with_reducible refine gate_callee (f := 30) rfl ?_); refine goesL_ (some 17) rfl rfl Tryd.func30 (by kernel_rfl) rfl #[.agg #[.int .i64 a1_0, .int .i64 a1_1, .string a1_2], .agg #[.int .i64 a2_0, .int .i64 a2_1, .string a2_2]] rfl q2_ ?_; (with_reducible refine (value_Add.calls k a1_0 a1_1 a1_2 a2_0 a2_1 a2_2 t222 t223 t224 t225 _ A5.out q62_).mono ?_); rintro e w14 ⟨rfl, hb⟩; refine ⟨_, rfl, ?_⟩; have n0_ := Aside0.mk (blk_below (g := gb219) (o := .cells #[.int .i64 a1_0, .int .i64 a1_1, .string a1_2] 31 (0, 0)) q13_ hb); have n1_ := Aside0.mk (blk_below (g := gb220) (o := .cells #[.int .i64 a2_0, .int .i64 a2_1, .string a2_2] 31 (0, 0)) q25_ hb); have n2_ := Aside0.mk (blk_below (g := gb221) (o := .cells #[.int .i64 0, .int .i64 0, .string (⟨#[]⟩ : ByteArray)] 31 (0, 0)) q63_ hb); have n3_ := Aside0.mk (below_step q0_ hb); clear BK219; clear BK220; clear BK221; clear HB; have BK219 := n0_; have BK220 := n1_; have BK221 := n2_; have HB := n3_; clear n0_ n1_ n2_ n3_; (try clear hb); (try clear hb2); (try clear hk); (try clear hi); have hcz15_0 : w14.cell? ⟨gb221, 0, none⟩ = some (.int .i64 0) := (blk_cell BK221.out 0).trans rfl; have hcz15_1 : w14.cell? ⟨gb221, 1, none⟩ = some (.int .i64 0) := (blk_cell BK221.out 1).trans rfl; have hcz15_2 : w14.cell? ⟨gb221, 2, none⟩ = some (.string (⟨#[]⟩ : ByteArray)) := (blk_cell BK221.out 2).trans rfl; have hfz15_0 := blk_frozen BK221.out 0; have hfz15_1 := blk_frozen BK221.out 1; have hfz15_2 := blk_frozen BK221.out 2))
    refine bodyPost_ret (results_ct rfl _ _ gb221 31 #[.int .i64 t222, .int .i64 t223, .string t224] (0, 0) _ rfl (by (with_reducible repeat first | apply bN_ | apply bD_ | apply bA_); refine blk_put (cs := #[.int .i64 t222, .int .i64 t223, .string (⟨#[]⟩ : ByteArray)]) ?_ 2 _ rfl; (with_reducible repeat first | apply bN_ | apply bD_ | apply bA_); refine blk_put (cs := #[.int .i64 t222, .int .i64 0, .string (⟨#[]⟩ : ByteArray)]) ?_ 1 _ rfl; (with_reducible repeat first | apply bN_ | apply bD_ | apply bA_); refine blk_put (cs := #[.int .i64 0, .int .i64 0, .string (⟨#[]⟩ : ByteArray)]) ?_ 0 _ rfl; (with_reducible repeat first | apply bN_ | apply bD_ | apply bA_); exact BK221.out) Tryd.underlying31 rfl (by kernel_rfl)) rfl ?_
    exact ⟨q4_, q0_⟩
  · rw [if_neg c4] at H
    have c4b0 : (a0 == 3) = false := beq_eq_false_iff_ne.mpr c4
    have c4b1 : (a0 != 3) = true := bne_iff_ne.mpr c4
    by_cases c16 : a0 = 4
    · rw [if_pos c16] at H
      have c16b0 : (a0 == 4) = true := beq_iff_eq.mpr c16
      have c16b1 : (a0 != 4) = false := bne_eq_false_iff_eq.mpr c16
      clear c16
      replace H := Option.bind_eq_some_iff.mp H
      obtain ⟨⟨t226, t227, t228, t229⟩, A170, H⟩ := H
      replace H : (some (t226, t227, t228, t229)) = some (r1, r2, r3, r4) := H
      have A17 := Aside0.mk A170
      clear A170
      simp only [Option.some.injEq, Prod.mk.injEq] at H
      obtain ⟨rfl, rfl, rfl, rfl⟩ := H
      go_enter Tryd.func25, Tryd.ntmps25
      go_wp2_with (first | ((with_reducible refine gate_dst (N := 4) rfl ?_); refine box_event ?hg (N := 4) ?hd (cs := #[.int .i64 a1_0, .int .i64 a1_1, .string a1_2]) (t := 31) ?hr ?_; (case hd => rfl); (case hg => rfl); (case hr => first | (go_simp; done) | (go_simp; rfl)); intro gb219 hg w18 hbox hb; have n0_ := Aside0.mk (below_step q0_ hb); have n1_ := Aside0.mk (hbox); have n2_ := Aside0.mk ((q1_ : w.heap.size ≤ gb219)); have n3_ := Aside0.mk ((q1_ : w.heap.size ≤ gb219)); clear HB; have HB := n0_; have BK219 := n1_; have GW219 := n2_; have GE219 := n3_; clear n0_ n1_ n2_ n3_; clear hb hbox hg) | ((with_reducible refine gate_dst (N := 5) rfl ?_); refine box_event ?hg (N := 5) ?hd (cs := #[.int .i64 a2_0, .int .i64 a2_1, .string a2_2]) (t := 31) ?hr ?_; (case hd => rfl); (case hg => rfl); (case hr => first | (go_simp; done) | (go_simp; rfl)); intro gb220 hg w19 hbox hb; have n0_ := Aside0.mk (blk_below (g := gb219) (o := .cells #[.int .i64 a1_0, .int .i64 a1_1, .string a1_2] 31 (0, 0)) q13_ hb); have n1_ := Aside0.mk (below_step q0_ hb); have n2_ := Aside0.mk (hbox); have n3_ := Aside0.mk ((q1_ : w.heap.size ≤ gb220)); have n4_ := Aside0.mk ((q1_ : w.heap.size ≤ gb220)); have n5_ := Aside0.mk ((q29_ : gb219 ≠ gb220)); have n6_ := Aside0.mk ((q30_ : gb220 ≠ gb219)); clear BK219; clear HB; have BK219 := n0_; have HB := n1_; have BK220 := n2_; have GW220 := n3_; have GE220 := n4_; have NB219_220 := n5_; have NB220_219 := n6_; clear n0_ n1_ n2_ n3_ n4_ n5_ n6_; clear hb hbox hg) | ((with_reducible refine gate_dst (N := 6) rfl ?_); refine box_event ?hg (N := 6) ?hd (cs := #[.int .i64 0, .int .i64 0, .string (⟨#[]⟩ : ByteArray)]) (t := 31) ?hr ?_; (case hd => rfl); (case hg => rfl); (case hr => first | (go_simp; done) | (go_simp; rfl)); intro gb221 hg w20 hbox hb; have n0_ := Aside0.mk (blk_below (g := gb219) (o := .cells #[.int .i64 a1_0, .int .i64 a1_1, .string a1_2] 31 (0, 0)) q13_ hb); have n1_ := Aside0.mk (blk_below (g := gb220) (o := .cells #[.int .i64 a2_0, .int .i64 a2_1, .string a2_2] 31 (0, 0)) q25_ hb); have n2_ := Aside0.mk (below_step q0_ hb); have n3_ := Aside0.mk (hbox); have n4_ := Aside0.mk ((q1_ : w.heap.size ≤ gb221)); have n5_ := Aside0.mk ((q1_ : w.heap.size ≤ gb221)); have n6_ := Aside0.mk ((q29_ : gb219 ≠ gb221)); have n7_ := Aside0.mk ((q30_ : gb221 ≠ gb219)); have n8_ := Aside0.mk ((q80_ : gb220 ≠ gb221)); have n9_ := Aside0.mk ((q82_ : gb221 ≠ gb220)); clear BK219; clear BK220; clear HB; have BK219 := n0_; have BK220 := n1_; have HB := n2_; have BK221 := n3_; have GW221 := n4_; have GE221 := n5_; have NB219_221 := n6_; have NB221_219 := n7_; have NB220_221 := n8_; have NB221_220 := n9_; clear n0_ n1_ n2_ n3_ n4_ n5_ n6_ n7_ n8_ n9_; clear hb hbox hg; have hnb21 := NB219_220.out; have hnc21 := NB220_219.out; have hnb22 := NB219_221.out; have hnc22 := NB221_219.out; have hcz23_0 : w20.cell? ⟨gb219, 0, none⟩ = some (.int .i64 a1_0) := (blk_cell BK219.out 0).trans rfl; have hcz23_1 : w20.cell? ⟨gb219, 1, none⟩ = some (.int .i64 a1_1) := (blk_cell BK219.out 1).trans rfl; have hcz23_2 : w20.cell? ⟨gb219, 2, none⟩ = some (.string a1_2) := (blk_cell BK219.out 2).trans rfl; have hfz23_0 := blk_frozen BK219.out 0; have hfz23_1 := blk_frozen BK219.out 1; have hfz23_2 := blk_frozen BK219.out 2; have hnb24 := NB220_221.out; have hnc24 := NB221_220.out; have hcz25_0 : w20.cell? ⟨gb220, 0, none⟩ = some (.int .i64 a2_0) := (blk_cell BK220.out 0).trans rfl; have hcz25_1 : w20.cell? ⟨gb220, 1, none⟩ = some (.int .i64 a2_1) := (blk_cell BK220.out 1).trans rfl; have hcz25_2 : w20.cell? ⟨gb220, 2, none⟩ = some (.string a2_2) := (blk_cell BK220.out 2).trans rfl; have hfz25_0 := blk_frozen BK220.out 0; have hfz25_1 := blk_frozen BK220.out 1; have hfz25_2 := blk_frozen BK220.out 2) | ((with_reducible refine gate_callee (f := 31) rfl ?_); refine goesL_ (some 24) rfl rfl Tryd.func31 (by kernel_rfl) rfl #[.agg #[.int .i64 a1_0, .int .i64 a1_1, .string a1_2], .agg #[.int .i64 a2_0, .int .i64 a2_1, .string a2_2]] rfl q2_ ?_; (with_reducible refine (value_Sub.calls k a1_0 a1_1 a1_2 a2_0 a2_1 a2_2 t226 t227 t228 t229 _ A17.out q62_).mono ?_); rintro e w26 ⟨rfl, hb⟩; refine ⟨_, rfl, ?_⟩; have n0_ := Aside0.mk (blk_below (g := gb219) (o := .cells #[.int .i64 a1_0, .int .i64 a1_1, .string a1_2] 31 (0, 0)) q13_ hb); have n1_ := Aside0.mk (blk_below (g := gb220) (o := .cells #[.int .i64 a2_0, .int .i64 a2_1, .string a2_2] 31 (0, 0)) q25_ hb); have n2_ := Aside0.mk (blk_below (g := gb221) (o := .cells #[.int .i64 0, .int .i64 0, .string (⟨#[]⟩ : ByteArray)] 31 (0, 0)) q63_ hb); have n3_ := Aside0.mk (below_step q0_ hb); clear BK219; clear BK220; clear BK221; clear HB; have BK219 := n0_; have BK220 := n1_; have BK221 := n2_; have HB := n3_; clear n0_ n1_ n2_ n3_; (try clear hb); (try clear hb2); (try clear hk); (try clear hi); have hcz27_0 : w26.cell? ⟨gb221, 0, none⟩ = some (.int .i64 0) := (blk_cell BK221.out 0).trans rfl; have hcz27_1 : w26.cell? ⟨gb221, 1, none⟩ = some (.int .i64 0) := (blk_cell BK221.out 1).trans rfl; have hcz27_2 : w26.cell? ⟨gb221, 2, none⟩ = some (.string (⟨#[]⟩ : ByteArray)) := (blk_cell BK221.out 2).trans rfl; have hfz27_0 := blk_frozen BK221.out 0; have hfz27_1 := blk_frozen BK221.out 1; have hfz27_2 := blk_frozen BK221.out 2))
      refine bodyPost_ret (results_ct rfl _ _ gb221 31 #[.int .i64 t226, .int .i64 t227, .string t228] (0, 0) _ rfl (by (with_reducible repeat first | apply bN_ | apply bD_ | apply bA_); refine blk_put (cs := #[.int .i64 t226, .int .i64 t227, .string (⟨#[]⟩ : ByteArray)]) ?_ 2 _ rfl; (with_reducible repeat first | apply bN_ | apply bD_ | apply bA_); refine blk_put (cs := #[.int .i64 t226, .int .i64 0, .string (⟨#[]⟩ : ByteArray)]) ?_ 1 _ rfl; (with_reducible repeat first | apply bN_ | apply bD_ | apply bA_); refine blk_put (cs := #[.int .i64 0, .int .i64 0, .string (⟨#[]⟩ : ByteArray)]) ?_ 0 _ rfl; (with_reducible repeat first | apply bN_ | apply bD_ | apply bA_); exact BK221.out) Tryd.underlying31 rfl (by kernel_rfl)) rfl ?_
      exact ⟨q4_, q0_⟩
    · rw [if_neg c16] at H
      have c16b0 : (a0 == 4) = false := beq_eq_false_iff_ne.mpr c16
      have c16b1 : (a0 != 4) = true := bne_iff_ne.mpr c16
      by_cases c28 : a0 = 5
      · rw [if_pos c28] at H
        have c28b0 : (a0 == 5) = true := beq_iff_eq.mpr c28
        have c28b1 : (a0 != 5) = false := bne_eq_false_iff_eq.mpr c28
        clear c28
        replace H := Option.bind_eq_some_iff.mp H
        obtain ⟨⟨t230, t231, t232, t233⟩, A290, H⟩ := H
        replace H : (some (t230, t231, t232, t233)) = some (r1, r2, r3, r4) := H
        have A29 := Aside0.mk A290
        clear A290
        simp only [Option.some.injEq, Prod.mk.injEq] at H
        obtain ⟨rfl, rfl, rfl, rfl⟩ := H
        go_enter Tryd.func25, Tryd.ntmps25
        go_wp2_with (first | ((with_reducible refine gate_dst (N := 4) rfl ?_); refine box_event ?hg (N := 4) ?hd (cs := #[.int .i64 a1_0, .int .i64 a1_1, .string a1_2]) (t := 31) ?hr ?_; (case hd => rfl); (case hg => rfl); (case hr => first | (go_simp; done) | (go_simp; rfl)); intro gb219 hg w30 hbox hb; have n0_ := Aside0.mk (below_step q0_ hb); have n1_ := Aside0.mk (hbox); have n2_ := Aside0.mk ((q1_ : w.heap.size ≤ gb219)); have n3_ := Aside0.mk ((q1_ : w.heap.size ≤ gb219)); clear HB; have HB := n0_; have BK219 := n1_; have GW219 := n2_; have GE219 := n3_; clear n0_ n1_ n2_ n3_; clear hb hbox hg) | ((with_reducible refine gate_dst (N := 5) rfl ?_); refine box_event ?hg (N := 5) ?hd (cs := #[.int .i64 a2_0, .int .i64 a2_1, .string a2_2]) (t := 31) ?hr ?_; (case hd => rfl); (case hg => rfl); (case hr => first | (go_simp; done) | (go_simp; rfl)); intro gb220 hg w31 hbox hb; have n0_ := Aside0.mk (blk_below (g := gb219) (o := .cells #[.int .i64 a1_0, .int .i64 a1_1, .string a1_2] 31 (0, 0)) q13_ hb); have n1_ := Aside0.mk (below_step q0_ hb); have n2_ := Aside0.mk (hbox); have n3_ := Aside0.mk ((q1_ : w.heap.size ≤ gb220)); have n4_ := Aside0.mk ((q1_ : w.heap.size ≤ gb220)); have n5_ := Aside0.mk ((q29_ : gb219 ≠ gb220)); have n6_ := Aside0.mk ((q30_ : gb220 ≠ gb219)); clear BK219; clear HB; have BK219 := n0_; have HB := n1_; have BK220 := n2_; have GW220 := n3_; have GE220 := n4_; have NB219_220 := n5_; have NB220_219 := n6_; clear n0_ n1_ n2_ n3_ n4_ n5_ n6_; clear hb hbox hg) | ((with_reducible refine gate_dst (N := 6) rfl ?_); refine box_event ?hg (N := 6) ?hd (cs := #[.int .i64 0, .int .i64 0, .string (⟨#[]⟩ : ByteArray)]) (t := 31) ?hr ?_; (case hd => rfl); (case hg => rfl); (case hr => first | (go_simp; done) | (go_simp; rfl)); intro gb221 hg w32 hbox hb; have n0_ := Aside0.mk (blk_below (g := gb219) (o := .cells #[.int .i64 a1_0, .int .i64 a1_1, .string a1_2] 31 (0, 0)) q13_ hb); have n1_ := Aside0.mk (blk_below (g := gb220) (o := .cells #[.int .i64 a2_0, .int .i64 a2_1, .string a2_2] 31 (0, 0)) q25_ hb); have n2_ := Aside0.mk (below_step q0_ hb); have n3_ := Aside0.mk (hbox); have n4_ := Aside0.mk ((q1_ : w.heap.size ≤ gb221)); have n5_ := Aside0.mk ((q1_ : w.heap.size ≤ gb221)); have n6_ := Aside0.mk ((q29_ : gb219 ≠ gb221)); have n7_ := Aside0.mk ((q30_ : gb221 ≠ gb219)); have n8_ := Aside0.mk ((q80_ : gb220 ≠ gb221)); have n9_ := Aside0.mk ((q82_ : gb221 ≠ gb220)); clear BK219; clear BK220; clear HB; have BK219 := n0_; have BK220 := n1_; have HB := n2_; have BK221 := n3_; have GW221 := n4_; have GE221 := n5_; have NB219_221 := n6_; have NB221_219 := n7_; have NB220_221 := n8_; have NB221_220 := n9_; clear n0_ n1_ n2_ n3_ n4_ n5_ n6_ n7_ n8_ n9_; clear hb hbox hg; have hnb33 := NB219_220.out; have hnc33 := NB220_219.out; have hnb34 := NB219_221.out; have hnc34 := NB221_219.out; have hcz35_0 : w32.cell? ⟨gb219, 0, none⟩ = some (.int .i64 a1_0) := (blk_cell BK219.out 0).trans rfl; have hcz35_1 : w32.cell? ⟨gb219, 1, none⟩ = some (.int .i64 a1_1) := (blk_cell BK219.out 1).trans rfl; have hcz35_2 : w32.cell? ⟨gb219, 2, none⟩ = some (.string a1_2) := (blk_cell BK219.out 2).trans rfl; have hfz35_0 := blk_frozen BK219.out 0; have hfz35_1 := blk_frozen BK219.out 1; have hfz35_2 := blk_frozen BK219.out 2; have hnb36 := NB220_221.out; have hnc36 := NB221_220.out; have hcz37_0 : w32.cell? ⟨gb220, 0, none⟩ = some (.int .i64 a2_0) := (blk_cell BK220.out 0).trans rfl; have hcz37_1 : w32.cell? ⟨gb220, 1, none⟩ = some (.int .i64 a2_1) := (blk_cell BK220.out 1).trans rfl; have hcz37_2 : w32.cell? ⟨gb220, 2, none⟩ = some (.string a2_2) := (blk_cell BK220.out 2).trans rfl; have hfz37_0 := blk_frozen BK220.out 0; have hfz37_1 := blk_frozen BK220.out 1; have hfz37_2 := blk_frozen BK220.out 2) | ((with_reducible refine gate_callee (f := 32) rfl ?_); refine goesL_ (some 31) rfl rfl Tryd.func32 (by kernel_rfl) rfl #[.agg #[.int .i64 a1_0, .int .i64 a1_1, .string a1_2], .agg #[.int .i64 a2_0, .int .i64 a2_1, .string a2_2]] rfl q2_ ?_; (with_reducible refine (value_Mul.calls k a1_0 a1_1 a1_2 a2_0 a2_1 a2_2 t230 t231 t232 t233 _ A29.out q62_).mono ?_); rintro e w38 ⟨rfl, hb⟩; refine ⟨_, rfl, ?_⟩; have n0_ := Aside0.mk (blk_below (g := gb219) (o := .cells #[.int .i64 a1_0, .int .i64 a1_1, .string a1_2] 31 (0, 0)) q13_ hb); have n1_ := Aside0.mk (blk_below (g := gb220) (o := .cells #[.int .i64 a2_0, .int .i64 a2_1, .string a2_2] 31 (0, 0)) q25_ hb); have n2_ := Aside0.mk (blk_below (g := gb221) (o := .cells #[.int .i64 0, .int .i64 0, .string (⟨#[]⟩ : ByteArray)] 31 (0, 0)) q63_ hb); have n3_ := Aside0.mk (below_step q0_ hb); clear BK219; clear BK220; clear BK221; clear HB; have BK219 := n0_; have BK220 := n1_; have BK221 := n2_; have HB := n3_; clear n0_ n1_ n2_ n3_; (try clear hb); (try clear hb2); (try clear hk); (try clear hi); have hcz39_0 : w38.cell? ⟨gb221, 0, none⟩ = some (.int .i64 0) := (blk_cell BK221.out 0).trans rfl; have hcz39_1 : w38.cell? ⟨gb221, 1, none⟩ = some (.int .i64 0) := (blk_cell BK221.out 1).trans rfl; have hcz39_2 : w38.cell? ⟨gb221, 2, none⟩ = some (.string (⟨#[]⟩ : ByteArray)) := (blk_cell BK221.out 2).trans rfl; have hfz39_0 := blk_frozen BK221.out 0; have hfz39_1 := blk_frozen BK221.out 1; have hfz39_2 := blk_frozen BK221.out 2))
        refine bodyPost_ret (results_ct rfl _ _ gb221 31 #[.int .i64 t230, .int .i64 t231, .string t232] (0, 0) _ rfl (by (with_reducible repeat first | apply bN_ | apply bD_ | apply bA_); refine blk_put (cs := #[.int .i64 t230, .int .i64 t231, .string (⟨#[]⟩ : ByteArray)]) ?_ 2 _ rfl; (with_reducible repeat first | apply bN_ | apply bD_ | apply bA_); refine blk_put (cs := #[.int .i64 t230, .int .i64 0, .string (⟨#[]⟩ : ByteArray)]) ?_ 1 _ rfl; (with_reducible repeat first | apply bN_ | apply bD_ | apply bA_); refine blk_put (cs := #[.int .i64 0, .int .i64 0, .string (⟨#[]⟩ : ByteArray)]) ?_ 0 _ rfl; (with_reducible repeat first | apply bN_ | apply bD_ | apply bA_); exact BK221.out) Tryd.underlying31 rfl (by kernel_rfl)) rfl ?_
        exact ⟨q4_, q0_⟩
      · rw [if_neg c28] at H
        have c28b0 : (a0 == 5) = false := beq_eq_false_iff_ne.mpr c28
        have c28b1 : (a0 != 5) = true := bne_iff_ne.mpr c28
        by_cases c40 : a0 = 6
        · rw [if_pos c40] at H
          have c40b0 : (a0 == 6) = true := beq_iff_eq.mpr c40
          have c40b1 : (a0 != 6) = false := bne_eq_false_iff_eq.mpr c40
          clear c40
          replace H := Option.bind_eq_some_iff.mp H
          obtain ⟨⟨t234, t235, t236, t237⟩, A410, H⟩ := H
          replace H : (some (t234, t235, t236, t237)) = some (r1, r2, r3, r4) := H
          have A41 := Aside0.mk A410
          clear A410
          simp only [Option.some.injEq, Prod.mk.injEq] at H
          obtain ⟨rfl, rfl, rfl, rfl⟩ := H
          go_enter Tryd.func25, Tryd.ntmps25
          go_wp2_with (first | ((with_reducible refine gate_dst (N := 4) rfl ?_); refine box_event ?hg (N := 4) ?hd (cs := #[.int .i64 a1_0, .int .i64 a1_1, .string a1_2]) (t := 31) ?hr ?_; (case hd => rfl); (case hg => rfl); (case hr => first | (go_simp; done) | (go_simp; rfl)); intro gb219 hg w42 hbox hb; have n0_ := Aside0.mk (below_step q0_ hb); have n1_ := Aside0.mk (hbox); have n2_ := Aside0.mk ((q1_ : w.heap.size ≤ gb219)); have n3_ := Aside0.mk ((q1_ : w.heap.size ≤ gb219)); clear HB; have HB := n0_; have BK219 := n1_; have GW219 := n2_; have GE219 := n3_; clear n0_ n1_ n2_ n3_; clear hb hbox hg) | ((with_reducible refine gate_dst (N := 5) rfl ?_); refine box_event ?hg (N := 5) ?hd (cs := #[.int .i64 a2_0, .int .i64 a2_1, .string a2_2]) (t := 31) ?hr ?_; (case hd => rfl); (case hg => rfl); (case hr => first | (go_simp; done) | (go_simp; rfl)); intro gb220 hg w43 hbox hb; have n0_ := Aside0.mk (blk_below (g := gb219) (o := .cells #[.int .i64 a1_0, .int .i64 a1_1, .string a1_2] 31 (0, 0)) q13_ hb); have n1_ := Aside0.mk (below_step q0_ hb); have n2_ := Aside0.mk (hbox); have n3_ := Aside0.mk ((q1_ : w.heap.size ≤ gb220)); have n4_ := Aside0.mk ((q1_ : w.heap.size ≤ gb220)); have n5_ := Aside0.mk ((q29_ : gb219 ≠ gb220)); have n6_ := Aside0.mk ((q30_ : gb220 ≠ gb219)); clear BK219; clear HB; have BK219 := n0_; have HB := n1_; have BK220 := n2_; have GW220 := n3_; have GE220 := n4_; have NB219_220 := n5_; have NB220_219 := n6_; clear n0_ n1_ n2_ n3_ n4_ n5_ n6_; clear hb hbox hg) | ((with_reducible refine gate_dst (N := 6) rfl ?_); refine box_event ?hg (N := 6) ?hd (cs := #[.int .i64 0, .int .i64 0, .string (⟨#[]⟩ : ByteArray)]) (t := 31) ?hr ?_; (case hd => rfl); (case hg => rfl); (case hr => first | (go_simp; done) | (go_simp; rfl)); intro gb221 hg w44 hbox hb; have n0_ := Aside0.mk (blk_below (g := gb219) (o := .cells #[.int .i64 a1_0, .int .i64 a1_1, .string a1_2] 31 (0, 0)) q13_ hb); have n1_ := Aside0.mk (blk_below (g := gb220) (o := .cells #[.int .i64 a2_0, .int .i64 a2_1, .string a2_2] 31 (0, 0)) q25_ hb); have n2_ := Aside0.mk (below_step q0_ hb); have n3_ := Aside0.mk (hbox); have n4_ := Aside0.mk ((q1_ : w.heap.size ≤ gb221)); have n5_ := Aside0.mk ((q1_ : w.heap.size ≤ gb221)); have n6_ := Aside0.mk ((q29_ : gb219 ≠ gb221)); have n7_ := Aside0.mk ((q30_ : gb221 ≠ gb219)); have n8_ := Aside0.mk ((q80_ : gb220 ≠ gb221)); have n9_ := Aside0.mk ((q82_ : gb221 ≠ gb220)); clear BK219; clear BK220; clear HB; have BK219 := n0_; have BK220 := n1_; have HB := n2_; have BK221 := n3_; have GW221 := n4_; have GE221 := n5_; have NB219_221 := n6_; have NB221_219 := n7_; have NB220_221 := n8_; have NB221_220 := n9_; clear n0_ n1_ n2_ n3_ n4_ n5_ n6_ n7_ n8_ n9_; clear hb hbox hg; have hnb45 := NB219_220.out; have hnc45 := NB220_219.out; have hnb46 := NB219_221.out; have hnc46 := NB221_219.out; have hcz47_0 : w44.cell? ⟨gb219, 0, none⟩ = some (.int .i64 a1_0) := (blk_cell BK219.out 0).trans rfl; have hcz47_1 : w44.cell? ⟨gb219, 1, none⟩ = some (.int .i64 a1_1) := (blk_cell BK219.out 1).trans rfl; have hcz47_2 : w44.cell? ⟨gb219, 2, none⟩ = some (.string a1_2) := (blk_cell BK219.out 2).trans rfl; have hfz47_0 := blk_frozen BK219.out 0; have hfz47_1 := blk_frozen BK219.out 1; have hfz47_2 := blk_frozen BK219.out 2) | ((with_reducible refine gate_callee (f := 33) rfl ?_); refine goesL_ (some 37) rfl rfl Tryd.func33 (by kernel_rfl) rfl #[.agg #[.int .i64 a1_0, .int .i64 a1_1, .string a1_2]] rfl q2_ ?_; (with_reducible refine (value_Neg.calls k a1_0 a1_1 a1_2 t234 t235 t236 t237 _ A41.out q62_).mono ?_); rintro e w48 ⟨rfl, hb⟩; refine ⟨_, rfl, ?_⟩; have n0_ := Aside0.mk (blk_below (g := gb219) (o := .cells #[.int .i64 a1_0, .int .i64 a1_1, .string a1_2] 31 (0, 0)) q13_ hb); have n1_ := Aside0.mk (blk_below (g := gb220) (o := .cells #[.int .i64 a2_0, .int .i64 a2_1, .string a2_2] 31 (0, 0)) q25_ hb); have n2_ := Aside0.mk (blk_below (g := gb221) (o := .cells #[.int .i64 0, .int .i64 0, .string (⟨#[]⟩ : ByteArray)] 31 (0, 0)) q63_ hb); have n3_ := Aside0.mk (below_step q0_ hb); clear BK219; clear BK220; clear BK221; clear HB; have BK219 := n0_; have BK220 := n1_; have BK221 := n2_; have HB := n3_; clear n0_ n1_ n2_ n3_; (try clear hb); (try clear hb2); (try clear hk); (try clear hi); have hnb49 := NB221_220.out; have hnc49 := NB220_221.out; have hcz50_0 : w48.cell? ⟨gb221, 0, none⟩ = some (.int .i64 0) := (blk_cell BK221.out 0).trans rfl; have hcz50_1 : w48.cell? ⟨gb221, 1, none⟩ = some (.int .i64 0) := (blk_cell BK221.out 1).trans rfl; have hcz50_2 : w48.cell? ⟨gb221, 2, none⟩ = some (.string (⟨#[]⟩ : ByteArray)) := (blk_cell BK221.out 2).trans rfl; have hfz50_0 := blk_frozen BK221.out 0; have hfz50_1 := blk_frozen BK221.out 1; have hfz50_2 := blk_frozen BK221.out 2))
          refine bodyPost_ret (results_ct rfl _ _ gb221 31 #[.int .i64 t234, .int .i64 t235, .string t236] (0, 0) _ rfl (by (with_reducible repeat first | apply bN_ | apply bD_ | apply bA_); refine blk_put (cs := #[.int .i64 t234, .int .i64 t235, .string (⟨#[]⟩ : ByteArray)]) ?_ 2 _ rfl; (with_reducible repeat first | apply bN_ | apply bD_ | apply bA_); refine blk_put (cs := #[.int .i64 t234, .int .i64 0, .string (⟨#[]⟩ : ByteArray)]) ?_ 1 _ rfl; (with_reducible repeat first | apply bN_ | apply bD_ | apply bA_); refine blk_put (cs := #[.int .i64 0, .int .i64 0, .string (⟨#[]⟩ : ByteArray)]) ?_ 0 _ rfl; (with_reducible repeat first | apply bN_ | apply bD_ | apply bA_); exact BK221.out) Tryd.underlying31 rfl (by kernel_rfl)) rfl ?_
          exact ⟨q4_, q0_⟩
        · rw [if_neg c40] at H
          have c40b0 : (a0 == 6) = false := beq_eq_false_iff_ne.mpr c40
          have c40b1 : (a0 != 6) = true := bne_iff_ne.mpr c40
          have HC51 := Aside0.mk H
          clear H
          go_enter Tryd.func25, Tryd.ntmps25
          go_upto_if 40 with (first | ((with_reducible refine gate_dst (N := 4) rfl ?_); refine box_event ?hg (N := 4) ?hd (cs := #[.int .i64 a1_0, .int .i64 a1_1, .string a1_2]) (t := 31) ?hr ?_; (case hd => rfl); (case hg => rfl); (case hr => first | (go_simp; done) | (go_simp; rfl)); intro gb219 hg w52 hbox hb; have n0_ := Aside0.mk (below_step q0_ hb); have n1_ := Aside0.mk (hbox); have n2_ := Aside0.mk ((q1_ : w.heap.size ≤ gb219)); have n3_ := Aside0.mk ((q1_ : w.heap.size ≤ gb219)); clear HB; have HB := n0_; have BK219 := n1_; have GW219 := n2_; have GE219 := n3_; clear n0_ n1_ n2_ n3_; clear hb hbox hg) | ((with_reducible refine gate_dst (N := 5) rfl ?_); refine box_event ?hg (N := 5) ?hd (cs := #[.int .i64 a2_0, .int .i64 a2_1, .string a2_2]) (t := 31) ?hr ?_; (case hd => rfl); (case hg => rfl); (case hr => first | (go_simp; done) | (go_simp; rfl)); intro gb220 hg w53 hbox hb; have n0_ := Aside0.mk (blk_below (g := gb219) (o := .cells #[.int .i64 a1_0, .int .i64 a1_1, .string a1_2] 31 (0, 0)) q13_ hb); have n1_ := Aside0.mk (below_step q0_ hb); have n2_ := Aside0.mk (hbox); have n3_ := Aside0.mk ((q1_ : w.heap.size ≤ gb220)); have n4_ := Aside0.mk ((q1_ : w.heap.size ≤ gb220)); have n5_ := Aside0.mk ((q29_ : gb219 ≠ gb220)); have n6_ := Aside0.mk ((q30_ : gb220 ≠ gb219)); clear BK219; clear HB; have BK219 := n0_; have HB := n1_; have BK220 := n2_; have GW220 := n3_; have GE220 := n4_; have NB219_220 := n5_; have NB220_219 := n6_; clear n0_ n1_ n2_ n3_ n4_ n5_ n6_; clear hb hbox hg) | ((with_reducible refine gate_dst (N := 6) rfl ?_); refine box_event ?hg (N := 6) ?hd (cs := #[.int .i64 0, .int .i64 0, .string (⟨#[]⟩ : ByteArray)]) (t := 31) ?hr ?_; (case hd => rfl); (case hg => rfl); (case hr => first | (go_simp; done) | (go_simp; rfl)); intro gb221 hg w54 hbox hb; have n0_ := Aside0.mk (blk_below (g := gb219) (o := .cells #[.int .i64 a1_0, .int .i64 a1_1, .string a1_2] 31 (0, 0)) q13_ hb); have n1_ := Aside0.mk (blk_below (g := gb220) (o := .cells #[.int .i64 a2_0, .int .i64 a2_1, .string a2_2] 31 (0, 0)) q25_ hb); have n2_ := Aside0.mk (below_step q0_ hb); have n3_ := Aside0.mk (hbox); have n4_ := Aside0.mk ((q1_ : w.heap.size ≤ gb221)); have n5_ := Aside0.mk ((q1_ : w.heap.size ≤ gb221)); have n6_ := Aside0.mk ((q29_ : gb219 ≠ gb221)); have n7_ := Aside0.mk ((q30_ : gb221 ≠ gb219)); have n8_ := Aside0.mk ((q80_ : gb220 ≠ gb221)); have n9_ := Aside0.mk ((q82_ : gb221 ≠ gb220)); clear BK219; clear BK220; clear HB; have BK219 := n0_; have BK220 := n1_; have HB := n2_; have BK221 := n3_; have GW221 := n4_; have GE221 := n5_; have NB219_221 := n6_; have NB221_219 := n7_; have NB220_221 := n8_; have NB221_220 := n9_; clear n0_ n1_ n2_ n3_ n4_ n5_ n6_ n7_ n8_ n9_; clear hb hbox hg; have hnb55 := NB219_220.out; have hnc55 := NB220_219.out; have hnb56 := NB219_221.out; have hnc56 := NB221_219.out; have hcz57_0 : w54.cell? ⟨gb219, 0, none⟩ = some (.int .i64 a1_0) := (blk_cell BK219.out 0).trans rfl; have hcz57_1 : w54.cell? ⟨gb219, 1, none⟩ = some (.int .i64 a1_1) := (blk_cell BK219.out 1).trans rfl; have hcz57_2 : w54.cell? ⟨gb219, 2, none⟩ = some (.string a1_2) := (blk_cell BK219.out 2).trans rfl; have hfz57_0 := blk_frozen BK219.out 0; have hfz57_1 := blk_frozen BK219.out 1; have hfz57_2 := blk_frozen BK219.out 2))
          (try simp only [Act.put, List.setIfInBounds_toArray, List.set_cons_zero, List.set_cons_succ])
          go_cut [40] (fun v40 wc => ∃ (kq : Nat) (x40_50 : Bool), v40 = .bool x40_50 ∧ Aside0 (expr_do.j0 kq a0 (a1_0 == 0) a0 x40_50 a1_0 a1_1 a1_2 a2_0 a2_1 a2_2 = some (r1, r2, r3, r4)) ∧ Aside0 (kq ≤ k) ∧ Aside0 (wc.heap[gb219]? = some (.cells #[.int .i64 a1_0, .int .i64 a1_1, .string a1_2] 31 (0, 0))) ∧ Aside0 (wc.heap[gb220]? = some (.cells #[.int .i64 a2_0, .int .i64 a2_1, .string a2_2] 31 (0, 0))) ∧ Aside0 (wc.heap[gb221]? = some (.cells #[.int .i64 0, .int .i64 0, .string (⟨#[]⟩ : ByteArray)] 31 (0, 0))) ∧ Aside0 (Below w.heap.size w wc))
          case first =>
            have H := HC51.out
            clear HC51
            by_cases c58 : a0 = 13
            · rw [if_pos c58] at H
              have c58b0 : (a0 == 13) = true := beq_iff_eq.mpr c58
              have c58b1 : (a0 != 13) = false := bne_eq_false_iff_eq.mpr c58
              clear c58
              (first | rw [c58b0] | (simp only [i64_w, i32_w]; rw [c58b0]) | skip)
              have H' := Aside0.mk H
              clear H
              go_wp2
              go_meet
              case rel => exact ⟨_, ((a0 == 13)), q7_, H', ⟨by first | omega | exact Nat.le_refl _⟩, ⟨q13_⟩, ⟨q25_⟩, ⟨q63_⟩, ⟨q0_⟩⟩
            · rw [if_neg c58] at H
              have c58b0 : (a0 == 13) = false := beq_eq_false_iff_ne.mpr c58
              have c58b1 : (a0 != 13) = true := bne_iff_ne.mpr c58
              (first | rw [c58b0] | (simp only [i64_w, i32_w]; rw [c58b0]) | skip)
              have H' := Aside0.mk H
              clear H
              go_wp2
              go_meet
              case rel => exact ⟨_, ((a0 == 14)), q7_, H', ⟨by first | omega | exact Nat.le_refl _⟩, ⟨q13_⟩, ⟨q25_⟩, ⟨q63_⟩, ⟨q0_⟩⟩
          case rest =>
            clear HC51
            try clear c1
            try clear c2
            try clear p2
            try clear c3
            try clear c4
            try clear c4b0
            try clear c4b1
            try clear c5
            try clear c9
            try clear c10
            try clear c12
            try clear c16
            try clear c16b0
            try clear c16b1
            try clear c21
            try clear c22
            try clear c24
            try clear c25
            try clear c28
            try clear c28b0
            try clear c28b1
            try clear c30
            try clear c31
            try clear c32
            try clear c33
            try clear c34
            try clear c36
            try clear c40
            try clear c40b0
            try clear c40b1
            try clear c45
            try clear c46
            try clear c49
            try clear c55
            try clear c56
            try clear c58
            try clear c58b0
            try clear c58b1
            try clear hcz11_0
            try clear hcz11_1
            try clear hcz11_2
            try clear hcz13_0
            try clear hcz13_1
            try clear hcz13_2
            try clear hcz15_0
            try clear hcz15_1
            try clear hcz15_2
            try clear hcz23_0
            try clear hcz23_1
            try clear hcz23_2
            try clear hcz25_0
            try clear hcz25_1
            try clear hcz25_2
            try clear hcz27_0
            try clear hcz27_1
            try clear hcz27_2
            try clear hcz35_0
            try clear hcz35_1
            try clear hcz35_2
            try clear hcz37_0
            try clear hcz37_1
            try clear hcz37_2
            try clear hcz39_0
            try clear hcz39_1
            try clear hcz39_2
            try clear hcz47_0
            try clear hcz47_1
            try clear hcz47_2
            try clear hcz50_0
            try clear hcz50_1
            try clear hcz50_2
            try clear hcz57_0
            try clear hcz57_1
            try clear hcz57_2
            try clear hfz11_0
            try clear hfz11_1
            try clear hfz11_2
            try clear hfz13_0
            try clear hfz13_1
            try clear hfz13_2
            try clear hfz15_0
            try clear hfz15_1
            try clear hfz15_2
            try clear hfz23_0
            try clear hfz23_1
            try clear hfz23_2
            try clear hfz25_0
            try clear hfz25_1
            try clear hfz25_2
            try clear hfz27_0
            try clear hfz27_1
            try clear hfz27_2
            try clear hfz35_0
            try clear hfz35_1
            try clear hfz35_2
            try clear hfz37_0
            try clear hfz37_1
            try clear hfz37_2
            try clear hfz39_0
            try clear hfz39_1
            try clear hfz39_2
            try clear hfz47_0
            try clear hfz47_1
            try clear hfz47_2
            try clear hfz50_0
            try clear hfz50_1
            try clear hfz50_2
            try clear hfz57_0
            try clear hfz57_1
            try clear hfz57_2
            obtain ⟨kq, x40_50, rfl, HA, HJ50, BK219, BK220, BK221, HB⟩ := hcut
            cases kq with
            | zero => exact absurd HA.out (by simp [expr_do.j0])
            | succ kj50 =>
              have H := HA.out
              clear HA
              simp only [expr_do.j0] at H
              by_cases c59 : x40_50 = true
              · subst c59
                replace H := ifT_ H
                replace H := Option.bind_eq_some_iff.mp H
                obtain ⟨⟨t238, t239, t240⟩, A600, H⟩ := H
                replace H : (some (t238, t239, t240, 0)) = some (r1, r2, r3, r4) := H
                have A60 := Aside0.mk A600
                clear A600
                simp only [Option.some.injEq, Prod.mk.injEq] at H
                obtain ⟨rfl, rfl, rfl, rfl⟩ := H
                have hnb61 := NB219_220.out
                have hnc61 := NB220_219.out
                have hnb62 := NB219_221.out
                have hnc62 := NB221_219.out
                have hcz63_0 : wc.cell? ⟨gb219, 0, none⟩ = some (.int .i64 a1_0) := (blk_cell BK219.out 0).trans rfl
                have hcz63_1 : wc.cell? ⟨gb219, 1, none⟩ = some (.int .i64 a1_1) := (blk_cell BK219.out 1).trans rfl
                have hcz63_2 : wc.cell? ⟨gb219, 2, none⟩ = some (.string a1_2) := (blk_cell BK219.out 2).trans rfl
                have hfz63_0 := blk_frozen BK219.out 0
                have hfz63_1 := blk_frozen BK219.out 1
                have hfz63_2 := blk_frozen BK219.out 2
                have hnb64 := NB220_221.out
                have hnc64 := NB221_220.out
                have hcz65_0 : wc.cell? ⟨gb220, 0, none⟩ = some (.int .i64 a2_0) := (blk_cell BK220.out 0).trans rfl
                have hcz65_1 : wc.cell? ⟨gb220, 1, none⟩ = some (.int .i64 a2_1) := (blk_cell BK220.out 1).trans rfl
                have hcz65_2 : wc.cell? ⟨gb220, 2, none⟩ = some (.string a2_2) := (blk_cell BK220.out 2).trans rfl
                have hfz65_0 := blk_frozen BK220.out 0
                have hfz65_1 := blk_frozen BK220.out 1
                have hfz65_2 := blk_frozen BK220.out 2
                go_wp2_with (first | ((with_reducible refine gate_callee (f := 34) rfl ?_); refine goesL_ (some 46) rfl rfl Tryd.func34 (by kernel_rfl) rfl #[.int .i64 a0, .agg #[.int .i64 a1_0, .int .i64 a1_1, .string a1_2], .agg #[.int .i64 a2_0, .int .i64 a2_1, .string a2_2]] rfl q2_ ?_; (with_reducible refine (expr_logic.calls kj50 a0 a1_0 a1_1 a1_2 a2_0 a2_1 a2_2 t238 t239 t240 _ A60.out).mono ?_); rintro e w66 ⟨rfl, hb⟩; refine ⟨_, rfl, ?_⟩; have n0_ := Aside0.mk (blk_below (g := gb219) (o := .cells #[.int .i64 a1_0, .int .i64 a1_1, .string a1_2] 31 (0, 0)) q13_ hb); have n1_ := Aside0.mk (blk_below (g := gb220) (o := .cells #[.int .i64 a2_0, .int .i64 a2_1, .string a2_2] 31 (0, 0)) q25_ hb); have n2_ := Aside0.mk (blk_below (g := gb221) (o := .cells #[.int .i64 0, .int .i64 0, .string (⟨#[]⟩ : ByteArray)] 31 (0, 0)) q63_ hb); have n3_ := Aside0.mk (below_step q0_ hb); clear BK219; clear BK220; clear BK221; clear HB; have BK219 := n0_; have BK220 := n1_; have BK221 := n2_; have HB := n3_; clear n0_ n1_ n2_ n3_; (try clear hb); (try clear hb2); (try clear hk); (try clear hi); have hcz67_0 : w66.cell? ⟨gb221, 0, none⟩ = some (.int .i64 0) := (blk_cell BK221.out 0).trans rfl; have hcz67_1 : w66.cell? ⟨gb221, 1, none⟩ = some (.int .i64 0) := (blk_cell BK221.out 1).trans rfl; have hcz67_2 : w66.cell? ⟨gb221, 2, none⟩ = some (.string (⟨#[]⟩ : ByteArray)) := (blk_cell BK221.out 2).trans rfl; have hfz67_0 := blk_frozen BK221.out 0; have hfz67_1 := blk_frozen BK221.out 1; have hfz67_2 := blk_frozen BK221.out 2))
                refine bodyPost_ret (results_ct rfl _ _ gb221 31 #[.int .i64 t238, .int .i64 t239, .string t240] (0, 0) _ rfl (by (with_reducible repeat first | apply bN_ | apply bD_ | apply bA_); refine blk_put (cs := #[.int .i64 t238, .int .i64 t239, .string (⟨#[]⟩ : ByteArray)]) ?_ 2 _ rfl; (with_reducible repeat first | apply bN_ | apply bD_ | apply bA_); refine blk_put (cs := #[.int .i64 t238, .int .i64 0, .string (⟨#[]⟩ : ByteArray)]) ?_ 1 _ rfl; (with_reducible repeat first | apply bN_ | apply bD_ | apply bA_); refine blk_put (cs := #[.int .i64 0, .int .i64 0, .string (⟨#[]⟩ : ByteArray)]) ?_ 0 _ rfl; (with_reducible repeat first | apply bN_ | apply bD_ | apply bA_); exact BK221.out) Tryd.underlying31 rfl (by kernel_rfl)) rfl ?_
                exact ⟨q4_, q0_⟩
              · replace c59 := Bool.eq_false_iff.mpr c59
                subst c59
                replace H := ifF_ H
                by_cases c68 : a0 = 16
                · rw [if_pos c68] at H
                  have c68b0 : (a0 == 16) = true := beq_iff_eq.mpr c68
                  have c68b1 : (a0 != 16) = false := bne_eq_false_iff_eq.mpr c68
                  clear c68
                  replace H := Option.bind_eq_some_iff.mp H
                  obtain ⟨⟨t241, t242, t243⟩, A690, H⟩ := H
                  replace H : (some (t241, t242, t243, 0)) = some (r1, r2, r3, r4) := H
                  have A69 := Aside0.mk A690
                  clear A690
                  simp only [Option.some.injEq, Prod.mk.injEq] at H
                  obtain ⟨rfl, rfl, rfl, rfl⟩ := H
                  go_wp2_with (first | ((with_reducible refine gate_callee (f := 26) rfl ?_); refine goesL_ (some 50) rfl rfl Tryd.func26 (by kernel_rfl) rfl #[.bool (a1_0 == 0)] rfl q2_ ?_; (with_reducible refine (expr_truth.calls (a1_0 == 0) t241 t242 t243 _ A69.out).mono ?_); rintro e w70 ⟨rfl, hb⟩; refine ⟨_, rfl, ?_⟩; have n0_ := Aside0.mk (blk_below (g := gb219) (o := .cells #[.int .i64 a1_0, .int .i64 a1_1, .string a1_2] 31 (0, 0)) q13_ hb); have n1_ := Aside0.mk (blk_below (g := gb220) (o := .cells #[.int .i64 a2_0, .int .i64 a2_1, .string a2_2] 31 (0, 0)) q25_ hb); have n2_ := Aside0.mk (blk_below (g := gb221) (o := .cells #[.int .i64 0, .int .i64 0, .string (⟨#[]⟩ : ByteArray)] 31 (0, 0)) q63_ hb); have n3_ := Aside0.mk (below_step q0_ hb); clear BK219; clear BK220; clear BK221; clear HB; have BK219 := n0_; have BK220 := n1_; have BK221 := n2_; have HB := n3_; clear n0_ n1_ n2_ n3_; (try clear hb); (try clear hb2); (try clear hk); (try clear hi); have hnb71 := NB221_219.out; have hnc71 := NB219_221.out; have hnb72 := NB221_220.out; have hnc72 := NB220_221.out; have hcz73_0 : w70.cell? ⟨gb221, 0, none⟩ = some (.int .i64 0) := (blk_cell BK221.out 0).trans rfl; have hcz73_1 : w70.cell? ⟨gb221, 1, none⟩ = some (.int .i64 0) := (blk_cell BK221.out 1).trans rfl; have hcz73_2 : w70.cell? ⟨gb221, 2, none⟩ = some (.string (⟨#[]⟩ : ByteArray)) := (blk_cell BK221.out 2).trans rfl; have hfz73_0 := blk_frozen BK221.out 0; have hfz73_1 := blk_frozen BK221.out 1; have hfz73_2 := blk_frozen BK221.out 2))
                  refine bodyPost_ret (results_ct rfl _ _ gb221 31 #[.int .i64 t241, .int .i64 t242, .string t243] (0, 0) _ rfl (by (with_reducible repeat first | apply bN_ | apply bD_ | apply bA_); refine blk_put (cs := #[.int .i64 t241, .int .i64 t242, .string (⟨#[]⟩ : ByteArray)]) ?_ 2 _ rfl; (with_reducible repeat first | apply bN_ | apply bD_ | apply bA_); refine blk_put (cs := #[.int .i64 t241, .int .i64 0, .string (⟨#[]⟩ : ByteArray)]) ?_ 1 _ rfl; (with_reducible repeat first | apply bN_ | apply bD_ | apply bA_); refine blk_put (cs := #[.int .i64 0, .int .i64 0, .string (⟨#[]⟩ : ByteArray)]) ?_ 0 _ rfl; (with_reducible repeat first | apply bN_ | apply bD_ | apply bA_); exact BK221.out) Tryd.underlying31 rfl (by kernel_rfl)) rfl ?_
                  exact ⟨q4_, q0_⟩
                · rw [if_neg c68] at H
                  have c68b0 : (a0 == 16) = false := beq_eq_false_iff_ne.mpr c68
                  have c68b1 : (a0 != 16) = true := bne_iff_ne.mpr c68
                  have HC74 := Aside0.mk H
                  clear H
                  go_upto_region 16 with (fail)
                  go_cut [51] (fun v51 wc => ∃ (kq : Nat) (x51_73 : Bool), v51 = .bool x51_73 ∧ Aside0 (expr_do.j1 kq a0 x51_73 a1_0 a1_1 a1_2 a2_0 a2_1 a2_2 = some (r1, r2, r3, r4)) ∧ Aside0 (kq ≤ kj50) ∧ Aside0 (wc.heap[gb219]? = some (.cells #[.int .i64 a1_0, .int .i64 a1_1, .string a1_2] 31 (0, 0))) ∧ Aside0 (wc.heap[gb220]? = some (.cells #[.int .i64 a2_0, .int .i64 a2_1, .string a2_2] 31 (0, 0))) ∧ Aside0 (wc.heap[gb221]? = some (.cells #[.int .i64 0, .int .i64 0, .string (⟨#[]⟩ : ByteArray)] 31 (0, 0))) ∧ Aside0 (Below w.heap.size w wc))
                  case first =>
                    have H := HC74.out
                    clear HC74
                    by_cases c75 : (a1_0 == 0) = true
                    · rw [if_pos c75] at H
                      have c75b0 : (a1_0 == 0) = true := c75
                      (try (have c75b1 : decide (a1_0 = 0) = true := by simpa using c75))
                      (try (have c75b2 : (a1_0 == 0) = true := by simpa using c75))
                      clear c75
                      (first | (rw [c75b0]; try simp only [c75b0] at *) | (simp only [i64_w, i32_w]; rw [c75b0]) | skip)
                      have H' := Aside0.mk H
                      clear H
                      go_wp2
                      go_meet
                      case rel => exact ⟨_, (true), q7_, H', ⟨by have := HJ50.out; first | omega | exact Nat.le_refl _⟩, ⟨q13_⟩, ⟨q25_⟩, ⟨q63_⟩, ⟨q0_⟩⟩
                    · rw [if_neg c75] at H
                      have c75b0 : (a1_0 == 0) = false := by simpa using c75
                      (try (have c75b1 : decide (a1_0 = 0) = false := by simpa using c75))
                      (try (have c75b2 : (a1_0 == 0) = false := by simpa using c75))
                      (try (have c75b3 : ¬ (a1_0 = 0) := by simpa using c75))
                      clear c75
                      (first | (rw [c75b0]; try simp only [c75b0] at *) | (simp only [i64_w, i32_w]; rw [c75b0]) | skip)
                      have H' := Aside0.mk H
                      clear H
                      have hnb76 := NB220_219.out
                      have hnc76 := NB219_220.out
                      have hnb77 := NB220_221.out
                      have hnc77 := NB221_220.out
                      have hcz78_0 : wc.cell? ⟨gb220, 0, none⟩ = some (.int .i64 a2_0) := (blk_cell BK220.out 0).trans rfl
                      have hcz78_1 : wc.cell? ⟨gb220, 1, none⟩ = some (.int .i64 a2_1) := (blk_cell BK220.out 1).trans rfl
                      have hcz78_2 : wc.cell? ⟨gb220, 2, none⟩ = some (.string a2_2) := (blk_cell BK220.out 2).trans rfl
                      have hfz78_0 := blk_frozen BK220.out 0
                      have hfz78_1 := blk_frozen BK220.out 1
                      have hfz78_2 := blk_frozen BK220.out 2
                      go_wp2
                      go_meet
                      case rel => exact ⟨_, ((a2_0 == 0)), q7_, H', ⟨by have := HJ50.out; first | omega | exact Nat.le_refl _⟩, ⟨q13_⟩, ⟨q25_⟩, ⟨q63_⟩, ⟨q0_⟩⟩
                  case rest =>
                    clear HC74
                    try clear c1
                    try clear c2
                    try clear p2
                    try clear c3
                    try clear c4
                    try clear c4b0
                    try clear c4b1
                    try clear c5
                    try clear c6
                    try clear c7
                    try clear c9
                    try clear c10
                    try clear c12
                    try clear c16
                    try clear c16b0
                    try clear c16b1
                    try clear c21
                    try clear c22
                    try clear c24
                    try clear c25
                    try clear c26
                    try clear c28
                    try clear c28b0
                    try clear c28b1
                    try clear c30
                    try clear c31
                    try clear c32
                    try clear c33
                    try clear c34
                    try clear c36
                    try clear c40
                    try clear c40b0
                    try clear c40b1
                    try clear c45
                    try clear c46
                    try clear c49
                    try clear c55
                    try clear c56
                    try clear c58
                    try clear c58b0
                    try clear c58b1
                    try clear c59
                    try clear c61
                    try clear c62
                    try clear c64
                    try clear c68
                    try clear c68b0
                    try clear c68b1
                    try clear c71
                    try clear c72
                    try clear c75
                    try clear c75b0
                    try clear c75b1
                    try clear c75b2
                    try clear c76
                    try clear c77
                    try clear hcz11_0
                    try clear hcz11_1
                    try clear hcz11_2
                    try clear hcz13_0
                    try clear hcz13_1
                    try clear hcz13_2
                    try clear hcz15_0
                    try clear hcz15_1
                    try clear hcz15_2
                    try clear hcz23_0
                    try clear hcz23_1
                    try clear hcz23_2
                    try clear hcz25_0
                    try clear hcz25_1
                    try clear hcz25_2
                    try clear hcz27_0
                    try clear hcz27_1
                    try clear hcz27_2
                    try clear hcz35_0
                    try clear hcz35_1
                    try clear hcz35_2
                    try clear hcz37_0
                    try clear hcz37_1
                    try clear hcz37_2
                    try clear hcz39_0
                    try clear hcz39_1
                    try clear hcz39_2
                    try clear hcz47_0
                    try clear hcz47_1
                    try clear hcz47_2
                    try clear hcz50_0
                    try clear hcz50_1
                    try clear hcz50_2
                    try clear hcz57_0
                    try clear hcz57_1
                    try clear hcz57_2
                    try clear hcz63_0
                    try clear hcz63_1
                    try clear hcz63_2
                    try clear hcz65_0
                    try clear hcz65_1
                    try clear hcz65_2
                    try clear hcz67_0
                    try clear hcz67_1
                    try clear hcz67_2
                    try clear hcz73_0
                    try clear hcz73_1
                    try clear hcz73_2
                    try clear hcz78_0
                    try clear hcz78_1
                    try clear hcz78_2
                    try clear hfz11_0
                    try clear hfz11_1
                    try clear hfz11_2
                    try clear hfz13_0
                    try clear hfz13_1
                    try clear hfz13_2
                    try clear hfz15_0
                    try clear hfz15_1
                    try clear hfz15_2
                    try clear hfz23_0
                    try clear hfz23_1
                    try clear hfz23_2
                    try clear hfz25_0
                    try clear hfz25_1
                    try clear hfz25_2
                    try clear hfz27_0
                    try clear hfz27_1
                    try clear hfz27_2
                    try clear hfz35_0
                    try clear hfz35_1
                    try clear hfz35_2
                    try clear hfz37_0
                    try clear hfz37_1
                    try clear hfz37_2
                    try clear hfz39_0
                    try clear hfz39_1
                    try clear hfz39_2
                    try clear hfz47_0
                    try clear hfz47_1
                    try clear hfz47_2
                    try clear hfz50_0
                    try clear hfz50_1
                    try clear hfz50_2
                    try clear hfz57_0
                    try clear hfz57_1
                    try clear hfz57_2
                    try clear hfz63_0
                    try clear hfz63_1
                    try clear hfz63_2
                    try clear hfz65_0
                    try clear hfz65_1
                    try clear hfz65_2
                    try clear hfz67_0
                    try clear hfz67_1
                    try clear hfz67_2
                    try clear hfz73_0
                    try clear hfz73_1
                    try clear hfz73_2
                    try clear hfz78_0
                    try clear hfz78_1
                    try clear hfz78_2
                    try clear p2
                    obtain ⟨kq, x51_73, rfl, HA, HJ73, BK219, BK220, BK221, HB⟩ := hcut
                    cases kq with
                    | zero => exact absurd HA.out (by simp [expr_do.j1])
                    | succ kj73 =>
                      have H := HA.out
                      clear HA
                      simp only [expr_do.j1] at H
                      by_cases c79 : x51_73 = true
                      · subst c79
                        replace H := ifT_ H
                        simp only [Option.some.injEq, Prod.mk.injEq] at H
                        obtain ⟨rfl, rfl, rfl, rfl⟩ := H
                        have hnb80 := NB221_219.out
                        have hnc80 := NB219_221.out
                        have hnb81 := NB221_220.out
                        have hnc81 := NB220_221.out
                        have hcz82_0 : wc.cell? ⟨gb221, 0, none⟩ = some (.int .i64 0) := (blk_cell BK221.out 0).trans rfl
                        have hcz82_1 : wc.cell? ⟨gb221, 1, none⟩ = some (.int .i64 0) := (blk_cell BK221.out 1).trans rfl
                        have hcz82_2 : wc.cell? ⟨gb221, 2, none⟩ = some (.string (⟨#[]⟩ : ByteArray)) := (blk_cell BK221.out 2).trans rfl
                        have hfz82_0 := blk_frozen BK221.out 0
                        have hfz82_1 := blk_frozen BK221.out 1
                        have hfz82_2 := blk_frozen BK221.out 2
                        go_wp2
                        refine bodyPost_ret (results_ct rfl _ _ gb221 31 #[.int .i64 0, .int .i64 0, .string (⟨#[]⟩ : ByteArray)] (0, 0) _ rfl (by (with_reducible repeat first | apply bN_ | apply bD_ | apply bA_); refine blk_put (cs := #[.int .i64 0, .int .i64 0, .string (⟨#[]⟩ : ByteArray)]) ?_ 2 _ rfl; (with_reducible repeat first | apply bN_ | apply bD_ | apply bA_); refine blk_put (cs := #[.int .i64 0, .int .i64 0, .string (⟨#[]⟩ : ByteArray)]) ?_ 1 _ rfl; (with_reducible repeat first | apply bN_ | apply bD_ | apply bA_); refine blk_put (cs := #[.int .i64 0, .int .i64 0, .string (⟨#[]⟩ : ByteArray)]) ?_ 0 _ rfl; (with_reducible repeat first | apply bN_ | apply bD_ | apply bA_); exact BK221.out) Tryd.underlying31 rfl (by kernel_rfl)) rfl ?_
                        exact ⟨q4_, q0_⟩
                      · replace c79 := Bool.eq_false_iff.mpr c79
                        subst c79
                        replace H := ifF_ H
                        by_cases c83 : a0 = 15
                        · rw [if_pos c83] at H
                          have c83b0 : (a0 == 15) = true := beq_iff_eq.mpr c83
                          have c83b1 : (a0 != 15) = false := bne_eq_false_iff_eq.mpr c83
                          clear c83
                          replace H := Option.bind_eq_some_iff.mp H
                          obtain ⟨⟨t244, t245, t246⟩, A840, H⟩ := H
                          replace H : (some (t244, t245, t246, 0)) = some (r1, r2, r3, r4) := H
                          have A84 := Aside0.mk A840
                          clear A840
                          simp only [Option.some.injEq, Prod.mk.injEq] at H
                          obtain ⟨rfl, rfl, rfl, rfl⟩ := H
                          have hnb85 := NB219_220.out
                          have hnc85 := NB220_219.out
                          have hnb86 := NB219_221.out
                          have hnc86 := NB221_219.out
                          have hcz87_0 : wc.cell? ⟨gb219, 0, none⟩ = some (.int .i64 a1_0) := (blk_cell BK219.out 0).trans rfl
                          have hcz87_1 : wc.cell? ⟨gb219, 1, none⟩ = some (.int .i64 a1_1) := (blk_cell BK219.out 1).trans rfl
                          have hcz87_2 : wc.cell? ⟨gb219, 2, none⟩ = some (.string a1_2) := (blk_cell BK219.out 2).trans rfl
                          have hfz87_0 := blk_frozen BK219.out 0
                          have hfz87_1 := blk_frozen BK219.out 1
                          have hfz87_2 := blk_frozen BK219.out 2
                          go_wp2_with (first | ((with_reducible refine gate_callee (f := 26) rfl ?_); refine goesL_ (some 65) rfl rfl Tryd.func26 (by kernel_rfl) rfl #[.bool (a1_1 == 0)] rfl q2_ ?_; (with_reducible refine (expr_truth.calls (a1_1 == 0) t244 t245 t246 _ A84.out).mono ?_); rintro e w88 ⟨rfl, hb⟩; refine ⟨_, rfl, ?_⟩; have n0_ := Aside0.mk (blk_below (g := gb219) (o := .cells #[.int .i64 a1_0, .int .i64 a1_1, .string a1_2] 31 (0, 0)) q13_ hb); have n1_ := Aside0.mk (blk_below (g := gb220) (o := .cells #[.int .i64 a2_0, .int .i64 a2_1, .string a2_2] 31 (0, 0)) q25_ hb); have n2_ := Aside0.mk (blk_below (g := gb221) (o := .cells #[.int .i64 0, .int .i64 0, .string (⟨#[]⟩ : ByteArray)] 31 (0, 0)) q63_ hb); have n3_ := Aside0.mk (below_step q0_ hb); clear BK219; clear BK220; clear BK221; clear HB; have BK219 := n0_; have BK220 := n1_; have BK221 := n2_; have HB := n3_; clear n0_ n1_ n2_ n3_; (try clear hb); (try clear hb2); (try clear hk); (try clear hi); have hnb89 := NB221_220.out; have hnc89 := NB220_221.out; have hcz90_0 : w88.cell? ⟨gb221, 0, none⟩ = some (.int .i64 0) := (blk_cell BK221.out 0).trans rfl; have hcz90_1 : w88.cell? ⟨gb221, 1, none⟩ = some (.int .i64 0) := (blk_cell BK221.out 1).trans rfl; have hcz90_2 : w88.cell? ⟨gb221, 2, none⟩ = some (.string (⟨#[]⟩ : ByteArray)) := (blk_cell BK221.out 2).trans rfl; have hfz90_0 := blk_frozen BK221.out 0; have hfz90_1 := blk_frozen BK221.out 1; have hfz90_2 := blk_frozen BK221.out 2))
                          refine bodyPost_ret (results_ct rfl _ _ gb221 31 #[.int .i64 t244, .int .i64 t245, .string t246] (0, 0) _ rfl (by (with_reducible repeat first | apply bN_ | apply bD_ | apply bA_); refine blk_put (cs := #[.int .i64 t244, .int .i64 t245, .string (⟨#[]⟩ : ByteArray)]) ?_ 2 _ rfl; (with_reducible repeat first | apply bN_ | apply bD_ | apply bA_); refine blk_put (cs := #[.int .i64 t244, .int .i64 0, .string (⟨#[]⟩ : ByteArray)]) ?_ 1 _ rfl; (with_reducible repeat first | apply bN_ | apply bD_ | apply bA_); refine blk_put (cs := #[.int .i64 0, .int .i64 0, .string (⟨#[]⟩ : ByteArray)]) ?_ 0 _ rfl; (with_reducible repeat first | apply bN_ | apply bD_ | apply bA_); exact BK221.out) Tryd.underlying31 rfl (by kernel_rfl)) rfl ?_
                          exact ⟨q4_, q0_⟩
                        · rw [if_neg c83] at H
                          have c83b0 : (a0 == 15) = false := beq_eq_false_iff_ne.mpr c83
                          have c83b1 : (a0 != 15) = true := bne_iff_ne.mpr c83
                          replace H := Option.bind_eq_some_iff.mp H
                          obtain ⟨t247, A910, H⟩ := H
                          replace H : ((expr_compare.f a0 t247).bind fun t248 => ((expr_truth.f t248).bind fun bt249 => (some (bt249.1, bt249.2.1, bt249.2.2, 0)))) = some (r1, r2, r3, r4) := H
                          have A91 := Aside0.mk A910
                          clear A910
                          replace H := Option.bind_eq_some_iff.mp H
                          obtain ⟨t248, A920, H⟩ := H
                          replace H : ((expr_truth.f t248).bind fun bt249 => (some (bt249.1, bt249.2.1, bt249.2.2, 0))) = some (r1, r2, r3, r4) := H
                          have A92 := Aside0.mk A920
                          clear A920
                          replace H := Option.bind_eq_some_iff.mp H
                          obtain ⟨⟨t249, t250, t251⟩, A930, H⟩ := H
                          replace H : (some (t249, t250, t251, 0)) = some (r1, r2, r3, r4) := H
                          have A93 := Aside0.mk A930
                          clear A930
                          simp only [Option.some.injEq, Prod.mk.injEq] at H
                          obtain ⟨rfl, rfl, rfl, rfl⟩ := H
                          have hnb94 := NB219_220.out
                          have hnc94 := NB220_219.out
                          have hnb95 := NB219_221.out
                          have hnc95 := NB221_219.out
                          have hcz96_0 : wc.cell? ⟨gb219, 0, none⟩ = some (.int .i64 a1_0) := (blk_cell BK219.out 0).trans rfl
                          have hcz96_1 : wc.cell? ⟨gb219, 1, none⟩ = some (.int .i64 a1_1) := (blk_cell BK219.out 1).trans rfl
                          have hcz96_2 : wc.cell? ⟨gb219, 2, none⟩ = some (.string a1_2) := (blk_cell BK219.out 2).trans rfl
                          have hfz96_0 := blk_frozen BK219.out 0
                          have hfz96_1 := blk_frozen BK219.out 1
                          have hfz96_2 := blk_frozen BK219.out 2
                          have hnb97 := NB220_221.out
                          have hnc97 := NB221_220.out
                          have hcz98_0 : wc.cell? ⟨gb220, 0, none⟩ = some (.int .i64 a2_0) := (blk_cell BK220.out 0).trans rfl
                          have hcz98_1 : wc.cell? ⟨gb220, 1, none⟩ = some (.int .i64 a2_1) := (blk_cell BK220.out 1).trans rfl
                          have hcz98_2 : wc.cell? ⟨gb220, 2, none⟩ = some (.string a2_2) := (blk_cell BK220.out 2).trans rfl
                          have hfz98_0 := blk_frozen BK220.out 0
                          have hfz98_1 := blk_frozen BK220.out 1
                          have hfz98_2 := blk_frozen BK220.out 2
                          go_wp2_with (first | ((with_reducible refine gate_callee (f := 36) rfl ?_); refine goesL_ (some 69) rfl rfl Tryd.func36 (by kernel_rfl) rfl #[.agg #[.int .i64 a1_0, .int .i64 a1_1, .string a1_2], .agg #[.int .i64 a2_0, .int .i64 a2_1, .string a2_2]] rfl q2_ ?_; (with_reducible refine (value_Compare.calls kj73 a1_0 a1_1 a1_2 a2_0 a2_1 a2_2 t247 _ A91.out).mono ?_); rintro e w99 ⟨rfl, hb⟩; refine ⟨_, rfl, ?_⟩; have n0_ := Aside0.mk (blk_below (g := gb219) (o := .cells #[.int .i64 a1_0, .int .i64 a1_1, .string a1_2] 31 (0, 0)) q13_ hb); have n1_ := Aside0.mk (blk_below (g := gb220) (o := .cells #[.int .i64 a2_0, .int .i64 a2_1, .string a2_2] 31 (0, 0)) q25_ hb); have n2_ := Aside0.mk (blk_below (g := gb221) (o := .cells #[.int .i64 0, .int .i64 0, .string (⟨#[]⟩ : ByteArray)] 31 (0, 0)) q63_ hb); have n3_ := Aside0.mk (below_step q0_ hb); clear BK219; clear BK220; clear BK221; clear HB; have BK219 := n0_; have BK220 := n1_; have BK221 := n2_; have HB := n3_; clear n0_ n1_ n2_ n3_; (try clear hb); (try clear hb2); (try clear hk); (try clear hi)) | ((with_reducible refine gate_callee (f := 35) rfl ?_); refine goesL_ (some 70) rfl rfl Tryd.func35 (by kernel_rfl) rfl #[.int .i64 a0, .int .i64 t247] rfl q2_ ?_; (with_reducible refine (expr_compare.calls a0 t247 t248 _ A92.out).mono ?_); rintro e w' ⟨rfl, ⟨nd, rfl⟩⟩; refine ⟨_, rfl, ?_⟩; (try (rw [drewN_self w99]; generalize hq_ : World.drewN w99 _ = w99; have n0_ : Aside0 (w99.heap[gb219]? = some (.cells #[.int .i64 a1_0, .int .i64 a1_1, .string a1_2] 31 (0, 0))) := ⟨by rw [← hq_]; exact q13_⟩; have n1_ : Aside0 (w99.heap[gb220]? = some (.cells #[.int .i64 a2_0, .int .i64 a2_1, .string a2_2] 31 (0, 0))) := ⟨by rw [← hq_]; exact q25_⟩; have n2_ : Aside0 (w99.heap[gb221]? = some (.cells #[.int .i64 0, .int .i64 0, .string (⟨#[]⟩ : ByteArray)] 31 (0, 0))) := ⟨by rw [← hq_]; exact q63_⟩; have n3_ : Aside0 (Below w.heap.size w w99) := ⟨q186_⟩; clear BK219 BK220 BK221 HB hq_; have BK219 := n0_; have BK220 := n1_; have BK221 := n2_; have HB := n3_; clear n0_ n1_ n2_ n3_))) | ((with_reducible refine gate_callee (f := 26) rfl ?_); refine goesL_ (some 71) rfl rfl Tryd.func26 (by kernel_rfl) rfl #[.bool t248] rfl q2_ ?_; (with_reducible refine (expr_truth.calls t248 t249 t250 t251 _ A93.out).mono ?_); rintro e w100 ⟨rfl, hb⟩; refine ⟨_, rfl, ?_⟩; have n0_ := Aside0.mk (blk_below (g := gb219) (o := .cells #[.int .i64 a1_0, .int .i64 a1_1, .string a1_2] 31 (0, 0)) q13_ hb); have n1_ := Aside0.mk (blk_below (g := gb220) (o := .cells #[.int .i64 a2_0, .int .i64 a2_1, .string a2_2] 31 (0, 0)) q25_ hb); have n2_ := Aside0.mk (blk_below (g := gb221) (o := .cells #[.int .i64 0, .int .i64 0, .string (⟨#[]⟩ : ByteArray)] 31 (0, 0)) q63_ hb); have n3_ := Aside0.mk (below_step q0_ hb); clear BK219; clear BK220; clear BK221; clear HB; have BK219 := n0_; have BK220 := n1_; have BK221 := n2_; have HB := n3_; clear n0_ n1_ n2_ n3_; (try clear hb); (try clear hb2); (try clear hk); (try clear hi); have hcz101_0 : w100.cell? ⟨gb221, 0, none⟩ = some (.int .i64 0) := (blk_cell BK221.out 0).trans rfl; have hcz101_1 : w100.cell? ⟨gb221, 1, none⟩ = some (.int .i64 0) := (blk_cell BK221.out 1).trans rfl; have hcz101_2 : w100.cell? ⟨gb221, 2, none⟩ = some (.string (⟨#[]⟩ : ByteArray)) := (blk_cell BK221.out 2).trans rfl; have hfz101_0 := blk_frozen BK221.out 0; have hfz101_1 := blk_frozen BK221.out 1; have hfz101_2 := blk_frozen BK221.out 2))
                          refine bodyPost_ret (results_ct rfl _ _ gb221 31 #[.int .i64 t249, .int .i64 t250, .string t251] (0, 0) _ rfl (by (with_reducible repeat first | apply bN_ | apply bD_ | apply bA_); refine blk_put (cs := #[.int .i64 t249, .int .i64 t250, .string (⟨#[]⟩ : ByteArray)]) ?_ 2 _ rfl; (with_reducible repeat first | apply bN_ | apply bD_ | apply bA_); refine blk_put (cs := #[.int .i64 t249, .int .i64 0, .string (⟨#[]⟩ : ByteArray)]) ?_ 1 _ rfl; (with_reducible repeat first | apply bN_ | apply bD_ | apply bA_); refine blk_put (cs := #[.int .i64 0, .int .i64 0, .string (⟨#[]⟩ : ByteArray)]) ?_ 0 _ rfl; (with_reducible repeat first | apply bN_ | apply bD_ | apply bA_); exact BK221.out) Tryd.underlying31 rfl (by kernel_rfl)) rfl ?_
                          exact ⟨q4_, q0_⟩


/-! ### expr_Eval_1: function 23 -/
def expr_Eval_1.f (a0_0 : Int) (a0_1 : Int) (a0_2 : ByteArray) : Option (Bool) := (value_Right.f a0_0 a0_1 a0_2).bind fun t253 => (some (!t253))
set_option maxHeartbeats 8000000 in
set_option maxRecDepth 100000 in
theorem expr_Eval_1.calls (a0_0 : Int) (a0_1 : Int) (a0_2 : ByteArray) (r : Bool) (w : World) (h : expr_Eval_1.f a0_0 a0_1 a0_2 = some r) (hG : Glob w) :
    Calls Tryd.prog 23 #[.agg #[.int .i64 a0_0, .int .i64 a0_1, .string a0_2]] w fun e w' => e = .returned (.bool r) ∧ Below w.heap.size w w' := by
  have hu31 := Tryd.underlying31
  have HG := Aside0.mk hG
  clear hG
  have HB := Aside0.mk (Below.refl w.heap.size w)
  have H : ((value_Right.f a0_0 a0_1 a0_2).bind fun t253 => (some (!t253))) = some r := h
  clear h
  replace H := Option.bind_eq_some_iff.mp H
  obtain ⟨t253, A20, H⟩ := H
  replace H : (some (!t253)) = some r := H
  have A2 := Aside0.mk A20
  clear A20
  obtain rfl := Option.some.inj H
  go_enter Tryd.func23, Tryd.ntmps23
  go_wp2_with (first | ((with_reducible refine gate_dst (N := 1) rfl ?_); refine box_event ?hg (N := 1) ?hd (cs := #[.int .i64 a0_0, .int .i64 a0_1, .string a0_2]) (t := 31) ?hr ?_; (case hd => rfl); (case hg => rfl); (case hr => first | (go_simp; done) | (go_simp; rfl)); intro gb252 hg w3 hbox hb; have n0_ := Aside0.mk (below_step q0_ hb); have n1_ := Aside0.mk (hbox); have n2_ := Aside0.mk ((q1_ : w.heap.size ≤ gb252)); have n3_ := Aside0.mk ((q1_ : w.heap.size ≤ gb252)); clear HB; have HB := n0_; have BK252 := n1_; have GW252 := n2_; have GE252 := n3_; clear n0_ n1_ n2_ n3_; clear hb hbox hg; have hcz4_0 : w3.cell? ⟨gb252, 0, none⟩ = some (.int .i64 a0_0) := (blk_cell BK252.out 0).trans rfl; have hcz4_1 : w3.cell? ⟨gb252, 1, none⟩ = some (.int .i64 a0_1) := (blk_cell BK252.out 1).trans rfl; have hcz4_2 : w3.cell? ⟨gb252, 2, none⟩ = some (.string a0_2) := (blk_cell BK252.out 2).trans rfl; have hfz4_0 := blk_frozen BK252.out 0; have hfz4_1 := blk_frozen BK252.out 1; have hfz4_2 := blk_frozen BK252.out 2) | ((with_reducible refine gate_callee (f := 24) rfl ?_); refine goesL_ (some 4) rfl rfl Tryd.func24 (by kernel_rfl) rfl #[.agg #[.int .i64 a0_0, .int .i64 a0_1, .string a0_2]] rfl q2_ ?_; (with_reducible refine (value_Right.calls a0_0 a0_1 a0_2 t253 _ A2.out (by first | exact HG.out | (refine Glob.below HG.out ?_; (repeat (first | (with_reducible first | exact HB.out | apply below_alloc | apply pw_below_drewN | apply below_drew1 | refine below_set ?_ GE252.out) | exact HB.out))) | (repeat (first | exact HG.out | apply Glob.drewN | apply Glob.drew | apply Glob.alloc)))).mono ?_); rintro e w5 ⟨rfl, hb⟩; refine ⟨_, rfl, ?_⟩; have n0_ := Aside0.mk (blk_below (g := gb252) (o := .cells #[.int .i64 a0_0, .int .i64 a0_1, .string a0_2] 31 (0, 0)) (by (with_reducible repeat first | apply bN_ | apply bD_ | apply bA_); exact BK252.out) hb); have n1_ := Aside0.mk (below_step q0_ hb); clear BK252; clear HB; have BK252 := n0_; have HB := n1_; clear n0_ n1_; (try clear hb); (try clear hb2); (try clear hk); (try clear hi)))
  go_ret
  exact ⟨q4_, q0_⟩


/-! ### api_Value_28_at_expr_Eval_1: function 69 -/
def api_Value_28_at_expr_Eval_1.l0 : Nat → List (S31) → Int → Int → Option (Int)
  | 0, _, _, _ => none
  | k + 1, x0, x7, x8 => if x8 < x7 then (if 0 ≤ x8 then (if x8 < (x0.length : Int) then ((expr_Eval_1.f ((rd_T31 x0 x8).f0) ((rd_T31 x0 x8).f1) ((rd_T31 x0 x8).f2)).bind fun t255 => (if t255 = true then (some x8) else (api_Value_28_at_expr_Eval_1.l0 k x0 x7 (wrap64 (x8 + 1))))) else (none)) else (none)) else (some (-1))
def api_Value_28_at_expr_Eval_1.f (k : Nat) (l0 : List (S31))  : Option (Int) := api_Value_28_at_expr_Eval_1.l0 k l0 (l0.length : Int) 0
theorem api_Value_28_at_expr_Eval_1.mono_l : ∀ k, (∀ y0 y1 y2, LeO (api_Value_28_at_expr_Eval_1.l0 k y0 y1 y2) (api_Value_28_at_expr_Eval_1.l0 (k + 1) y0 y1 y2))
  | 0 => fun _ _ _ r h => by simp [api_Value_28_at_expr_Eval_1.l0] at h
  | k + 1 => by
    have ih0 := api_Value_28_at_expr_Eval_1.mono_l k
    · intro y0 y1 y2
      unfold api_Value_28_at_expr_Eval_1.l0
      repeat' first
      | (with_reducible exact ih0 _ _ _)
      | (with_reducible exact LeO.refl _)
      | (with_reducible exact LeO.none _)
      | (with_reducible refine LeO.ite ?_ ?_)
      | (with_reducible refine LeO.bind ?_ (fun _ => ?_))
      | exact ih0 _ _ _
      | exact LeO.none _
      | refine LeO.ite ?_ ?_
      | refine LeO.bind ?_ (fun _ => ?_)
theorem api_Value_28_at_expr_Eval_1.mono : ∀ a0 k, LeO (api_Value_28_at_expr_Eval_1.f k a0) (api_Value_28_at_expr_Eval_1.f (k + 1) a0) := by
  intro a0 k
  have ih0 := api_Value_28_at_expr_Eval_1.mono_l k
  unfold api_Value_28_at_expr_Eval_1.f
  repeat' first
      | (with_reducible exact ih0 _ _ _)
      | (with_reducible exact LeO.refl _)
      | (with_reducible exact LeO.none _)
      | (with_reducible refine LeO.ite ?_ ?_)
      | (with_reducible refine LeO.bind ?_ (fun _ => ?_))
      | exact ih0 _ _ _
      | exact LeO.none _
      | refine LeO.ite ?_ ?_
      | refine LeO.bind ?_ (fun _ => ?_)
set_option maxHeartbeats 8000000 in
set_option maxRecDepth 100000 in
theorem api_Value_28_at_expr_Eval_1.calls (k : Nat) (A0 : Option Addr) (c0 : Nat) (l0 : List (S31))  (r : Int) (w : World) (hr0 : Kd.C k31 w A0 l0.length l0) (hc0 : l0.length ≤ c0) (h : api_Value_28_at_expr_Eval_1.f k l0 = some r) (hG : Glob w) :
    Calls Tryd.prog 28 #[.slice A0 l0.length c0, (.func (.func 23) #[] #[])] w fun e w' => e = .returned (.int .i64 r) ∧ Below w.heap.size w w' := by
  have hu31 := Tryd.underlying31
  have HG := Aside0.mk hG
  clear hG
  have HR0 := Aside0.mk hr0
  have HC0 := Aside0.mk hc0
  clear hr0 hc0
  have HB := Aside0.mk (Below.refl w.heap.size w)
  have H : (api_Value_28_at_expr_Eval_1.l0 k l0 (l0.length : Int) 0) = some r := h
  clear h
  have H' := Aside0.mk H
  clear H
  go_enter Tryd.func28, Tryd.ntmps28
  go_wp2
  go_loopg [8] k (fun kq v8 w' => ∃ (x8_1 : Int), v8 = .int .i64 x8_1 ∧ Aside0 (api_Value_28_at_expr_Eval_1.l0 kq l0 (l0.length : Int) x8_1 = some r) ∧ Aside0 (kq ≤ k) ∧ Aside0 (Below w.heap.size w w'))
  case atStart => exact ⟨(0), q7_, H', ⟨Nat.le_refl _⟩, ⟨q0_⟩⟩
  case round =>
    clear H'
    try clear c2
    try clear p2
    obtain ⟨x8_1, rfl, HA, HK1, HB⟩ := hrel
    cases gk with
    | zero => exact absurd HA.out (by simp [api_Value_28_at_expr_Eval_1.l0])
    | succ k1 =>
      have H := HA.out
      clear HA
      simp only [api_Value_28_at_expr_Eval_1.l0] at H
      by_cases c3 : x8_1 < (l0.length : Int)
      · rw [if_pos c3] at H
        have c3b0 : decide (x8_1 < (l0.length : Int)) = true := decide_eq_true c3
        clear c3
        by_cases c4 : 0 ≤ x8_1
        · rw [if_pos c4] at H
          have c4b0 : decide (0 ≤ x8_1) = true := decide_eq_true c4
          clear c4
          by_cases c5 : x8_1 < (l0.length : Int)
          · rw [if_pos c5] at H
            have c5b0 : decide (x8_1 < (l0.length : Int)) = true := decide_eq_true c5
            clear c5
            replace H := Option.bind_eq_some_iff.mp H
            obtain ⟨t255, A60, H⟩ := H
            replace H : (if t255 = true then (some x8_1) else (api_Value_28_at_expr_Eval_1.l0 k1 l0 (l0.length : Int) (wrap64 (x8_1 + 1)))) = some r := H
            have A6 := Aside0.mk A60
            clear A60
            by_cases c7 : t255 = true
            · subst c7
              replace H := ifT_ H
              obtain rfl := Option.some.inj H
              have p254 : 0 ≤ (x8_1 : Int) := of_decide_eq_true q11_
              have q254 : x8_1 < (l0.length : Int) := of_decide_eq_true q11_
              obtain ⟨ad254, e254, hx254_0, hx254_1, hx254_2⟩ := at_T31 HR0.out x8_1 p254 q254
              cases e254
              replace hx254_0 := (HB.out.cell (World.block_lt_of_cell? w _ hx254_0)).trans hx254_0
              replace hx254_1 := (HB.out.cell (World.block_lt_of_cell? w _ hx254_1)).trans hx254_1
              replace hx254_2 := (HB.out.cell (World.block_lt_of_cell? w _ hx254_2)).trans hx254_2
              replace p254 := eq_true p254
              replace q254 := eq_true q254
              go_wp2_with (first | ((with_reducible refine gate_calleeT (t := 11) rfl ?_); refine goesTL_ (some 16) rfl rfl Tryd.func23 (by kernel_rfl) rfl #[.agg #[.int .i64 ((rd_T31 l0 x8_1).f0), .int .i64 ((rd_T31 l0 x8_1).f1), .string ((rd_T31 l0 x8_1).f2)]] rfl (by rfl) q2_ ?_; (with_reducible refine (expr_Eval_1.calls ((rd_T31 l0 x8_1).f0) ((rd_T31 l0 x8_1).f1) ((rd_T31 l0 x8_1).f2) true _ A6.out q3_).mono ?_); rintro e w8 ⟨rfl, hb⟩; refine ⟨_, rfl, ?_⟩; have n0_ := Aside0.mk (below_step q0_ hb); clear HB; have HB := n0_; clear n0_; (try clear hb); (try clear hb2); (try clear hk); (try clear hi)))
              go_ret
              exact ⟨q4_, q0_⟩
            · replace c7 := Bool.eq_false_iff.mpr c7
              subst c7
              replace H := ifF_ H
              have H' := Aside0.mk H
              clear H
              have p254 : 0 ≤ (x8_1 : Int) := of_decide_eq_true q11_
              have q254 : x8_1 < (l0.length : Int) := of_decide_eq_true q11_
              obtain ⟨ad254, e254, hx254_0, hx254_1, hx254_2⟩ := at_T31 HR0.out x8_1 p254 q254
              cases e254
              replace hx254_0 := (HB.out.cell (World.block_lt_of_cell? w _ hx254_0)).trans hx254_0
              replace hx254_1 := (HB.out.cell (World.block_lt_of_cell? w _ hx254_1)).trans hx254_1
              replace hx254_2 := (HB.out.cell (World.block_lt_of_cell? w _ hx254_2)).trans hx254_2
              replace p254 := eq_true p254
              replace q254 := eq_true q254
              go_wp2_with (first | ((with_reducible refine gate_calleeT (t := 11) rfl ?_); refine goesTL_ (some 16) rfl rfl Tryd.func23 (by kernel_rfl) rfl #[.agg #[.int .i64 ((rd_T31 l0 x8_1).f0), .int .i64 ((rd_T31 l0 x8_1).f1), .string ((rd_T31 l0 x8_1).f2)]] rfl (by rfl) q2_ ?_; (with_reducible refine (expr_Eval_1.calls ((rd_T31 l0 x8_1).f0) ((rd_T31 l0 x8_1).f1) ((rd_T31 l0 x8_1).f2) false _ A6.out q3_).mono ?_); rintro e w9 ⟨rfl, hb⟩; refine ⟨_, rfl, ?_⟩; have n0_ := Aside0.mk (below_step q0_ hb); clear HB; have HB := n0_; clear n0_; (try clear hb); (try clear hb2); (try clear hk); (try clear hi)))
              go_roundg k1
              case measure => have := HK1.out; omega
              case rel => exact ⟨(wrap64 (x8_1 + 1)), q7_, H', ⟨by have := HK1.out; omega⟩, ⟨q0_⟩⟩
          · rw [if_neg c5] at H
            exact absurd H (by simp)
        · rw [if_neg c4] at H
          exact absurd H (by simp)
      · rw [if_neg c3] at H
        have c3b0 : decide (x8_1 < (l0.length : Int)) = false := decide_eq_false c3
        clear c3
        obtain rfl := Option.some.inj H
        go_wp2
        go_ret
        exact ⟨q4_, q0_⟩


/-! ### api_Value_22_at_expr_Eval_1: function 68 -/
def api_Value_22_at_expr_Eval_1.f (k : Nat) (l0 : List (S31))  : Option (Bool) := (api_Value_28_at_expr_Eval_1.f k l0).bind fun t256 => (some (decide (t256 ≥ 0)))
theorem api_Value_22_at_expr_Eval_1.mono : ∀ a0 k, LeO (api_Value_22_at_expr_Eval_1.f k a0) (api_Value_22_at_expr_Eval_1.f (k + 1) a0) := by
  intro a0 k
  unfold api_Value_22_at_expr_Eval_1.f
  repeat' first
      | (with_reducible exact api_Value_28_at_expr_Eval_1.mono _ _)
      | (with_reducible exact LeO.refl _)
      | (with_reducible exact LeO.none _)
      | (with_reducible refine LeO.ite ?_ ?_)
      | (with_reducible refine LeO.bind ?_ (fun _ => ?_))
      | exact api_Value_28_at_expr_Eval_1.mono _ _
      | exact LeO.none _
      | refine LeO.ite ?_ ?_
      | refine LeO.bind ?_ (fun _ => ?_)
set_option maxHeartbeats 8000000 in
set_option maxRecDepth 100000 in
theorem api_Value_22_at_expr_Eval_1.calls (k : Nat) (A0 : Option Addr) (c0 : Nat) (l0 : List (S31))  (r : Bool) (w : World) (hr0 : Kd.C k31 w A0 l0.length l0) (hc0 : l0.length ≤ c0) (h : api_Value_22_at_expr_Eval_1.f k l0 = some r) (hG : Glob w) :
    Calls Tryd.prog 22 #[.slice A0 l0.length c0, (.func (.func 23) #[] #[])] w fun e w' => e = .returned (.bool r) ∧ Below w.heap.size w w' := by
  have HG := Aside0.mk hG
  clear hG
  have HR0 := Aside0.mk hr0
  have HC0 := Aside0.mk hc0
  clear hr0 hc0
  have HB := Aside0.mk (Below.refl w.heap.size w)
  have H : ((api_Value_28_at_expr_Eval_1.f k l0).bind fun t256 => (some (decide (t256 ≥ 0)))) = some r := h
  clear h
  replace H := Option.bind_eq_some_iff.mp H
  obtain ⟨t256, A30, H⟩ := H
  replace H : (some (decide (t256 ≥ 0))) = some r := H
  have A3 := Aside0.mk A30
  clear A30
  obtain rfl := Option.some.inj H
  go_enter Tryd.func22, Tryd.ntmps22
  go_wp2_with (first | ((with_reducible refine gate_callee (f := 28) rfl ?_); refine goesL_ (some 7) rfl rfl Tryd.func28 (by kernel_rfl) rfl #[.slice A0 l0.length c0, (.func (.func 23) #[] #[])] rfl q2_ ?_; (with_reducible refine (api_Value_28_at_expr_Eval_1.calls k _ _ l0  t256 _ ?side1 ?side2 A3.out q3_).mono ?_); (case side1 => repeat (first | exact HR0.out | (with_reducible refine Kd.C_alloc ?_ _) | (with_reducible refine Kd.C_drewN ?_ _) | (with_reducible refine Kd.C_drew ?_))); (case side2 => exact HC0.out); rintro e w4 ⟨rfl, hb⟩; refine ⟨_, rfl, ?_⟩; have n0_ := Aside0.mk (below_step q0_ hb); clear HB; have HB := n0_; clear n0_; (try clear hb); (try clear hb2); (try clear hk); (try clear hi)))
  go_ret
  exact ⟨q4_, q0_⟩

end Go.Proofs.YtiamgfpeffjcjaaDoor.P
