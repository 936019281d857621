-- Written by our own program (wip/xprint) over the seat's translation. Lean checks it.
import Derived.Test.YtmdnnpahmoaicaaDoorPx0
import Derived.Test.YtmdnnpahmoaicaaDoorPx1
namespace Go.Proofs.YtmdnnpahmoaicaaDoor.P
open Go.RowKit Go.Proofs.YtmdnnpahmoaicaaDoorW.PrintWords Go.Proofs.YtmdnnpahmoaicaaDoorW.PrintLast Go.Proofs.YtmdnnpahmoaicaaDoorW.PrintMore
attribute [local go_sem] max2_int min2_mn max_two min_two max_three min_three max_four min_four   -- for this text's walks alone
set_option linter.unusedVariables false
set_option linter.unusedSimpArgs false


/-! ### value_Mul: function 18 -/
mutual
def value_Mul.j0 : Nat → Bool → Int → Int → ByteArray → Int → Int → ByteArray → Option (Int × Int × ByteArray × Int)
  | 0, _, _, _, _, _, _, _ => none
  | k + 1, x25, x196000, x196001, x196002, x197000, x197001, x197002 => if x25 = true then ((value_of.f 0 false).bind fun bt200 => (some (bt200.1, bt200.2.1, bt200.2.2.1, bt200.2.2.2))) else (if x196001 = (-9223372036854775808) then (value_Mul.j1 k true x196000 x196001 x196002 x197000 x197001 x197002) else (value_Mul.j1 k (x197001 == (-9223372036854775808)) x196000 x196001 x196002 x197000 x197001 x197002))
def value_Mul.j1 : Nat → Bool → Int → Int → ByteArray → Int → Int → ByteArray → Option (Int × Int × ByteArray × Int)
  | 0, _, _, _, _, _, _, _ => none
  | k + 1, x36, x196000, x196001, x196002, x197000, x197001, x197002 => if x36 = true then (if x196001 = 1 then ((value_of.f (-9223372036854775808) false).bind fun bt204 => (some (bt204.1, bt204.2.1, bt204.2.2.1, bt204.2.2.2))) else ((value_of.f (-9223372036854775808) (x197001 != 1)).bind fun bt208 => (some (bt208.1, bt208.2.1, bt208.2.2.1, bt208.2.2.2)))) else (if x197001 = 0 then (none) else ((value_of.f (wrap64 (x196001 * x197001)) ((wrap64 (Int.tdiv (wrap64 (x196001 * x197001)) x197001)) != x196001)).bind fun bt212 => (some (bt212.1, bt212.2.1, bt212.2.2.1, bt212.2.2.2))))
end
def value_Mul.f (k : Nat) (a0_0 : Int) (a0_1 : Int) (a0_2 : ByteArray) (a1_0 : Int) (a1_1 : Int) (a1_2 : ByteArray) : Option (Int × Int × ByteArray × Int) := (value_ints.f k a0_0 a0_1 a0_2 a1_0 a1_1 a1_2).bind fun bt198 => (if bt198.1 = true then (some (0, 0, (⟨#[]⟩ : ByteArray), bt198.2)) else (if a0_1 = 0 then (value_Mul.j0 k true a0_0 a0_1 a0_2 a1_0 a1_1 a1_2) else (value_Mul.j0 k (a1_1 == 0) a0_0 a0_1 a0_2 a1_0 a1_1 a1_2)))
theorem value_Mul.mono_l : ∀ k, (∀ y0 y1 y2 y3 y4 y5 y6, LeO (value_Mul.j0 k y0 y1 y2 y3 y4 y5 y6) (value_Mul.j0 (k + 1) y0 y1 y2 y3 y4 y5 y6)) ∧ (∀ y0 y1 y2 y3 y4 y5 y6, LeO (value_Mul.j1 k y0 y1 y2 y3 y4 y5 y6) (value_Mul.j1 (k + 1) y0 y1 y2 y3 y4 y5 y6))
  | 0 => ⟨fun _ _ _ _ _ _ _ r h => by simp [value_Mul.j0] at h, fun _ _ _ _ _ _ _ r h => by simp [value_Mul.j1] at h⟩
  | k + 1 => by
    obtain ⟨ih0, ih1⟩ := value_Mul.mono_l k
    refine ⟨?_, ?_⟩
    all_goals intros
    all_goals first
      | unfold value_Mul.j0
      | unfold value_Mul.j1
    all_goals repeat' first
      | (with_reducible exact ih0 _ _ _ _ _ _ _)
      | (with_reducible exact ih1 _ _ _ _ _ _ _)
      | (with_reducible exact value_ints.mono _ _ _ _ _ _ _)
      | (with_reducible exact LeO.refl _)
      | (with_reducible exact LeO.none _)
      | (with_reducible refine LeO.ite ?_ ?_)
      | (with_reducible refine LeO.bind ?_ (fun _ => ?_))
      | exact ih0 _ _ _ _ _ _ _
      | exact ih1 _ _ _ _ _ _ _
      | exact value_ints.mono _ _ _ _ _ _ _
      | exact LeO.none _
      | refine LeO.ite ?_ ?_
      | refine LeO.bind ?_ (fun _ => ?_)
theorem value_Mul.mono : ∀ a0 a1 a2 a3 a4 a5 k, LeO (value_Mul.f k a0 a1 a2 a3 a4 a5) (value_Mul.f (k + 1) a0 a1 a2 a3 a4 a5) := by
  intro a0 a1 a2 a3 a4 a5 k
  obtain ⟨ih0, ih1⟩ := value_Mul.mono_l k
  unfold value_Mul.f
  repeat' first
      | (with_reducible exact ih0 _ _ _ _ _ _ _)
      | (with_reducible exact ih1 _ _ _ _ _ _ _)
      | (with_reducible exact value_ints.mono _ _ _ _ _ _ _)
      | (with_reducible exact LeO.refl _)
      | (with_reducible exact LeO.none _)
      | (with_reducible refine LeO.ite ?_ ?_)
      | (with_reducible refine LeO.bind ?_ (fun _ => ?_))
      | exact ih0 _ _ _ _ _ _ _
      | exact ih1 _ _ _ _ _ _ _
      | exact value_ints.mono _ _ _ _ _ _ _
      | exact LeO.none _
      | refine LeO.ite ?_ ?_
      | refine LeO.bind ?_ (fun _ => ?_)
def value_Mul.T9 : Bool × List (List Nat × List Nat) := (true, [([], []), ([], []), ([], []), ([2], [2]), ([1, 3], [1, 3]), ([], []), ([5], [5]), ([4, 6], [4, 6]), ([0, 7], [0, 7]), ([8], [8]), ([8], [8]), ([9, 8, 0, 1, 2, 3, 4, 5, 6, 7, 8, 9, 10], [9]), ([10, 11, 0, 1, 2, 3, 4, 5, 6, 7, 8, 9, 10, 11], [10])])
def value_Mul.B9 : List Nat := [0, 0, 0, 4, 14, 0, 32, 126, 255, 511, 511, 2047, 4095]
theorem value_Mul.tab9 : rtab .any (opsOf Tryd.f18 9) = value_Mul.T9 := by kernel_rfl
theorem value_Mul.bits9 : waitsOk value_Mul.T9.2 value_Mul.B9 = true := by kernel_rfl
set_option maxHeartbeats 8000000 in
set_option maxRecDepth 100000 in
theorem value_Mul.calls (k : Nat) (a0_0 : Int) (a0_1 : Int) (a0_2 : ByteArray) (a1_0 : Int) (a1_1 : Int) (a1_2 : ByteArray) (r1 : Int) (r2 : Int) (r3 : ByteArray) (r4 : Int) (w : World) (h : value_Mul.f k a0_0 a0_1 a0_2 a1_0 a1_1 a1_2 = some (r1, r2, r3, r4)) (hG : Glob w) :
    Calls Tryd.prog 18 #[.agg #[.int .i64 a0_0, .int .i64 a0_1, .string a0_2], .agg #[.int .i64 a1_0, .int .i64 a1_1, .string a1_2]] w fun e w' => e = .returned (.tuple #[.agg #[.int .i64 r1, .int .i64 r2, .string r3], .int .i64 r4]) ∧ Below w.heap.size w w' := by
  have hu23 := Tryd.underlying23
  have HG := Aside0.mk hG
  clear hG
  have HB := Aside0.mk (Below.refl w.heap.size w)
  have H : ((value_ints.f k a0_0 a0_1 a0_2 a1_0 a1_1 a1_2).bind fun bt198 => (if bt198.1 = true then (some (0, 0, (⟨#[]⟩ : ByteArray), bt198.2)) else (if a0_1 = 0 then (value_Mul.j0 k true a0_0 a0_1 a0_2 a1_0 a1_1 a1_2) else (value_Mul.j0 k (a1_1 == 0) a0_0 a0_1 a0_2 a1_0 a1_1 a1_2)))) = some (r1, r2, r3, r4) := h
  clear h
  replace H := Option.bind_eq_some_iff.mp H
  obtain ⟨⟨t198, t199⟩, A30, H⟩ := H
  replace H : (if t198 = true then (some (0, 0, (⟨#[]⟩ : ByteArray), t199)) else (if a0_1 = 0 then (value_Mul.j0 k true a0_0 a0_1 a0_2 a1_0 a1_1 a1_2) else (value_Mul.j0 k (a1_1 == 0) a0_0 a0_1 a0_2 a1_0 a1_1 a1_2))) = some (r1, r2, r3, r4) := H
  have A3 := Aside0.mk A30
  clear A30
  by_cases c4 : t198 = true
  · subst c4
    replace H := ifT_ H
    simp only [Option.some.injEq, Prod.mk.injEq] at H
    obtain ⟨rfl, rfl, rfl, rfl⟩ := H
    go_enter Tryd.func18, Tryd.ntmps18
    go_wp2_with (first | ((with_reducible refine gate_dst (N := 2) rfl ?_); refine box_event ?hg (N := 2) ?hd (cs := #[.int .i64 a0_0, .int .i64 a0_1, .string a0_2]) (t := 23) ?hr ?_; (case hd => rfl); (case hg => rfl); (case hr => first | (go_simp; done) | (go_simp; rfl)); intro gb195 hg w5 hbox hb; have n0_ := Aside0.mk (below_step q0_ hb); have n1_ := Aside0.mk (hbox); have n2_ := Aside0.mk ((q1_ : w.heap.size ≤ gb195)); have n3_ := Aside0.mk ((q1_ : w.heap.size ≤ gb195)); clear HB; have HB := n0_; have BK195 := n1_; have GW195 := n2_; have GE195 := n3_; clear n0_ n1_ n2_ n3_; clear hb hbox hg) | ((with_reducible refine gate_dst (N := 3) rfl ?_); refine box_event ?hg (N := 3) ?hd (cs := #[.int .i64 a1_0, .int .i64 a1_1, .string a1_2]) (t := 23) ?hr ?_; (case hd => rfl); (case hg => rfl); (case hr => first | (go_simp; done) | (go_simp; rfl)); intro gb196 hg w6 hbox hb; have n0_ := Aside0.mk (blk_below (g := gb195) (o := .cells #[.int .i64 a0_0, .int .i64 a0_1, .string a0_2] 23 (0, 0)) q108_ hb); have n1_ := Aside0.mk (below_step q0_ hb); have n2_ := Aside0.mk (hbox); have n3_ := Aside0.mk ((q1_ : w.heap.size ≤ gb196)); have n4_ := Aside0.mk ((q1_ : w.heap.size ≤ gb196)); have n5_ := Aside0.mk ((q163_ : gb195 ≠ gb196)); have n6_ := Aside0.mk ((q165_ : gb196 ≠ gb195)); clear BK195; clear HB; have BK195 := n0_; have HB := n1_; have BK196 := n2_; have GW196 := n3_; have GE196 := n4_; have NB195_196 := n5_; have NB196_195 := n6_; clear n0_ n1_ n2_ n3_ n4_ n5_ n6_; clear hb hbox hg) | ((with_reducible refine gate_dst (N := 4) rfl ?_); refine box_event ?hg (N := 4) ?hd (cs := #[.int .i64 0, .int .i64 0, .string (⟨#[]⟩ : ByteArray)]) (t := 23) ?hr ?_; (case hd => rfl); (case hg => rfl); (case hr => first | (go_simp; done) | (go_simp; rfl)); intro gb197 hg w7 hbox hb; have n0_ := Aside0.mk (blk_below (g := gb195) (o := .cells #[.int .i64 a0_0, .int .i64 a0_1, .string a0_2] 23 (0, 0)) q108_ hb); have n1_ := Aside0.mk (blk_below (g := gb196) (o := .cells #[.int .i64 a1_0, .int .i64 a1_1, .string a1_2] 23 (0, 0)) q128_ hb); have n2_ := Aside0.mk (below_step q0_ hb); have n3_ := Aside0.mk (hbox); have n4_ := Aside0.mk ((q1_ : w.heap.size ≤ gb197)); have n5_ := Aside0.mk ((q1_ : w.heap.size ≤ gb197)); have n6_ := Aside0.mk ((q163_ : gb195 ≠ gb197)); have n7_ := Aside0.mk ((q165_ : gb197 ≠ gb195)); have n8_ := Aside0.mk ((q194_ : gb196 ≠ gb197)); have n9_ := Aside0.mk ((q196_ : gb197 ≠ gb196)); clear BK195; clear BK196; clear HB; have BK195 := n0_; have BK196 := n1_; have HB := n2_; have BK197 := n3_; have GW197 := n4_; have GE197 := n5_; have NB195_197 := n6_; have NB197_195 := n7_; have NB196_197 := n8_; have NB197_196 := n9_; clear n0_ n1_ n2_ n3_ n4_ n5_ n6_ n7_ n8_ n9_; clear hb hbox hg; have hnb8 := NB195_196.out; have hnc8 := NB196_195.out; have hnb9 := NB195_197.out; have hnc9 := NB197_195.out; have hcz10_0 : w7.cell? ⟨gb195, 0, none⟩ = some (.int .i64 a0_0) := (blk_cell BK195.out 0).trans rfl; have hcz10_1 : w7.cell? ⟨gb195, 1, none⟩ = some (.int .i64 a0_1) := (blk_cell BK195.out 1).trans rfl; have hcz10_2 : w7.cell? ⟨gb195, 2, none⟩ = some (.string a0_2) := (blk_cell BK195.out 2).trans rfl; have hfz10_0 := blk_frozen BK195.out 0; have hfz10_1 := blk_frozen BK195.out 1; have hfz10_2 := blk_frozen BK195.out 2; have hnb11 := NB196_197.out; have hnc11 := NB197_196.out; have hcz12_0 : w7.cell? ⟨gb196, 0, none⟩ = some (.int .i64 a1_0) := (blk_cell BK196.out 0).trans rfl; have hcz12_1 : w7.cell? ⟨gb196, 1, none⟩ = some (.int .i64 a1_1) := (blk_cell BK196.out 1).trans rfl; have hcz12_2 : w7.cell? ⟨gb196, 2, none⟩ = some (.string a1_2) := (blk_cell BK196.out 2).trans rfl; have hfz12_0 := blk_frozen BK196.out 0; have hfz12_1 := blk_frozen BK196.out 1; have hfz12_2 := blk_frozen BK196.out 2) | ((with_reducible refine gate_callee (f := 35) rfl ?_); refine goesL_ (some 12) rfl rfl Tryd.func35 (by kernel_rfl) rfl #[.agg #[.int .i64 a0_0, .int .i64 a0_1, .string a0_2], .agg #[.int .i64 a1_0, .int .i64 a1_1, .string a1_2]] rfl q2_ ?_; (with_reducible refine (value_ints.calls k a0_0 a0_1 a0_2 a1_0 a1_1 a1_2 true t199 _ A3.out q182_).mono ?_); rintro e w13 ⟨rfl, hb⟩; refine ⟨_, rfl, ?_⟩; have n0_ := Aside0.mk (blk_below (g := gb195) (o := .cells #[.int .i64 a0_0, .int .i64 a0_1, .string a0_2] 23 (0, 0)) q108_ hb); have n1_ := Aside0.mk (blk_below (g := gb196) (o := .cells #[.int .i64 a1_0, .int .i64 a1_1, .string a1_2] 23 (0, 0)) q128_ hb); have n2_ := Aside0.mk (blk_below (g := gb197) (o := .cells #[.int .i64 0, .int .i64 0, .string (⟨#[]⟩ : ByteArray)] 23 (0, 0)) q157_ hb); have n3_ := Aside0.mk (below_step q0_ hb); clear BK195; clear BK196; clear BK197; clear HB; have BK195 := n0_; have BK196 := n1_; have BK197 := n2_; have HB := n3_; clear n0_ n1_ n2_ n3_; (try clear hb); (try clear hb2); (try clear hk); (try clear hi); have hcz14_0 : w13.cell? ⟨gb197, 0, none⟩ = some (.int .i64 0) := (blk_cell BK197.out 0).trans rfl; have hcz14_1 : w13.cell? ⟨gb197, 1, none⟩ = some (.int .i64 0) := (blk_cell BK197.out 1).trans rfl; have hcz14_2 : w13.cell? ⟨gb197, 2, none⟩ = some (.string (⟨#[]⟩ : ByteArray)) := (blk_cell BK197.out 2).trans rfl; have hfz14_0 := blk_frozen BK197.out 0; have hfz14_1 := blk_frozen BK197.out 1; have hfz14_2 := blk_frozen BK197.out 2))
    refine bodyPost_ret (results_ct rfl _ _ gb197 23 #[.int .i64 0, .int .i64 0, .string (⟨#[]⟩ : ByteArray)] (0, 0) _ rfl (by (with_reducible repeat first | apply bN_ | apply bD_ | apply bA_); refine blk_put (cs := #[.int .i64 0, .int .i64 0, .string (⟨#[]⟩ : ByteArray)]) ?_ 2 _ rfl; (with_reducible repeat first | apply bN_ | apply bD_ | apply bA_); refine blk_put (cs := #[.int .i64 0, .int .i64 0, .string (⟨#[]⟩ : ByteArray)]) ?_ 1 _ rfl; (with_reducible repeat first | apply bN_ | apply bD_ | apply bA_); refine blk_put (cs := #[.int .i64 0, .int .i64 0, .string (⟨#[]⟩ : ByteArray)]) ?_ 0 _ rfl; (with_reducible repeat first | apply bN_ | apply bD_ | apply bA_); exact BK197.out) Tryd.underlying23 rfl (by kernel_rfl)) rfl ?_
    exact ⟨q13_, q0_⟩
  · replace c4 := Bool.eq_false_iff.mpr c4
    subst c4
    replace H := ifF_ H
    have HC15 := Aside0.mk H
    clear H
    go_enter Tryd.func18, Tryd.ntmps18
    go_upto_region 4 with (first | ((with_reducible refine gate_dst (N := 2) rfl ?_); refine box_event ?hg (N := 2) ?hd (cs := #[.int .i64 a0_0, .int .i64 a0_1, .string a0_2]) (t := 23) ?hr ?_; (case hd => rfl); (case hg => rfl); (case hr => first | (go_simp; done) | (go_simp; rfl)); intro gb195 hg w16 hbox hb; have n0_ := Aside0.mk (below_step q0_ hb); have n1_ := Aside0.mk (hbox); have n2_ := Aside0.mk ((q1_ : w.heap.size ≤ gb195)); have n3_ := Aside0.mk ((q1_ : w.heap.size ≤ gb195)); clear HB; have HB := n0_; have BK195 := n1_; have GW195 := n2_; have GE195 := n3_; clear n0_ n1_ n2_ n3_; clear hb hbox hg) | ((with_reducible refine gate_dst (N := 3) rfl ?_); refine box_event ?hg (N := 3) ?hd (cs := #[.int .i64 a1_0, .int .i64 a1_1, .string a1_2]) (t := 23) ?hr ?_; (case hd => rfl); (case hg => rfl); (case hr => first | (go_simp; done) | (go_simp; rfl)); intro gb196 hg w17 hbox hb; have n0_ := Aside0.mk (blk_below (g := gb195) (o := .cells #[.int .i64 a0_0, .int .i64 a0_1, .string a0_2] 23 (0, 0)) q108_ hb); have n1_ := Aside0.mk (below_step q0_ hb); have n2_ := Aside0.mk (hbox); have n3_ := Aside0.mk ((q1_ : w.heap.size ≤ gb196)); have n4_ := Aside0.mk ((q1_ : w.heap.size ≤ gb196)); have n5_ := Aside0.mk ((q163_ : gb195 ≠ gb196)); have n6_ := Aside0.mk ((q165_ : gb196 ≠ gb195)); clear BK195; clear HB; have BK195 := n0_; have HB := n1_; have BK196 := n2_; have GW196 := n3_; have GE196 := n4_; have NB195_196 := n5_; have NB196_195 := n6_; clear n0_ n1_ n2_ n3_ n4_ n5_ n6_; clear hb hbox hg) | ((with_reducible refine gate_dst (N := 4) rfl ?_); refine box_event ?hg (N := 4) ?hd (cs := #[.int .i64 0, .int .i64 0, .string (⟨#[]⟩ : ByteArray)]) (t := 23) ?hr ?_; (case hd => rfl); (case hg => rfl); (case hr => first | (go_simp; done) | (go_simp; rfl)); intro gb197 hg w18 hbox hb; have n0_ := Aside0.mk (blk_below (g := gb195) (o := .cells #[.int .i64 a0_0, .int .i64 a0_1, .string a0_2] 23 (0, 0)) q108_ hb); have n1_ := Aside0.mk (blk_below (g := gb196) (o := .cells #[.int .i64 a1_0, .int .i64 a1_1, .string a1_2] 23 (0, 0)) q128_ hb); have n2_ := Aside0.mk (below_step q0_ hb); have n3_ := Aside0.mk (hbox); have n4_ := Aside0.mk ((q1_ : w.heap.size ≤ gb197)); have n5_ := Aside0.mk ((q1_ : w.heap.size ≤ gb197)); have n6_ := Aside0.mk ((q163_ : gb195 ≠ gb197)); have n7_ := Aside0.mk ((q165_ : gb197 ≠ gb195)); have n8_ := Aside0.mk ((q194_ : gb196 ≠ gb197)); have n9_ := Aside0.mk ((q196_ : gb197 ≠ gb196)); clear BK195; clear BK196; clear HB; have BK195 := n0_; have BK196 := n1_; have HB := n2_; have BK197 := n3_; have GW197 := n4_; have GE197 := n5_; have NB195_197 := n6_; have NB197_195 := n7_; have NB196_197 := n8_; have NB197_196 := n9_; clear n0_ n1_ n2_ n3_ n4_ n5_ n6_ n7_ n8_ n9_; clear hb hbox hg; have hnb19 := NB195_196.out; have hnc19 := NB196_195.out; have hnb20 := NB195_197.out; have hnc20 := NB197_195.out; have hcz21_0 : w18.cell? ⟨gb195, 0, none⟩ = some (.int .i64 a0_0) := (blk_cell BK195.out 0).trans rfl; have hcz21_1 : w18.cell? ⟨gb195, 1, none⟩ = some (.int .i64 a0_1) := (blk_cell BK195.out 1).trans rfl; have hcz21_2 : w18.cell? ⟨gb195, 2, none⟩ = some (.string a0_2) := (blk_cell BK195.out 2).trans rfl; have hfz21_0 := blk_frozen BK195.out 0; have hfz21_1 := blk_frozen BK195.out 1; have hfz21_2 := blk_frozen BK195.out 2; have hnb22 := NB196_197.out; have hnc22 := NB197_196.out; have hcz23_0 : w18.cell? ⟨gb196, 0, none⟩ = some (.int .i64 a1_0) := (blk_cell BK196.out 0).trans rfl; have hcz23_1 : w18.cell? ⟨gb196, 1, none⟩ = some (.int .i64 a1_1) := (blk_cell BK196.out 1).trans rfl; have hcz23_2 : w18.cell? ⟨gb196, 2, none⟩ = some (.string a1_2) := (blk_cell BK196.out 2).trans rfl; have hfz23_0 := blk_frozen BK196.out 0; have hfz23_1 := blk_frozen BK196.out 1; have hfz23_2 := blk_frozen BK196.out 2) | ((with_reducible refine gate_callee (f := 35) rfl ?_); refine goesL_ (some 12) rfl rfl Tryd.func35 (by kernel_rfl) rfl #[.agg #[.int .i64 a0_0, .int .i64 a0_1, .string a0_2], .agg #[.int .i64 a1_0, .int .i64 a1_1, .string a1_2]] rfl q2_ ?_; (with_reducible refine (value_ints.calls k a0_0 a0_1 a0_2 a1_0 a1_1 a1_2 false t199 _ A3.out q182_).mono ?_); rintro e w24 ⟨rfl, hb⟩; refine ⟨_, rfl, ?_⟩; have n0_ := Aside0.mk (blk_below (g := gb195) (o := .cells #[.int .i64 a0_0, .int .i64 a0_1, .string a0_2] 23 (0, 0)) q108_ hb); have n1_ := Aside0.mk (blk_below (g := gb196) (o := .cells #[.int .i64 a1_0, .int .i64 a1_1, .string a1_2] 23 (0, 0)) q128_ hb); have n2_ := Aside0.mk (blk_below (g := gb197) (o := .cells #[.int .i64 0, .int .i64 0, .string (⟨#[]⟩ : ByteArray)] 23 (0, 0)) q157_ hb); have n3_ := Aside0.mk (below_step q0_ hb); clear BK195; clear BK196; clear BK197; clear HB; have BK195 := n0_; have BK196 := n1_; have BK197 := n2_; have HB := n3_; clear n0_ n1_ n2_ n3_; (try clear hb); (try clear hb2); (try clear hk); (try clear hi)))
    (try simp only [Act.put, List.setIfInBounds_toArray, List.set_cons_zero, List.set_cons_succ])
    go_cut [25] (fun v25 wc => ∃ (kq : Nat) (x25_14 : Bool), v25 = .bool x25_14 ∧ Aside0 (value_Mul.j0 kq x25_14 a0_0 a0_1 a0_2 a1_0 a1_1 a1_2 = some (r1, r2, r3, r4)) ∧ Aside0 (kq ≤ k) ∧ Aside0 (wc.heap[gb195]? = some (.cells #[.int .i64 a0_0, .int .i64 a0_1, .string a0_2] 23 (0, 0))) ∧ Aside0 (wc.heap[gb196]? = some (.cells #[.int .i64 a1_0, .int .i64 a1_1, .string a1_2] 23 (0, 0))) ∧ Aside0 (wc.heap[gb197]? = some (.cells #[.int .i64 0, .int .i64 0, .string (⟨#[]⟩ : ByteArray)] 23 (0, 0))) ∧ Aside0 (Below w.heap.size w wc))
    case first =>
      have H := HC15.out
      clear HC15
      by_cases c25 : a0_1 = 0
      · rw [if_pos c25] at H
        have c25b0 : (a0_1 == 0) = true := beq_iff_eq.mpr c25
        have c25b1 : (a0_1 != 0) = false := bne_eq_false_iff_eq.mpr c25
        clear c25
        (first | rw [c25b0] | (simp only [i64_w, i32_w]; rw [c25b0]) | skip)
        have H' := Aside0.mk H
        clear H
        have hnb26 := NB195_196.out
        have hnc26 := NB196_195.out
        have hnb27 := NB195_197.out
        have hnc27 := NB197_195.out
        have hcz28_0 : w24.cell? ⟨gb195, 0, none⟩ = some (.int .i64 a0_0) := (blk_cell BK195.out 0).trans rfl
        have hcz28_1 : w24.cell? ⟨gb195, 1, none⟩ = some (.int .i64 a0_1) := (blk_cell BK195.out 1).trans rfl
        have hcz28_2 : w24.cell? ⟨gb195, 2, none⟩ = some (.string a0_2) := (blk_cell BK195.out 2).trans rfl
        have hfz28_0 := blk_frozen BK195.out 0
        have hfz28_1 := blk_frozen BK195.out 1
        have hfz28_2 := blk_frozen BK195.out 2
        go_wp2
        go_meet
        case rel => exact ⟨_, (true), q20_, H', ⟨by first | omega | exact Nat.le_refl _⟩, ⟨q108_⟩, ⟨q128_⟩, ⟨q157_⟩, ⟨q0_⟩⟩
      · rw [if_neg c25] at H
        have c25b0 : (a0_1 == 0) = false := beq_eq_false_iff_ne.mpr c25
        have c25b1 : (a0_1 != 0) = true := bne_iff_ne.mpr c25
        (first | rw [c25b0] | (simp only [i64_w, i32_w]; rw [c25b0]) | skip)
        have H' := Aside0.mk H
        clear H
        have hnb29 := NB195_196.out
        have hnc29 := NB196_195.out
        have hnb30 := NB195_197.out
        have hnc30 := NB197_195.out
        have hcz31_0 : w24.cell? ⟨gb195, 0, none⟩ = some (.int .i64 a0_0) := (blk_cell BK195.out 0).trans rfl
        have hcz31_1 : w24.cell? ⟨gb195, 1, none⟩ = some (.int .i64 a0_1) := (blk_cell BK195.out 1).trans rfl
        have hcz31_2 : w24.cell? ⟨gb195, 2, none⟩ = some (.string a0_2) := (blk_cell BK195.out 2).trans rfl
        have hfz31_0 := blk_frozen BK195.out 0
        have hfz31_1 := blk_frozen BK195.out 1
        have hfz31_2 := blk_frozen BK195.out 2
        have hnb32 := NB196_197.out
        have hnc32 := NB197_196.out
        have hcz33_0 : w24.cell? ⟨gb196, 0, none⟩ = some (.int .i64 a1_0) := (blk_cell BK196.out 0).trans rfl
        have hcz33_1 : w24.cell? ⟨gb196, 1, none⟩ = some (.int .i64 a1_1) := (blk_cell BK196.out 1).trans rfl
        have hcz33_2 : w24.cell? ⟨gb196, 2, none⟩ = some (.string a1_2) := (blk_cell BK196.out 2).trans rfl
        have hfz33_0 := blk_frozen BK196.out 0
        have hfz33_1 := blk_frozen BK196.out 1
        have hfz33_2 := blk_frozen BK196.out 2
        go_wp2
        go_meet
        case rel => exact ⟨_, ((a1_1 == 0)), q20_, H', ⟨by first | omega | exact Nat.le_refl _⟩, ⟨q108_⟩, ⟨q128_⟩, ⟨q157_⟩, ⟨q0_⟩⟩
    case rest =>
      clear HC15
      try clear c1
      try clear c2
      try clear p2
      try clear c3
      try clear c4
      try clear c8
      try clear c9
      try clear c11
      try clear c18
      try clear c19
      try clear c20
      try clear c22
      try clear c25
      try clear c25b0
      try clear c25b1
      try clear c26
      try clear c27
      try clear c29
      try clear c30
      try clear c32
      try clear hcz10_0
      try clear hcz10_1
      try clear hcz10_2
      try clear hcz12_0
      try clear hcz12_1
      try clear hcz12_2
      try clear hcz14_0
      try clear hcz14_1
      try clear hcz14_2
      try clear hcz21_0
      try clear hcz21_1
      try clear hcz21_2
      try clear hcz23_0
      try clear hcz23_1
      try clear hcz23_2
      try clear hcz28_0
      try clear hcz28_1
      try clear hcz28_2
      try clear hcz31_0
      try clear hcz31_1
      try clear hcz31_2
      try clear hcz33_0
      try clear hcz33_1
      try clear hcz33_2
      try clear hfz10_0
      try clear hfz10_1
      try clear hfz10_2
      try clear hfz12_0
      try clear hfz12_1
      try clear hfz12_2
      try clear hfz14_0
      try clear hfz14_1
      try clear hfz14_2
      try clear hfz21_0
      try clear hfz21_1
      try clear hfz21_2
      try clear hfz23_0
      try clear hfz23_1
      try clear hfz23_2
      try clear hfz28_0
      try clear hfz28_1
      try clear hfz28_2
      try clear hfz31_0
      try clear hfz31_1
      try clear hfz31_2
      try clear hfz33_0
      try clear hfz33_1
      try clear hfz33_2
      obtain ⟨kq, x25_14, rfl, HA, HJ14, BK195, BK196, BK197, HB⟩ := hcut
      cases kq with
      | zero => exact absurd HA.out (by simp [value_Mul.j0])
      | succ kj14 =>
        have H := HA.out
        clear HA
        simp only [value_Mul.j0] at H
        by_cases c34 : x25_14 = true
        · subst c34
          replace H := ifT_ H
          replace H := Option.bind_eq_some_iff.mp H
          obtain ⟨⟨t200, t201, t202, t203⟩, A350, H⟩ := H
          replace H : (some (t200, t201, t202, t203)) = some (r1, r2, r3, r4) := H
          have A35 := Aside0.mk A350
          clear A350
          simp only [Option.some.injEq, Prod.mk.injEq] at H
          obtain ⟨rfl, rfl, rfl, rfl⟩ := H
          go_wp2_with (first | ((with_reducible refine gate_callee (f := 36) rfl ?_); refine goesL_ (some 26) rfl rfl Tryd.func36 (by kernel_rfl) rfl #[.int .i64 0, .bool false] rfl q2_ ?_; (with_reducible refine (value_of.calls 0 false t200 t201 t202 t203 _ A35.out).mono ?_); rintro e w36 ⟨rfl, hb⟩; refine ⟨_, rfl, ?_⟩; have n0_ := Aside0.mk (blk_below (g := gb195) (o := .cells #[.int .i64 a0_0, .int .i64 a0_1, .string a0_2] 23 (0, 0)) q108_ hb); have n1_ := Aside0.mk (blk_below (g := gb196) (o := .cells #[.int .i64 a1_0, .int .i64 a1_1, .string a1_2] 23 (0, 0)) q128_ hb); have n2_ := Aside0.mk (blk_below (g := gb197) (o := .cells #[.int .i64 0, .int .i64 0, .string (⟨#[]⟩ : ByteArray)] 23 (0, 0)) q157_ hb); have n3_ := Aside0.mk (below_step q0_ hb); clear BK195; clear BK196; clear BK197; clear HB; have BK195 := n0_; have BK196 := n1_; have BK197 := n2_; have HB := n3_; clear n0_ n1_ n2_ n3_; (try clear hb); (try clear hb2); (try clear hk); (try clear hi); have hnb37 := NB197_195.out; have hnc37 := NB195_197.out; have hnb38 := NB197_196.out; have hnc38 := NB196_197.out; have hcz39_0 : w36.cell? ⟨gb197, 0, none⟩ = some (.int .i64 0) := (blk_cell BK197.out 0).trans rfl; have hcz39_1 : w36.cell? ⟨gb197, 1, none⟩ = some (.int .i64 0) := (blk_cell BK197.out 1).trans rfl; have hcz39_2 : w36.cell? ⟨gb197, 2, none⟩ = some (.string (⟨#[]⟩ : ByteArray)) := (blk_cell BK197.out 2).trans rfl; have hfz39_0 := blk_frozen BK197.out 0; have hfz39_1 := blk_frozen BK197.out 1; have hfz39_2 := blk_frozen BK197.out 2))
          refine bodyPost_ret (results_ct rfl _ _ gb197 23 #[.int .i64 t200, .int .i64 t201, .string t202] (0, 0) _ rfl (by (with_reducible repeat first | apply bN_ | apply bD_ | apply bA_); refine blk_put (cs := #[.int .i64 t200, .int .i64 t201, .string (⟨#[]⟩ : ByteArray)]) ?_ 2 _ rfl; (with_reducible repeat first | apply bN_ | apply bD_ | apply bA_); refine blk_put (cs := #[.int .i64 t200, .int .i64 0, .string (⟨#[]⟩ : ByteArray)]) ?_ 1 _ rfl; (with_reducible repeat first | apply bN_ | apply bD_ | apply bA_); refine blk_put (cs := #[.int .i64 0, .int .i64 0, .string (⟨#[]⟩ : ByteArray)]) ?_ 0 _ rfl; (with_reducible repeat first | apply bN_ | apply bD_ | apply bA_); exact BK197.out) Tryd.underlying23 rfl (by kernel_rfl)) rfl ?_
          exact ⟨q13_, q0_⟩
        · replace c34 := Bool.eq_false_iff.mpr c34
          subst c34
          replace H := ifF_ H
          have HC40 := Aside0.mk H
          clear H
          go_upto_region 6 with (fail)
          go_cut [36] (fun v36 wc => ∃ (kq : Nat) (x36_39 : Bool), v36 = .bool x36_39 ∧ Aside0 (value_Mul.j1 kq x36_39 a0_0 a0_1 a0_2 a1_0 a1_1 a1_2 = some (r1, r2, r3, r4)) ∧ Aside0 (kq ≤ kj14) ∧ Aside0 (wc.heap[gb195]? = some (.cells #[.int .i64 a0_0, .int .i64 a0_1, .string a0_2] 23 (0, 0))) ∧ Aside0 (wc.heap[gb196]? = some (.cells #[.int .i64 a1_0, .int .i64 a1_1, .string a1_2] 23 (0, 0))) ∧ Aside0 (wc.heap[gb197]? = some (.cells #[.int .i64 0, .int .i64 0, .string (⟨#[]⟩ : ByteArray)] 23 (0, 0))) ∧ Aside0 (Below w.heap.size w wc))
          case first =>
            have H := HC40.out
            clear HC40
            by_cases c41 : a0_1 = (-9223372036854775808)
            · rw [if_pos c41] at H
              have c41b0 : (a0_1 == (-9223372036854775808)) = true := beq_iff_eq.mpr c41
              have c41b1 : (a0_1 != (-9223372036854775808)) = false := bne_eq_false_iff_eq.mpr c41
              clear c41
              (first | rw [c41b0] | (simp only [i64_w, i32_w]; rw [c41b0]) | skip)
              have H' := Aside0.mk H
              clear H
              have hnb42 := NB195_196.out
              have hnc42 := NB196_195.out
              have hnb43 := NB195_197.out
              have hnc43 := NB197_195.out
              have hcz44_0 : wc.cell? ⟨gb195, 0, none⟩ = some (.int .i64 a0_0) := (blk_cell BK195.out 0).trans rfl
              have hcz44_1 : wc.cell? ⟨gb195, 1, none⟩ = some (.int .i64 a0_1) := (blk_cell BK195.out 1).trans rfl
              have hcz44_2 : wc.cell? ⟨gb195, 2, none⟩ = some (.string a0_2) := (blk_cell BK195.out 2).trans rfl
              have hfz44_0 := blk_frozen BK195.out 0
              have hfz44_1 := blk_frozen BK195.out 1
              have hfz44_2 := blk_frozen BK195.out 2
              go_wp2
              go_meet
              case rel => exact ⟨_, (true), q20_, H', ⟨by have := HJ14.out; first | omega | exact Nat.le_refl _⟩, ⟨q108_⟩, ⟨q128_⟩, ⟨q157_⟩, ⟨q0_⟩⟩
            · rw [if_neg c41] at H
              have c41b0 : (a0_1 == (-9223372036854775808)) = false := beq_eq_false_iff_ne.mpr c41
              have c41b1 : (a0_1 != (-9223372036854775808)) = true := bne_iff_ne.mpr c41
              (first | rw [c41b0] | (simp only [i64_w, i32_w]; rw [c41b0]) | skip)
              have H' := Aside0.mk H
              clear H
              have hnb45 := NB195_196.out
              have hnc45 := NB196_195.out
              have hnb46 := NB195_197.out
              have hnc46 := NB197_195.out
              have hcz47_0 : wc.cell? ⟨gb195, 0, none⟩ = some (.int .i64 a0_0) := (blk_cell BK195.out 0).trans rfl
              have hcz47_1 : wc.cell? ⟨gb195, 1, none⟩ = some (.int .i64 a0_1) := (blk_cell BK195.out 1).trans rfl
              have hcz47_2 : wc.cell? ⟨gb195, 2, none⟩ = some (.string a0_2) := (blk_cell BK195.out 2).trans rfl
              have hfz47_0 := blk_frozen BK195.out 0
              have hfz47_1 := blk_frozen BK195.out 1
              have hfz47_2 := blk_frozen BK195.out 2
              have hnb48 := NB196_197.out
              have hnc48 := NB197_196.out
              have hcz49_0 : wc.cell? ⟨gb196, 0, none⟩ = some (.int .i64 a1_0) := (blk_cell BK196.out 0).trans rfl
              have hcz49_1 : wc.cell? ⟨gb196, 1, none⟩ = some (.int .i64 a1_1) := (blk_cell BK196.out 1).trans rfl
              have hcz49_2 : wc.cell? ⟨gb196, 2, none⟩ = some (.string a1_2) := (blk_cell BK196.out 2).trans rfl
              have hfz49_0 := blk_frozen BK196.out 0
              have hfz49_1 := blk_frozen BK196.out 1
              have hfz49_2 := blk_frozen BK196.out 2
              go_wp2
              go_meet
              case rel => exact ⟨_, ((a1_1 == (-9223372036854775808))), q20_, H', ⟨by have := HJ14.out; first | omega | exact Nat.le_refl _⟩, ⟨q108_⟩, ⟨q128_⟩, ⟨q157_⟩, ⟨q0_⟩⟩
          case rest =>
            clear HC40
            try clear c1
            try clear c2
            try clear p2
            try clear c3
            try clear c4
            try clear c8
            try clear c9
            try clear c11
            try clear c18
            try clear c19
            try clear c20
            try clear c22
            try clear c25
            try clear c25b0
            try clear c25b1
            try clear c26
            try clear c27
            try clear c29
            try clear c30
            try clear c32
            try clear c34
            try clear c35
            try clear c36
            try clear c37
            try clear c38
            try clear c41
            try clear c41b0
            try clear c41b1
            try clear c42
            try clear c43
            try clear c45
            try clear c46
            try clear c48
            try clear hcz10_0
            try clear hcz10_1
            try clear hcz10_2
            try clear hcz12_0
            try clear hcz12_1
            try clear hcz12_2
            try clear hcz14_0
            try clear hcz14_1
            try clear hcz14_2
            try clear hcz21_0
            try clear hcz21_1
            try clear hcz21_2
            try clear hcz23_0
            try clear hcz23_1
            try clear hcz23_2
            try clear hcz28_0
            try clear hcz28_1
            try clear hcz28_2
            try clear hcz31_0
            try clear hcz31_1
            try clear hcz31_2
            try clear hcz33_0
            try clear hcz33_1
            try clear hcz33_2
            try clear hcz39_0
            try clear hcz39_1
            try clear hcz39_2
            try clear hcz44_0
            try clear hcz44_1
            try clear hcz44_2
            try clear hcz47_0
            try clear hcz47_1
            try clear hcz47_2
            try clear hcz49_0
            try clear hcz49_1
            try clear hcz49_2
            try clear hfz10_0
            try clear hfz10_1
            try clear hfz10_2
            try clear hfz12_0
            try clear hfz12_1
            try clear hfz12_2
            try clear hfz14_0
            try clear hfz14_1
            try clear hfz14_2
            try clear hfz21_0
            try clear hfz21_1
            try clear hfz21_2
            try clear hfz23_0
            try clear hfz23_1
            try clear hfz23_2
            try clear hfz28_0
            try clear hfz28_1
            try clear hfz28_2
            try clear hfz31_0
            try clear hfz31_1
            try clear hfz31_2
            try clear hfz33_0
            try clear hfz33_1
            try clear hfz33_2
            try clear hfz39_0
            try clear hfz39_1
            try clear hfz39_2
            try clear hfz44_0
            try clear hfz44_1
            try clear hfz44_2
            try clear hfz47_0
            try clear hfz47_1
            try clear hfz47_2
            try clear hfz49_0
            try clear hfz49_1
            try clear hfz49_2
            try clear p2
            obtain ⟨kq, x36_39, rfl, HA, HJ39, BK195, BK196, BK197, HB⟩ := hcut
            cases kq with
            | zero => exact absurd HA.out (by simp [value_Mul.j1])
            | succ kj39 =>
              have H := HA.out
              clear HA
              simp only [value_Mul.j1] at H
              by_cases c50 : x36_39 = true
              · subst c50
                replace H := ifT_ H
                by_cases c51 : a0_1 = 1
                · rw [if_pos c51] at H
                  have c51b0 : (a0_1 == 1) = true := beq_iff_eq.mpr c51
                  have c51b1 : (a0_1 != 1) = false := bne_eq_false_iff_eq.mpr c51
                  clear c51
                  replace H := Option.bind_eq_some_iff.mp H
                  obtain ⟨⟨t204, t205, t206, t207⟩, A520, H⟩ := H
                  replace H : (some (t204, t205, t206, t207)) = some (r1, r2, r3, r4) := H
                  have A52 := Aside0.mk A520
                  clear A520
                  simp only [Option.some.injEq, Prod.mk.injEq] at H
                  obtain ⟨rfl, rfl, rfl, rfl⟩ := H
                  have hnb53 := NB195_196.out
                  have hnc53 := NB196_195.out
                  have hnb54 := NB195_197.out
                  have hnc54 := NB197_195.out
                  have hcz55_0 : wc.cell? ⟨gb195, 0, none⟩ = some (.int .i64 a0_0) := (blk_cell BK195.out 0).trans rfl
                  have hcz55_1 : wc.cell? ⟨gb195, 1, none⟩ = some (.int .i64 a0_1) := (blk_cell BK195.out 1).trans rfl
                  have hcz55_2 : wc.cell? ⟨gb195, 2, none⟩ = some (.string a0_2) := (blk_cell BK195.out 2).trans rfl
                  have hfz55_0 := blk_frozen BK195.out 0
                  have hfz55_1 := blk_frozen BK195.out 1
                  have hfz55_2 := blk_frozen BK195.out 2
                  go_wp2_with (first | ((with_reducible refine gate_callee (f := 36) rfl ?_); refine goesL_ (some 45) rfl rfl Tryd.func36 (by kernel_rfl) rfl #[.int .i64 (-9223372036854775808), .bool false] rfl q2_ ?_; (with_reducible refine (value_of.calls (-9223372036854775808) false t204 t205 t206 t207 _ A52.out).mono ?_); rintro e w56 ⟨rfl, hb⟩; refine ⟨_, rfl, ?_⟩; have n0_ := Aside0.mk (blk_below (g := gb195) (o := .cells #[.int .i64 a0_0, .int .i64 a0_1, .string a0_2] 23 (0, 0)) q108_ hb); have n1_ := Aside0.mk (blk_below (g := gb196) (o := .cells #[.int .i64 a1_0, .int .i64 a1_1, .string a1_2] 23 (0, 0)) q128_ hb); have n2_ := Aside0.mk (blk_below (g := gb197) (o := .cells #[.int .i64 0, .int .i64 0, .string (⟨#[]⟩ : ByteArray)] 23 (0, 0)) q157_ hb); have n3_ := Aside0.mk (below_step q0_ hb); clear BK195; clear BK196; clear BK197; clear HB; have BK195 := n0_; have BK196 := n1_; have BK197 := n2_; have HB := n3_; clear n0_ n1_ n2_ n3_; (try clear hb); (try clear hb2); (try clear hk); (try clear hi); have hnb57 := NB197_196.out; have hnc57 := NB196_197.out; have hcz58_0 : w56.cell? ⟨gb197, 0, none⟩ = some (.int .i64 0) := (blk_cell BK197.out 0).trans rfl; have hcz58_1 : w56.cell? ⟨gb197, 1, none⟩ = some (.int .i64 0) := (blk_cell BK197.out 1).trans rfl; have hcz58_2 : w56.cell? ⟨gb197, 2, none⟩ = some (.string (⟨#[]⟩ : ByteArray)) := (blk_cell BK197.out 2).trans rfl; have hfz58_0 := blk_frozen BK197.out 0; have hfz58_1 := blk_frozen BK197.out 1; have hfz58_2 := blk_frozen BK197.out 2))
                  refine bodyPost_ret (results_ct rfl _ _ gb197 23 #[.int .i64 t204, .int .i64 t205, .string t206] (0, 0) _ rfl (by (with_reducible repeat first | apply bN_ | apply bD_ | apply bA_); refine blk_put (cs := #[.int .i64 t204, .int .i64 t205, .string (⟨#[]⟩ : ByteArray)]) ?_ 2 _ rfl; (with_reducible repeat first | apply bN_ | apply bD_ | apply bA_); refine blk_put (cs := #[.int .i64 t204, .int .i64 0, .string (⟨#[]⟩ : ByteArray)]) ?_ 1 _ rfl; (with_reducible repeat first | apply bN_ | apply bD_ | apply bA_); refine blk_put (cs := #[.int .i64 0, .int .i64 0, .string (⟨#[]⟩ : ByteArray)]) ?_ 0 _ rfl; (with_reducible repeat first | apply bN_ | apply bD_ | apply bA_); exact BK197.out) Tryd.underlying23 rfl (by kernel_rfl)) rfl ?_
                  exact ⟨q13_, q0_⟩
                · rw [if_neg c51] at H
                  have c51b0 : (a0_1 == 1) = false := beq_eq_false_iff_ne.mpr c51
                  have c51b1 : (a0_1 != 1) = true := bne_iff_ne.mpr c51
                  replace H := Option.bind_eq_some_iff.mp H
                  obtain ⟨⟨t208, t209, t210, t211⟩, A590, H⟩ := H
                  replace H : (some (t208, t209, t210, t211)) = some (r1, r2, r3, r4) := H
                  have A59 := Aside0.mk A590
                  clear A590
                  simp only [Option.some.injEq, Prod.mk.injEq] at H
                  obtain ⟨rfl, rfl, rfl, rfl⟩ := H
                  have hnb60 := NB195_196.out
                  have hnc60 := NB196_195.out
                  have hnb61 := NB195_197.out
                  have hnc61 := NB197_195.out
                  have hcz62_0 : wc.cell? ⟨gb195, 0, none⟩ = some (.int .i64 a0_0) := (blk_cell BK195.out 0).trans rfl
                  have hcz62_1 : wc.cell? ⟨gb195, 1, none⟩ = some (.int .i64 a0_1) := (blk_cell BK195.out 1).trans rfl
                  have hcz62_2 : wc.cell? ⟨gb195, 2, none⟩ = some (.string a0_2) := (blk_cell BK195.out 2).trans rfl
                  have hfz62_0 := blk_frozen BK195.out 0
                  have hfz62_1 := blk_frozen BK195.out 1
                  have hfz62_2 := blk_frozen BK195.out 2
                  have hnb63 := NB196_197.out
                  have hnc63 := NB197_196.out
                  have hcz64_0 : wc.cell? ⟨gb196, 0, none⟩ = some (.int .i64 a1_0) := (blk_cell BK196.out 0).trans rfl
                  have hcz64_1 : wc.cell? ⟨gb196, 1, none⟩ = some (.int .i64 a1_1) := (blk_cell BK196.out 1).trans rfl
                  have hcz64_2 : wc.cell? ⟨gb196, 2, none⟩ = some (.string a1_2) := (blk_cell BK196.out 2).trans rfl
                  have hfz64_0 := blk_frozen BK196.out 0
                  have hfz64_1 := blk_frozen BK196.out 1
                  have hfz64_2 := blk_frozen BK196.out 2
                  go_wp2_with (first | ((with_reducible refine gate_callee (f := 36) rfl ?_); refine goesL_ (some 45) rfl rfl Tryd.func36 (by kernel_rfl) rfl #[.int .i64 (-9223372036854775808), .bool (a1_1 != 1)] rfl q2_ ?_; (with_reducible refine (value_of.calls (-9223372036854775808) (a1_1 != 1) t208 t209 t210 t211 _ A59.out).mono ?_); rintro e w65 ⟨rfl, hb⟩; refine ⟨_, rfl, ?_⟩; have n0_ := Aside0.mk (blk_below (g := gb195) (o := .cells #[.int .i64 a0_0, .int .i64 a0_1, .string a0_2] 23 (0, 0)) q108_ hb); have n1_ := Aside0.mk (blk_below (g := gb196) (o := .cells #[.int .i64 a1_0, .int .i64 a1_1, .string a1_2] 23 (0, 0)) q128_ hb); have n2_ := Aside0.mk (blk_below (g := gb197) (o := .cells #[.int .i64 0, .int .i64 0, .string (⟨#[]⟩ : ByteArray)] 23 (0, 0)) q157_ hb); have n3_ := Aside0.mk (below_step q0_ hb); clear BK195; clear BK196; clear BK197; clear HB; have BK195 := n0_; have BK196 := n1_; have BK197 := n2_; have HB := n3_; clear n0_ n1_ n2_ n3_; (try clear hb); (try clear hb2); (try clear hk); (try clear hi); have hcz66_0 : w65.cell? ⟨gb197, 0, none⟩ = some (.int .i64 0) := (blk_cell BK197.out 0).trans rfl; have hcz66_1 : w65.cell? ⟨gb197, 1, none⟩ = some (.int .i64 0) := (blk_cell BK197.out 1).trans rfl; have hcz66_2 : w65.cell? ⟨gb197, 2, none⟩ = some (.string (⟨#[]⟩ : ByteArray)) := (blk_cell BK197.out 2).trans rfl; have hfz66_0 := blk_frozen BK197.out 0; have hfz66_1 := blk_frozen BK197.out 1; have hfz66_2 := blk_frozen BK197.out 2))
                  refine bodyPost_ret (results_ct rfl _ _ gb197 23 #[.int .i64 t208, .int .i64 t209, .string t210] (0, 0) _ rfl (by (with_reducible repeat first | apply bN_ | apply bD_ | apply bA_); refine blk_put (cs := #[.int .i64 t208, .int .i64 t209, .string (⟨#[]⟩ : ByteArray)]) ?_ 2 _ rfl; (with_reducible repeat first | apply bN_ | apply bD_ | apply bA_); refine blk_put (cs := #[.int .i64 t208, .int .i64 0, .string (⟨#[]⟩ : ByteArray)]) ?_ 1 _ rfl; (with_reducible repeat first | apply bN_ | apply bD_ | apply bA_); refine blk_put (cs := #[.int .i64 0, .int .i64 0, .string (⟨#[]⟩ : ByteArray)]) ?_ 0 _ rfl; (with_reducible repeat first | apply bN_ | apply bD_ | apply bA_); exact BK197.out) Tryd.underlying23 rfl (by kernel_rfl)) rfl ?_
                  exact ⟨q13_, q0_⟩
              · replace c50 := Bool.eq_false_iff.mpr c50
                subst c50
                replace H := ifF_ H
                by_cases c67 : a1_1 = 0
                · rw [if_pos c67] at H
                  exact absurd H (by simp)
                · rw [if_neg c67] at H
                  have c67b0 : (a1_1 == 0) = false := beq_eq_false_iff_ne.mpr c67
                  have c67b1 : (a1_1 != 0) = true := bne_iff_ne.mpr c67
                  replace H := Option.bind_eq_some_iff.mp H
                  obtain ⟨⟨t212, t213, t214, t215⟩, A680, H⟩ := H
                  replace H : (some (t212, t213, t214, t215)) = some (r1, r2, r3, r4) := H
                  have A68 := Aside0.mk A680
                  clear A680
                  simp only [Option.some.injEq, Prod.mk.injEq] at H
                  obtain ⟨rfl, rfl, rfl, rfl⟩ := H
                  have hnb69 := NB195_196.out
                  have hnc69 := NB196_195.out
                  have hnb70 := NB195_197.out
                  have hnc70 := NB197_195.out
                  have hcz71_0 : wc.cell? ⟨gb195, 0, none⟩ = some (.int .i64 a0_0) := (blk_cell BK195.out 0).trans rfl
                  have hcz71_1 : wc.cell? ⟨gb195, 1, none⟩ = some (.int .i64 a0_1) := (blk_cell BK195.out 1).trans rfl
                  have hcz71_2 : wc.cell? ⟨gb195, 2, none⟩ = some (.string a0_2) := (blk_cell BK195.out 2).trans rfl
                  have hfz71_0 := blk_frozen BK195.out 0
                  have hfz71_1 := blk_frozen BK195.out 1
                  have hfz71_2 := blk_frozen BK195.out 2
                  have hnb72 := NB196_197.out
                  have hnc72 := NB197_196.out
                  have hcz73_0 : wc.cell? ⟨gb196, 0, none⟩ = some (.int .i64 a1_0) := (blk_cell BK196.out 0).trans rfl
                  have hcz73_1 : wc.cell? ⟨gb196, 1, none⟩ = some (.int .i64 a1_1) := (blk_cell BK196.out 1).trans rfl
                  have hcz73_2 : wc.cell? ⟨gb196, 2, none⟩ = some (.string a1_2) := (blk_cell BK196.out 2).trans rfl
                  have hfz73_0 := blk_frozen BK196.out 0
                  have hfz73_1 := blk_frozen BK196.out 1
                  have hfz73_2 := blk_frozen BK196.out 2
                  try go_wp2
                  have n0_ := Aside0.mk (blk_drew BK195.out)
                  have n1_ := Aside0.mk (blk_drew BK196.out)
                  have n2_ := Aside0.mk (blk_drew BK197.out)
                  have n3_ := Aside0.mk (below_drew1 HB.out)
                  clear BK195
                  clear BK196
                  clear BK197
                  clear HB
                  have BK195 := n0_
                  have BK196 := n1_
                  have BK197 := n2_
                  have HB := n3_
                  clear n0_ n1_ n2_ n3_
                  refine start_ (n := 13) (S := fun w' => w'.cell? ⟨gb196, 0, none⟩ = some (.int .i64 a1_0) ∧ w'.cell? ⟨gb196, 1, none⟩ = some (.int .i64 a1_1) ∧ w'.cell? ⟨gb196, 2, none⟩ = some (.string a1_2) ∧ w'.cell? ⟨gb195, 0, none⟩ = some (.int .i64 a0_0) ∧ w'.cell? ⟨gb195, 1, none⟩ = some (.int .i64 a0_1) ∧ w'.cell? ⟨gb195, 2, none⟩ = some (.string a0_2)) (ds := []) #[false, false, false, false, false, false, false, false, false, false, false, false, false] (by kernel_rfl) rfl rfl ⟨(blk_cell BK196.out 0).trans rfl, (blk_cell BK196.out 1).trans rfl, (blk_cell BK196.out 2).trans rfl, (blk_cell BK195.out 0).trans rfl, (blk_cell BK195.out 1).trans rfl, (blk_cell BK195.out 2).trans rfl⟩ (fun hHeld => ?_); refine with_tabW value_Mul.tab9 value_Mul.bits9 (fun HT_ HW_ => ?_)
                  generalize wc.drew = w74 at BK195 BK196 BK197 HB hHeld ⊢
                  refine pure_ (i := 0) (N := some 53) (v := ?_) (a' := ?_) #[true, false, false, false, false, false, false, false, false, false, false, false, false] rfl rfl (any_of HT_.out (by kernel_rfl)) (fun _ _ _ h => h) (Or.inl ⟨by rfl, ?_⟩) ?_ ?_
                  rotate_left
                  · intro w'
                    go_simp
                    with_reducible rfl
                  rotate_left
                  · simp only [Act.put, List.setIfInBounds_toArray, List.set_cons_zero, List.set_cons_succ, i64_w, i32_w]
                    rfl
                  refine pure_ (i := 1) (N := some 54) (v := ?_) (a' := ?_) #[true, true, false, false, false, false, false, false, false, false, false, false, false] rfl rfl (any_of HT_.out (by kernel_rfl)) (fun _ _ _ h => h) (Or.inl ⟨by rfl, ?_⟩) ?_ ?_
                  rotate_left
                  · intro w'
                    go_simp
                    with_reducible rfl
                  rotate_left
                  · simp only [Act.put, List.setIfInBounds_toArray, List.set_cons_zero, List.set_cons_succ, i64_w, i32_w]
                    rfl
                  refine pure_ (i := 2) (N := some 55) (v := ?_) (a' := ?_) #[true, true, true, false, false, false, false, false, false, false, false, false, false] rfl rfl (any_of HT_.out (by kernel_rfl)) (fun _ _ _ h => h) (Or.inl ⟨by rfl, ?_⟩) ?_ ?_
                  rotate_left
                  · intro w'
                    go_simp
                    with_reducible rfl
                  rotate_left
                  · simp only [Act.put, List.setIfInBounds_toArray, List.set_cons_zero, List.set_cons_succ, i64_w, i32_w]
                    rfl
                  refine pure_ (i := 5) (N := some 58) (v := ?_) (a' := ?_) #[true, true, true, false, false, true, false, false, false, false, false, false, false] rfl rfl (any_of HT_.out (by kernel_rfl)) (fun _ _ _ h => h) (Or.inl ⟨by rfl, ?_⟩) ?_ ?_
                  rotate_left
                  · intro w'
                    go_simp
                    with_reducible rfl
                  rotate_left
                  · simp only [Act.put, List.setIfInBounds_toArray, List.set_cons_zero, List.set_cons_succ, i64_w, i32_w]
                    rfl
                  refine take_ (i := 3) (N := some 56) (v := ?_) (a' := ?_) #[true, true, true, true, false, true, false, false, false, false, false, false, false] rfl rfl (take_ofW HT_.out HW_.out (by kernel_rfl)) (fun _ _ _ h => h) (Or.inl ⟨by rfl, ?_⟩) hHeld ?_ ?_
                  rotate_left
                  · rintro w' ⟨s0, s1, s2, s3, s4, s5⟩
                    go_simp
                    with_reducible rfl
                  rotate_left
                  · simp only [Act.put, List.setIfInBounds_toArray, List.set_cons_zero, List.set_cons_succ, i64_w, i32_w]
                    rfl
                  refine pure_ (i := 4) (N := some 57) (v := ?_) (a' := ?_) #[true, true, true, true, true, true, false, false, false, false, false, false, false] rfl rfl (any_of HT_.out (by kernel_rfl)) (fun _ _ _ h => h) (Or.inl ⟨by rfl, ?_⟩) ?_ ?_
                  rotate_left
                  · intro w'
                    go_simp
                    with_reducible rfl
                  rotate_left
                  · simp only [Act.put, List.setIfInBounds_toArray, List.set_cons_zero, List.set_cons_succ, i64_w, i32_w]
                    rfl
                  refine take_ (i := 6) (N := some 59) (v := ?_) (a' := ?_) #[true, true, true, true, true, true, true, false, false, false, false, false, false] rfl rfl (take_ofW HT_.out HW_.out (by kernel_rfl)) (fun _ _ _ h => h) (Or.inl ⟨by rfl, ?_⟩) hHeld ?_ ?_
                  rotate_left
                  · rintro w' ⟨s0, s1, s2, s3, s4, s5⟩
                    go_simp
                    with_reducible rfl
                  rotate_left
                  · simp only [Act.put, List.setIfInBounds_toArray, List.set_cons_zero, List.set_cons_succ, i64_w, i32_w]
                    rfl
                  refine pure_ (i := 7) (N := some 60) (v := ?_) (a' := ?_) #[true, true, true, true, true, true, true, true, false, false, false, false, false] rfl rfl (any_of HT_.out (by kernel_rfl)) (fun _ _ _ h => h) (Or.inl ⟨by rfl, ?_⟩) ?_ ?_
                  rotate_left
                  · intro w'
                    go_simp
                    with_reducible rfl
                  rotate_left
                  · simp only [Act.put, List.setIfInBounds_toArray, List.set_cons_zero, List.set_cons_succ, i64_w, i32_w]
                    rfl
                  refine one_ (i := 8) (N := some 61) #[true, true, true, true, true, true, true, true, true, false, false, false, false] rfl rfl (one_of HT_.out (by kernel_rfl)) (by decide) (fun K hK => ?_)
                  refine goes_ Tryd.func36 (by kernel_rfl) rfl #[.int .i64 (wrap64 (a0_1 * a1_1)), .bool ((wrap64 (Int.tdiv (wrap64 (a0_1 * a1_1)) a1_1)) != a0_1)] (by rfl) rfl rfl q2_ ?_
                  with_reducible refine (value_of.calls (wrap64 (a0_1 * a1_1)) ((wrap64 (Int.tdiv (wrap64 (a0_1 * a1_1)) a1_1)) != a0_1) t212 t213 t214 t215 _ A68.out).mono ?_
                  rintro e w75 ⟨rfl, hb⟩
                  refine ⟨_, rfl, ?_⟩
                  have n0_ := Aside0.mk (blk_below (g := gb195) (o := .cells #[.int .i64 a0_0, .int .i64 a0_1, .string a0_2] 23 (0, 0)) q108_ hb)
                  have n1_ := Aside0.mk (blk_below (g := gb196) (o := .cells #[.int .i64 a1_0, .int .i64 a1_1, .string a1_2] 23 (0, 0)) q128_ hb)
                  have n2_ := Aside0.mk (blk_below (g := gb197) (o := .cells #[.int .i64 0, .int .i64 0, .string (⟨#[]⟩ : ByteArray)] 23 (0, 0)) q157_ hb)
                  have n3_ := Aside0.mk (below_step q0_ hb)
                  clear BK195
                  clear BK196
                  clear BK197
                  clear HB
                  have BK195 := n0_
                  have BK196 := n1_
                  have BK197 := n2_
                  have HB := n3_
                  clear n0_ n1_ n2_ n3_
                  (try clear hb)
                  (try clear hb2)
                  (try clear hk)
                  (try clear hi)
                  refine hK.out _ _ ⟨(blk_cell BK196.out 0).trans rfl, (blk_cell BK196.out 1).trans rfl, (blk_cell BK196.out 2).trans rfl, (blk_cell BK195.out 0).trans rfl, (blk_cell BK195.out 1).trans rfl, (blk_cell BK195.out 2).trans rfl⟩ (fun hHeld => ?_)
                  clear hK K
                  refine norm_ (a' := ?_) ?_ ?_
                  rotate_left
                  · show Act.put _ (some 61) _ = _
                    simp only [Act.put, List.setIfInBounds_toArray, List.set_cons_zero, List.set_cons_succ, i64_w, i32_w]
                    rfl
                  refine pure_ (i := 9) (N := some 62) (v := ?_) (a' := ?_) #[true, true, true, true, true, true, true, true, true, true, false, false, false] rfl rfl (any_of HT_.out (by kernel_rfl)) (fun _ _ _ h => h) (Or.inl ⟨by rfl, ?_⟩) ?_ ?_
                  rotate_left
                  · intro w'
                    go_simp
                    with_reducible rfl
                  rotate_left
                  · simp only [Act.put, List.setIfInBounds_toArray, List.set_cons_zero, List.set_cons_succ, i64_w, i32_w]
                    rfl
                  refine pure_ (i := 10) (N := some 63) (v := ?_) (a' := ?_) #[true, true, true, true, true, true, true, true, true, true, true, false, false] rfl rfl (any_of HT_.out (by kernel_rfl)) (fun _ _ _ h => h) (Or.inl ⟨by rfl, ?_⟩) ?_ ?_
                  rotate_left
                  · intro w'
                    go_simp
                    with_reducible rfl
                  rotate_left
                  · simp only [Act.put, List.setIfInBounds_toArray, List.set_cons_zero, List.set_cons_succ, i64_w, i32_w]
                    rfl
                  refine one_ (i := 11) (N := none) #[true, true, true, true, true, true, true, true, true, true, true, true, false] rfl rfl (one_of HT_.out (by kernel_rfl)) (by decide) (fun K hK => ?_)
                  have hs76 : w75.cell? ⟨gb197, 0, none⟩ = some (.int .i64 0) := (blk_cell BK197.out 0).trans rfl
                  have hfs76 := blk_frozen BK197.out 0
                  have hns76_0 := NB195_197.out
                  have hns76_1 := NB196_197.out
                  have hms76_0 := NB197_195.out
                  have hms76_1 := NB197_196.out
                  have hs77 : w75.cell? ⟨gb197, 1, none⟩ = some (.int .i64 0) := (blk_cell BK197.out 1).trans rfl
                  have hfs77 := blk_frozen BK197.out 1
                  have hns77_0 := NB195_197.out
                  have hns77_1 := NB196_197.out
                  have hms77_0 := NB197_195.out
                  have hms77_1 := NB197_196.out
                  have hs78 : w75.cell? ⟨gb197, 2, none⟩ = some (.string (⟨#[]⟩ : ByteArray)) := (blk_cell BK197.out 2).trans rfl
                  have hfs78 := blk_frozen BK197.out 2
                  have hns78_0 := NB195_197.out
                  have hns78_1 := NB196_197.out
                  have hms78_0 := NB197_195.out
                  have hms78_1 := NB197_196.out
                  refine skip_ (w1 := ?_) (by rfl) rfl ?_ ?_
                  rotate_left
                  · go_simp
                    rfl
                  refine hK.out _ _ ⟨((cell_far (p := ⟨gb197, _, none⟩) NB196_197.out _).trans (((cell_far (p := ⟨gb197, _, none⟩) NB196_197.out _).trans (((cell_far (p := ⟨gb197, _, none⟩) NB196_197.out _).trans (hHeld.1)))))), ((cell_far (p := ⟨gb197, _, none⟩) NB196_197.out _).trans (((cell_far (p := ⟨gb197, _, none⟩) NB196_197.out _).trans (((cell_far (p := ⟨gb197, _, none⟩) NB196_197.out _).trans (hHeld.2.1)))))), ((cell_far (p := ⟨gb197, _, none⟩) NB196_197.out _).trans (((cell_far (p := ⟨gb197, _, none⟩) NB196_197.out _).trans (((cell_far (p := ⟨gb197, _, none⟩) NB196_197.out _).trans (hHeld.2.2.1)))))), ((cell_far (p := ⟨gb197, _, none⟩) NB195_197.out _).trans (((cell_far (p := ⟨gb197, _, none⟩) NB195_197.out _).trans (((cell_far (p := ⟨gb197, _, none⟩) NB195_197.out _).trans (hHeld.2.2.2.1)))))), ((cell_far (p := ⟨gb197, _, none⟩) NB195_197.out _).trans (((cell_far (p := ⟨gb197, _, none⟩) NB195_197.out _).trans (((cell_far (p := ⟨gb197, _, none⟩) NB195_197.out _).trans (hHeld.2.2.2.2.1)))))), ((cell_far (p := ⟨gb197, _, none⟩) NB195_197.out _).trans (((cell_far (p := ⟨gb197, _, none⟩) NB195_197.out _).trans (((cell_far (p := ⟨gb197, _, none⟩) NB195_197.out _).trans (hHeld.2.2.2.2.2))))))⟩ (fun hHeld => ?_)
                  clear hK K
                  refine pure_ (i := 12) (N := some 5) (v := ?_) (a' := ?_) #[true, true, true, true, true, true, true, true, true, true, true, true, true] rfl rfl (any_of HT_.out (by kernel_rfl)) (fun _ _ _ h => h) (Or.inl ⟨by rfl, ?_⟩) ?_ ?_
                  rotate_left
                  · intro w'
                    go_simp
                    with_reducible rfl
                  rotate_left
                  · simp only [Act.put, List.setIfInBounds_toArray, List.set_cons_zero, List.set_cons_succ, i64_w, i32_w]
                    rfl
                  refine done_ (done_of HT_.out (by kernel_rfl)) ?_
                  try go_wp2
                  refine bodyPost_ret (results_ct rfl _ _ gb197 23 #[.int .i64 t212, .int .i64 t213, .string t214] (0, 0) _ rfl (by (with_reducible repeat first | apply bN_ | apply bD_ | apply bA_); refine blk_put (cs := #[.int .i64 t212, .int .i64 t213, .string (⟨#[]⟩ : ByteArray)]) ?_ 2 _ rfl; (with_reducible repeat first | apply bN_ | apply bD_ | apply bA_); refine blk_put (cs := #[.int .i64 t212, .int .i64 0, .string (⟨#[]⟩ : ByteArray)]) ?_ 1 _ rfl; (with_reducible repeat first | apply bN_ | apply bD_ | apply bA_); refine blk_put (cs := #[.int .i64 0, .int .i64 0, .string (⟨#[]⟩ : ByteArray)]) ?_ 0 _ rfl; (with_reducible repeat first | apply bN_ | apply bD_ | apply bA_); exact BK197.out) Tryd.underlying23 rfl (by kernel_rfl)) rfl ?_
                  exact ⟨q13_, q0_⟩

end Go.Proofs.YtmdnnpahmoaicaaDoor.P
