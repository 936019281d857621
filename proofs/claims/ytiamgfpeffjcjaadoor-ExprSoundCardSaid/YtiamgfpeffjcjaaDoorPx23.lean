-- Written by our own program (wip/xprint) over the seat's translation. Lean checks it.
import Derived.Test.YtiamgfpeffjcjaaDoorPx0
import Derived.Test.YtiamgfpeffjcjaaDoorPx1
import Derived.Test.YtiamgfpeffjcjaaDoorPx15
import Derived.Test.YtiamgfpeffjcjaaDoorPx19
namespace Go.Proofs.YtiamgfpeffjcjaaDoor.P
open Go.RowKit Go.Proofs.YtiamgfpeffjcjaaDoorW.PrintWords Go.Proofs.YtiamgfpeffjcjaaDoorW.PrintLast Go.Proofs.YtiamgfpeffjcjaaDoorW.PrintMore
attribute [local go_sem] max2_int min2_int max_two min_two max_three min_three max_four min_four   -- for this text's walks alone
set_option linter.unusedVariables false
set_option linter.unusedSimpArgs false


/-! ### value_Mul: function 32 -/
mutual
def value_Mul.j0 : Nat → Bool → Int → Int → ByteArray → Int → Int → ByteArray → Option (Int × Int × ByteArray × Int)
  | 0, _, _, _, _, _, _, _ => none
  | k + 1, x25, x169000, x169001, x169002, x170000, x170001, x170002 => if x25 = true then ((value_of.f 0 false).bind fun bt173 => (some (bt173.1, bt173.2.1, bt173.2.2.1, bt173.2.2.2))) else (if x169001 = (-9223372036854775808) then (value_Mul.j1 k true x169000 x169001 x169002 x170000 x170001 x170002) else (value_Mul.j1 k (x170001 == (-9223372036854775808)) x169000 x169001 x169002 x170000 x170001 x170002))
def value_Mul.j1 : Nat → Bool → Int → Int → ByteArray → Int → Int → ByteArray → Option (Int × Int × ByteArray × Int)
  | 0, _, _, _, _, _, _, _ => none
  | k + 1, x36, x169000, x169001, x169002, x170000, x170001, x170002 => if x36 = true then (if x169001 = 1 then ((value_of.f (-9223372036854775808) false).bind fun bt177 => (some (bt177.1, bt177.2.1, bt177.2.2.1, bt177.2.2.2))) else ((value_of.f (-9223372036854775808) (x170001 != 1)).bind fun bt181 => (some (bt181.1, bt181.2.1, bt181.2.2.1, bt181.2.2.2)))) else (if x170001 = 0 then (none) else ((value_of.f (wrap64 (x169001 * x170001)) ((wrap64 (Int.tdiv (wrap64 (x169001 * x170001)) x170001)) != x169001)).bind fun bt185 => (some (bt185.1, bt185.2.1, bt185.2.2.1, bt185.2.2.2))))
end
def value_Mul.f (k : Nat) (a0_0 : Int) (a0_1 : Int) (a0_2 : ByteArray) (a1_0 : Int) (a1_1 : Int) (a1_2 : ByteArray) : Option (Int × Int × ByteArray × Int) := (value_ints.f k a0_0 a0_1 a0_2 a1_0 a1_1 a1_2).bind fun bt171 => (if bt171.1 = true then (some (0, 0, (⟨#[]⟩ : ByteArray), bt171.2)) else (if a0_1 = 0 then (value_Mul.j0 k true a0_0 a0_1 a0_2 a1_0 a1_1 a1_2) else (value_Mul.j0 k (a1_1 == 0) a0_0 a0_1 a0_2 a1_0 a1_1 a1_2)))
theorem value_Mul.mono_l : ∀ k, (∀ y0 y1 y2 y3 y4 y5 y6, LeO (value_Mul.j0 k y0 y1 y2 y3 y4 y5 y6) (value_Mul.j0 (k + 1) y0 y1 y2 y3 y4 y5 y6)) ∧ (∀ y0 y1 y2 y3 y4 y5 y6, LeO (value_Mul.j1 k y0 y1 y2 y3 y4 y5 y6) (value_Mul.j1 (k + 1) y0 y1 y2 y3 y4 y5 y6))
  | 0 => ⟨fun _ _ _ _ _ _ _ r h => by simp [value_Mul.j0] at h, fun _ _ _ _ _ _ _ r h => by simp [value_Mul.j1] at h⟩
  | k + 1 => by
    obtain ⟨ih0, ih1⟩ := value_Mul.mono_l k
    refine ⟨?_, ?_⟩
    all_goals intros
    all_goals first
      | unfold value_Mul.j0
      | unfold value_Mul.j1
    all_goals repeat' first
      | (with_reducible exact ih0 _ _ _ _ _ _ _)
      | (with_reducible exact ih1 _ _ _ _ _ _ _)
      | (with_reducible exact value_ints.mono _ _ _ _ _ _ _)
      | (with_reducible exact LeO.refl _)
      | (with_reducible exact LeO.none _)
      | (with_reducible refine LeO.ite ?_ ?_)
      | (with_reducible refine LeO.bind ?_ (fun _ => ?_))
      | exact ih0 _ _ _ _ _ _ _
      | exact ih1 _ _ _ _ _ _ _
      | exact value_ints.mono _ _ _ _ _ _ _
      | exact LeO.none _
      | refine LeO.ite ?_ ?_
      | refine LeO.bind ?_ (fun _ => ?_)
theorem value_Mul.mono : ∀ a0 a1 a2 a3 a4 a5 k, LeO (value_Mul.f k a0 a1 a2 a3 a4 a5) (value_Mul.f (k + 1) a0 a1 a2 a3 a4 a5) := by
  intro a0 a1 a2 a3 a4 a5 k
  obtain ⟨ih0, ih1⟩ := value_Mul.mono_l k
  unfold value_Mul.f
  repeat' first
      | (with_reducible exact ih0 _ _ _ _ _ _ _)
      | (with_reducible exact ih1 _ _ _ _ _ _ _)
      | (with_reducible exact value_ints.mono _ _ _ _ _ _ _)
      | (with_reducible exact LeO.refl _)
      | (with_reducible exact LeO.none _)
      | (with_reducible refine LeO.ite ?_ ?_)
      | (with_reducible refine LeO.bind ?_ (fun _ => ?_))
      | exact ih0 _ _ _ _ _ _ _
      | exact ih1 _ _ _ _ _ _ _
      | exact value_ints.mono _ _ _ _ _ _ _
      | exact LeO.none _
      | refine LeO.ite ?_ ?_
      | refine LeO.bind ?_ (fun _ => ?_)
def value_Mul.T9 : Bool × List (List Nat × List Nat) := (true, [([], []), ([], []), ([], []), ([2], [2]), ([1, 3], [1, 3]), ([], []), ([5], [5]), ([4, 6], [4, 6]), ([0, 7], [0, 7]), ([8], [8]), ([8], [8]), ([9, 8, 0, 1, 2, 3, 4, 5, 6, 7, 8, 9, 10], [9]), ([10, 11, 0, 1, 2, 3, 4, 5, 6, 7, 8, 9, 10, 11], [10])])
def value_Mul.B9 : List Nat := [0, 0, 0, 4, 14, 0, 32, 126, 255, 511, 511, 2047, 4095]
theorem value_Mul.tab9 : rtab .any (opsOf Tryd.f32 9) = value_Mul.T9 := by kernel_rfl
theorem value_Mul.bits9 : waitsOk value_Mul.T9.2 value_Mul.B9 = true := by kernel_rfl
set_option maxHeartbeats 8000000 in
set_option maxRecDepth 100000 in
theorem value_Mul.calls (k : Nat) (a0_0 : Int) (a0_1 : Int) (a0_2 : ByteArray) (a1_0 : Int) (a1_1 : Int) (a1_2 : ByteArray) (r1 : Int) (r2 : Int) (r3 : ByteArray) (r4 : Int) (w : World) (h : value_Mul.f k a0_0 a0_1 a0_2 a1_0 a1_1 a1_2 = some (r1, r2, r3, r4)) (hG : Glob w) :
    Calls Tryd.prog 32 #[.agg #[.int .i64 a0_0, .int .i64 a0_1, .string a0_2], .agg #[.int .i64 a1_0, .int .i64 a1_1, .string a1_2]] w fun e w' => e = .returned (.tuple #[.agg #[.int .i64 r1, .int .i64 r2, .string r3], .int .i64 r4]) ∧ Below w.heap.size w w' := by
  have hu31 := Tryd.underlying31
  have HG := Aside0.mk hG
  clear hG
  have HB := Aside0.mk (Below.refl w.heap.size w)
  have H : ((value_ints.f k a0_0 a0_1 a0_2 a1_0 a1_1 a1_2).bind fun bt171 => (if bt171.1 = true then (some (0, 0, (⟨#[]⟩ : ByteArray), bt171.2)) else (if a0_1 = 0 then (value_Mul.j0 k true a0_0 a0_1 a0_2 a1_0 a1_1 a1_2) else (value_Mul.j0 k (a1_1 == 0) a0_0 a0_1 a0_2 a1_0 a1_1 a1_2)))) = some (r1, r2, r3, r4) := h
  clear h
  replace H := Option.bind_eq_some_iff.mp H
  obtain ⟨⟨t171, t172⟩, A30, H⟩ := H
  replace H : (if t171 = true then (some (0, 0, (⟨#[]⟩ : ByteArray), t172)) else (if a0_1 = 0 then (value_Mul.j0 k true a0_0 a0_1 a0_2 a1_0 a1_1 a1_2) else (value_Mul.j0 k (a1_1 == 0) a0_0 a0_1 a0_2 a1_0 a1_1 a1_2))) = some (r1, r2, r3, r4) := H
  have A3 := Aside0.mk A30
  clear A30
  by_cases c4 : t171 = true
  · subst c4
    replace H := ifT_ H
    simp only [Option.some.injEq, Prod.mk.injEq] at H
    obtain ⟨rfl, rfl, rfl, rfl⟩ := H
    go_enter Tryd.func32, Tryd.ntmps32
    go_wp2_with (first | ((with_reducible refine gate_dst (N := 2) rfl ?_); refine box_event ?hg (N := 2) ?hd (cs := #[.int .i64 a0_0, .int .i64 a0_1, .string a0_2]) (t := 31) ?hr ?_; (case hd => rfl); (case hg => rfl); (case hr => first | (go_simp; done) | (go_simp; rfl)); intro gb168 hg w5 hbox hb; have n0_ := Aside0.mk (below_step q0_ hb); have n1_ := Aside0.mk (hbox); have n2_ := Aside0.mk ((q1_ : w.heap.size ≤ gb168)); have n3_ := Aside0.mk ((q1_ : w.heap.size ≤ gb168)); clear HB; have HB := n0_; have BK168 := n1_; have GW168 := n2_; have GE168 := n3_; clear n0_ n1_ n2_ n3_; clear hb hbox hg) | ((with_reducible refine gate_dst (N := 3) rfl ?_); refine box_event ?hg (N := 3) ?hd (cs := #[.int .i64 a1_0, .int .i64 a1_1, .string a1_2]) (t := 31) ?hr ?_; (case hd => rfl); (case hg => rfl); (case hr => first | (go_simp; done) | (go_simp; rfl)); intro gb169 hg w6 hbox hb; have n0_ := Aside0.mk (blk_below (g := gb168) (o := .cells #[.int .i64 a0_0, .int .i64 a0_1, .string a0_2] 31 (0, 0)) q36_ hb); have n1_ := Aside0.mk (below_step q0_ hb); have n2_ := Aside0.mk (hbox); have n3_ := Aside0.mk ((q1_ : w.heap.size ≤ gb169)); have n4_ := Aside0.mk ((q1_ : w.heap.size ≤ gb169)); have n5_ := Aside0.mk ((q96_ : gb168 ≠ gb169)); have n6_ := Aside0.mk ((q99_ : gb169 ≠ gb168)); clear BK168; clear HB; have BK168 := n0_; have HB := n1_; have BK169 := n2_; have GW169 := n3_; have GE169 := n4_; have NB168_169 := n5_; have NB169_168 := n6_; clear n0_ n1_ n2_ n3_ n4_ n5_ n6_; clear hb hbox hg) | ((with_reducible refine gate_dst (N := 4) rfl ?_); refine box_event ?hg (N := 4) ?hd (cs := #[.int .i64 0, .int .i64 0, .string (⟨#[]⟩ : ByteArray)]) (t := 31) ?hr ?_; (case hd => rfl); (case hg => rfl); (case hr => first | (go_simp; done) | (go_simp; rfl)); intro gb170 hg w7 hbox hb; have n0_ := Aside0.mk (blk_below (g := gb168) (o := .cells #[.int .i64 a0_0, .int .i64 a0_1, .string a0_2] 31 (0, 0)) q36_ hb); have n1_ := Aside0.mk (blk_below (g := gb169) (o := .cells #[.int .i64 a1_0, .int .i64 a1_1, .string a1_2] 31 (0, 0)) q57_ hb); have n2_ := Aside0.mk (below_step q0_ hb); have n3_ := Aside0.mk (hbox); have n4_ := Aside0.mk ((q1_ : w.heap.size ≤ gb170)); have n5_ := Aside0.mk ((q1_ : w.heap.size ≤ gb170)); have n6_ := Aside0.mk ((q96_ : gb168 ≠ gb170)); have n7_ := Aside0.mk ((q99_ : gb170 ≠ gb168)); have n8_ := Aside0.mk ((q182_ : gb169 ≠ gb170)); have n9_ := Aside0.mk ((q185_ : gb170 ≠ gb169)); clear BK168; clear BK169; clear HB; have BK168 := n0_; have BK169 := n1_; have HB := n2_; have BK170 := n3_; have GW170 := n4_; have GE170 := n5_; have NB168_170 := n6_; have NB170_168 := n7_; have NB169_170 := n8_; have NB170_169 := n9_; clear n0_ n1_ n2_ n3_ n4_ n5_ n6_ n7_ n8_ n9_; clear hb hbox hg; have hnb8 := NB168_169.out; have hnc8 := NB169_168.out; have hnb9 := NB168_170.out; have hnc9 := NB170_168.out; have hcz10_0 : w7.cell? ⟨gb168, 0, none⟩ = some (.int .i64 a0_0) := (blk_cell BK168.out 0).trans rfl; have hcz10_1 : w7.cell? ⟨gb168, 1, none⟩ = some (.int .i64 a0_1) := (blk_cell BK168.out 1).trans rfl; have hcz10_2 : w7.cell? ⟨gb168, 2, none⟩ = some (.string a0_2) := (blk_cell BK168.out 2).trans rfl; have hfz10_0 := blk_frozen BK168.out 0; have hfz10_1 := blk_frozen BK168.out 1; have hfz10_2 := blk_frozen BK168.out 2; have hnb11 := NB169_170.out; have hnc11 := NB170_169.out; have hcz12_0 : w7.cell? ⟨gb169, 0, none⟩ = some (.int .i64 a1_0) := (blk_cell BK169.out 0).trans rfl; have hcz12_1 : w7.cell? ⟨gb169, 1, none⟩ = some (.int .i64 a1_1) := (blk_cell BK169.out 1).trans rfl; have hcz12_2 : w7.cell? ⟨gb169, 2, none⟩ = some (.string a1_2) := (blk_cell BK169.out 2).trans rfl; have hfz12_0 := blk_frozen BK169.out 0; have hfz12_1 := blk_frozen BK169.out 1; have hfz12_2 := blk_frozen BK169.out 2) | ((with_reducible refine gate_callee (f := 38) rfl ?_); refine goesL_ (some 12) rfl rfl Tryd.func38 (by kernel_rfl) rfl #[.agg #[.int .i64 a0_0, .int .i64 a0_1, .string a0_2], .agg #[.int .i64 a1_0, .int .i64 a1_1, .string a1_2]] rfl q2_ ?_; (with_reducible refine (value_ints.calls k a0_0 a0_1 a0_2 a1_0 a1_1 a1_2 true t172 _ A3.out q140_).mono ?_); rintro e w13 ⟨rfl, hb⟩; refine ⟨_, rfl, ?_⟩; have n0_ := Aside0.mk (blk_below (g := gb168) (o := .cells #[.int .i64 a0_0, .int .i64 a0_1, .string a0_2] 31 (0, 0)) q36_ hb); have n1_ := Aside0.mk (blk_below (g := gb169) (o := .cells #[.int .i64 a1_0, .int .i64 a1_1, .string a1_2] 31 (0, 0)) q57_ hb); have n2_ := Aside0.mk (blk_below (g := gb170) (o := .cells #[.int .i64 0, .int .i64 0, .string (⟨#[]⟩ : ByteArray)] 31 (0, 0)) q87_ hb); have n3_ := Aside0.mk (below_step q0_ hb); clear BK168; clear BK169; clear BK170; clear HB; have BK168 := n0_; have BK169 := n1_; have BK170 := n2_; have HB := n3_; clear n0_ n1_ n2_ n3_; (try clear hb); (try clear hb2); (try clear hk); (try clear hi); have hcz14_0 : w13.cell? ⟨gb170, 0, none⟩ = some (.int .i64 0) := (blk_cell BK170.out 0).trans rfl; have hcz14_1 : w13.cell? ⟨gb170, 1, none⟩ = some (.int .i64 0) := (blk_cell BK170.out 1).trans rfl; have hcz14_2 : w13.cell? ⟨gb170, 2, none⟩ = some (.string (⟨#[]⟩ : ByteArray)) := (blk_cell BK170.out 2).trans rfl; have hfz14_0 := blk_frozen BK170.out 0; have hfz14_1 := blk_frozen BK170.out 1; have hfz14_2 := blk_frozen BK170.out 2))
    refine bodyPost_ret (results_ct rfl _ _ gb170 31 #[.int .i64 0, .int .i64 0, .string (⟨#[]⟩ : ByteArray)] (0, 0) _ rfl (by (with_reducible repeat first | apply bN_ | apply bD_ | apply bA_); refine blk_put (cs := #[.int .i64 0, .int .i64 0, .string (⟨#[]⟩ : ByteArray)]) ?_ 2 _ rfl; (with_reducible repeat first | apply bN_ | apply bD_ | apply bA_); refine blk_put (cs := #[.int .i64 0, .int .i64 0, .string (⟨#[]⟩ : ByteArray)]) ?_ 1 _ rfl; (with_reducible repeat first | apply bN_ | apply bD_ | apply bA_); refine blk_put (cs := #[.int .i64 0, .int .i64 0, .string (⟨#[]⟩ : ByteArray)]) ?_ 0 _ rfl; (with_reducible repeat first | apply bN_ | apply bD_ | apply bA_); exact BK170.out) Tryd.underlying31 rfl (by kernel_rfl)) rfl ?_
    exact ⟨q4_, q0_⟩
  · replace c4 := Bool.eq_false_iff.mpr c4
    subst c4
    replace H := ifF_ H
    have HC15 := Aside0.mk H
    clear H
    go_enter Tryd.func32, Tryd.ntmps32
    go_upto_region 4 with (first | ((with_reducible refine gate_dst (N := 2) rfl ?_); refine box_event ?hg (N := 2) ?hd (cs := #[.int .i64 a0_0, .int .i64 a0_1, .string a0_2]) (t := 31) ?hr ?_; (case hd => rfl); (case hg => rfl); (case hr => first | (go_simp; done) | (go_simp; rfl)); intro gb168 hg w16 hbox hb; have n0_ := Aside0.mk (below_step q0_ hb); have n1_ := Aside0.mk (hbox); have n2_ := Aside0.mk ((q1_ : w.heap.size ≤ gb168)); have n3_ := Aside0.mk ((q1_ : w.heap.size ≤ gb168)); clear HB; have HB := n0_; have BK168 := n1_; have GW168 := n2_; have GE168 := n3_; clear n0_ n1_ n2_ n3_; clear hb hbox hg) | ((with_reducible refine gate_dst (N := 3) rfl ?_); refine box_event ?hg (N := 3) ?hd (cs := #[.int .i64 a1_0, .int .i64 a1_1, .string a1_2]) (t := 31) ?hr ?_; (case hd => rfl); (case hg => rfl); (case hr => first | (go_simp; done) | (go_simp; rfl)); intro gb169 hg w17 hbox hb; have n0_ := Aside0.mk (blk_below (g := gb168) (o := .cells #[.int .i64 a0_0, .int .i64 a0_1, .string a0_2] 31 (0, 0)) q36_ hb); have n1_ := Aside0.mk (below_step q0_ hb); have n2_ := Aside0.mk (hbox); have n3_ := Aside0.mk ((q1_ : w.heap.size ≤ gb169)); have n4_ := Aside0.mk ((q1_ : w.heap.size ≤ gb169)); have n5_ := Aside0.mk ((q96_ : gb168 ≠ gb169)); have n6_ := Aside0.mk ((q99_ : gb169 ≠ gb168)); clear BK168; clear HB; have BK168 := n0_; have HB := n1_; have BK169 := n2_; have GW169 := n3_; have GE169 := n4_; have NB168_169 := n5_; have NB169_168 := n6_; clear n0_ n1_ n2_ n3_ n4_ n5_ n6_; clear hb hbox hg) | ((with_reducible refine gate_dst (N := 4) rfl ?_); refine box_event ?hg (N := 4) ?hd (cs := #[.int .i64 0, .int .i64 0, .string (⟨#[]⟩ : ByteArray)]) (t := 31) ?hr ?_; (case hd => rfl); (case hg => rfl); (case hr => first | (go_simp; done) | (go_simp; rfl)); intro gb170 hg w18 hbox hb; have n0_ := Aside0.mk (blk_below (g := gb168) (o := .cells #[.int .i64 a0_0, .int .i64 a0_1, .string a0_2] 31 (0, 0)) q36_ hb); have n1_ := Aside0.mk (blk_below (g := gb169) (o := .cells #[.int .i64 a1_0, .int .i64 a1_1, .string a1_2] 31 (0, 0)) q57_ hb); have n2_ := Aside0.mk (below_step q0_ hb); have n3_ := Aside0.mk (hbox); have n4_ := Aside0.mk ((q1_ : w.heap.size ≤ gb170)); have n5_ := Aside0.mk ((q1_ : w.heap.size ≤ gb170)); have n6_ := Aside0.mk ((q96_ : gb168 ≠ gb170)); have n7_ := Aside0.mk ((q99_ : gb170 ≠ gb168)); have n8_ := Aside0.mk ((q182_ : gb169 ≠ gb170)); have n9_ := Aside0.mk ((q185_ : gb170 ≠ gb169)); clear BK168; clear BK169; clear HB; have BK168 := n0_; have BK169 := n1_; have HB := n2_; have BK170 := n3_; have GW170 := n4_; have GE170 := n5_; have NB168_170 := n6_; have NB170_168 := n7_; have NB169_170 := n8_; have NB170_169 := n9_; clear n0_ n1_ n2_ n3_ n4_ n5_ n6_ n7_ n8_ n9_; clear hb hbox hg; have hnb19 := NB168_169.out; have hnc19 := NB169_168.out; have hnb20 := NB168_170.out; have hnc20 := NB170_168.out; have hcz21_0 : w18.cell? ⟨gb168, 0, none⟩ = some (.int .i64 a0_0) := (blk_cell BK168.out 0).trans rfl; have hcz21_1 : w18.cell? ⟨gb168, 1, none⟩ = some (.int .i64 a0_1) := (blk_cell BK168.out 1).trans rfl; have hcz21_2 : w18.cell? ⟨gb168, 2, none⟩ = some (.string a0_2) := (blk_cell BK168.out 2).trans rfl; have hfz21_0 := blk_frozen BK168.out 0; have hfz21_1 := blk_frozen BK168.out 1; have hfz21_2 := blk_frozen BK168.out 2; have hnb22 := NB169_170.out; have hnc22 := NB170_169.out; have hcz23_0 : w18.cell? ⟨gb169, 0, none⟩ = some (.int .i64 a1_0) := (blk_cell BK169.out 0).trans rfl; have hcz23_1 : w18.cell? ⟨gb169, 1, none⟩ = some (.int .i64 a1_1) := (blk_cell BK169.out 1).trans rfl; have hcz23_2 : w18.cell? ⟨gb169, 2, none⟩ = some (.string a1_2) := (blk_cell BK169.out 2).trans rfl; have hfz23_0 := blk_frozen BK169.out 0; have hfz23_1 := blk_frozen BK169.out 1; have hfz23_2 := blk_frozen BK169.out 2) | ((with_reducible refine gate_callee (f := 38) rfl ?_); refine goesL_ (some 12) rfl rfl Tryd.func38 (by kernel_rfl) rfl #[.agg #[.int .i64 a0_0, .int .i64 a0_1, .string a0_2], .agg #[.int .i64 a1_0, .int .i64 a1_1, .string a1_2]] rfl q2_ ?_; (with_reducible refine (value_ints.calls k a0_0 a0_1 a0_2 a1_0 a1_1 a1_2 false t172 _ A3.out q140_).mono ?_); rintro e w24 ⟨rfl, hb⟩; refine ⟨_, rfl, ?_⟩; have n0_ := Aside0.mk (blk_below (g := gb168) (o := .cells #[.int .i64 a0_0, .int .i64 a0_1, .string a0_2] 31 (0, 0)) q36_ hb); have n1_ := Aside0.mk (blk_below (g := gb169) (o := .cells #[.int .i64 a1_0, .int .i64 a1_1, .string a1_2] 31 (0, 0)) q57_ hb); have n2_ := Aside0.mk (blk_below (g := gb170) (o := .cells #[.int .i64 0, .int .i64 0, .string (⟨#[]⟩ : ByteArray)] 31 (0, 0)) q87_ hb); have n3_ := Aside0.mk (below_step q0_ hb); clear BK168; clear BK169; clear BK170; clear HB; have BK168 := n0_; have BK169 := n1_; have BK170 := n2_; have HB := n3_; clear n0_ n1_ n2_ n3_; (try clear hb); (try clear hb2); (try clear hk); (try clear hi)))
    (try simp only [Act.put, List.setIfInBounds_toArray, List.set_cons_zero, List.set_cons_succ])
    go_cut [25] (fun v25 wc => ∃ (kq : Nat) (x25_14 : Bool), v25 = .bool x25_14 ∧ Aside0 (value_Mul.j0 kq x25_14 a0_0 a0_1 a0_2 a1_0 a1_1 a1_2 = some (r1, r2, r3, r4)) ∧ Aside0 (kq ≤ k) ∧ Aside0 (wc.heap[gb168]? = some (.cells #[.int .i64 a0_0, .int .i64 a0_1, .string a0_2] 31 (0, 0))) ∧ Aside0 (wc.heap[gb169]? = some (.cells #[.int .i64 a1_0, .int .i64 a1_1, .string a1_2] 31 (0, 0))) ∧ Aside0 (wc.heap[gb170]? = some (.cells #[.int .i64 0, .int .i64 0, .string (⟨#[]⟩ : ByteArray)] 31 (0, 0))) ∧ Aside0 (Below w.heap.size w wc))
    case first =>
      have H := HC15.out
      clear HC15
      by_cases c25 : a0_1 = 0
      · rw [if_pos c25] at H
        have c25b0 : (a0_1 == 0) = true := beq_iff_eq.mpr c25
        have c25b1 : (a0_1 != 0) = false := bne_eq_false_iff_eq.mpr c25
        clear c25
        (first | rw [c25b0] | (simp only [i64_w, i32_w]; rw [c25b0]) | skip)
        have H' := Aside0.mk H
        clear H
        have hnb26 := NB168_169.out
        have hnc26 := NB169_168.out
        have hnb27 := NB168_170.out
        have hnc27 := NB170_168.out
        have hcz28_0 : w24.cell? ⟨gb168, 0, none⟩ = some (.int .i64 a0_0) := (blk_cell BK168.out 0).trans rfl
        have hcz28_1 : w24.cell? ⟨gb168, 1, none⟩ = some (.int .i64 a0_1) := (blk_cell BK168.out 1).trans rfl
        have hcz28_2 : w24.cell? ⟨gb168, 2, none⟩ = some (.string a0_2) := (blk_cell BK168.out 2).trans rfl
        have hfz28_0 := blk_frozen BK168.out 0
        have hfz28_1 := blk_frozen BK168.out 1
        have hfz28_2 := blk_frozen BK168.out 2
        go_wp2
        go_meet
        case rel => exact ⟨_, (true), q7_, H', ⟨by first | omega | exact Nat.le_refl _⟩, ⟨q36_⟩, ⟨q57_⟩, ⟨q87_⟩, ⟨q0_⟩⟩
      · rw [if_neg c25] at H
        have c25b0 : (a0_1 == 0) = false := beq_eq_false_iff_ne.mpr c25
        have c25b1 : (a0_1 != 0) = true := bne_iff_ne.mpr c25
        (first | rw [c25b0] | (simp only [i64_w, i32_w]; rw [c25b0]) | skip)
        have H' := Aside0.mk H
        clear H
        have hnb29 := NB168_169.out
        have hnc29 := NB169_168.out
        have hnb30 := NB168_170.out
        have hnc30 := NB170_168.out
        have hcz31_0 : w24.cell? ⟨gb168, 0, none⟩ = some (.int .i64 a0_0) := (blk_cell BK168.out 0).trans rfl
        have hcz31_1 : w24.cell? ⟨gb168, 1, none⟩ = some (.int .i64 a0_1) := (blk_cell BK168.out 1).trans rfl
        have hcz31_2 : w24.cell? ⟨gb168, 2, none⟩ = some (.string a0_2) := (blk_cell BK168.out 2).trans rfl
        have hfz31_0 := blk_frozen BK168.out 0
        have hfz31_1 := blk_frozen BK168.out 1
        have hfz31_2 := blk_frozen BK168.out 2
        have hnb32 := NB169_170.out
        have hnc32 := NB170_169.out
        have hcz33_0 : w24.cell? ⟨gb169, 0, none⟩ = some (.int .i64 a1_0) := (blk_cell BK169.out 0).trans rfl
        have hcz33_1 : w24.cell? ⟨gb169, 1, none⟩ = some (.int .i64 a1_1) := (blk_cell BK169.out 1).trans rfl
        have hcz33_2 : w24.cell? ⟨gb169, 2, none⟩ = some (.string a1_2) := (blk_cell BK169.out 2).trans rfl
        have hfz33_0 := blk_frozen BK169.out 0
        have hfz33_1 := blk_frozen BK169.out 1
        have hfz33_2 := blk_frozen BK169.out 2
        go_wp2
        go_meet
        case rel => exact ⟨_, ((a1_1 == 0)), q7_, H', ⟨by first | omega | exact Nat.le_refl _⟩, ⟨q36_⟩, ⟨q57_⟩, ⟨q87_⟩, ⟨q0_⟩⟩
    case rest =>
      clear HC15
      try clear c1
      try clear c2
      try clear p2
      try clear c3
      try clear c4
      try clear c8
      try clear c9
      try clear c11
      try clear c19
      try clear c20
      try clear c22
      try clear c25
      try clear c25b0
      try clear c25b1
      try clear c26
      try clear c27
      try clear c29
      try clear c30
      try clear c32
      try clear hcz10_0
      try clear hcz10_1
      try clear hcz10_2
      try clear hcz12_0
      try clear hcz12_1
      try clear hcz12_2
      try clear hcz14_0
      try clear hcz14_1
      try clear hcz14_2
      try clear hcz21_0
      try clear hcz21_1
      try clear hcz21_2
      try clear hcz23_0
      try clear hcz23_1
      try clear hcz23_2
      try clear hcz28_0
      try clear hcz28_1
      try clear hcz28_2
      try clear hcz31_0
      try clear hcz31_1
      try clear hcz31_2
      try clear hcz33_0
      try clear hcz33_1
      try clear hcz33_2
      try clear hfz10_0
      try clear hfz10_1
      try clear hfz10_2
      try clear hfz12_0
      try clear hfz12_1
      try clear hfz12_2
      try clear hfz14_0
      try clear hfz14_1
      try clear hfz14_2
      try clear hfz21_0
      try clear hfz21_1
      try clear hfz21_2
      try clear hfz23_0
      try clear hfz23_1
      try clear hfz23_2
      try clear hfz28_0
      try clear hfz28_1
      try clear hfz28_2
      try clear hfz31_0
      try clear hfz31_1
      try clear hfz31_2
      try clear hfz33_0
      try clear hfz33_1
      try clear hfz33_2
      obtain ⟨kq, x25_14, rfl, HA, HJ14, BK168, BK169, BK170, HB⟩ := hcut
      cases kq with
      | zero => exact absurd HA.out (by simp [value_Mul.j0])
      | succ kj14 =>
        have H := HA.out
        clear HA
        simp only [value_Mul.j0] at H
        by_cases c34 : x25_14 = true
        · subst c34
          replace H := ifT_ H
          replace H := Option.bind_eq_some_iff.mp H
          obtain ⟨⟨t173, t174, t175, t176⟩, A350, H⟩ := H
          replace H : (some (t173, t174, t175, t176)) = some (r1, r2, r3, r4) := H
          have A35 := Aside0.mk A350
          clear A350
          simp only [Option.some.injEq, Prod.mk.injEq] at H
          obtain ⟨rfl, rfl, rfl, rfl⟩ := H
          go_wp2_with (first | ((with_reducible refine gate_callee (f := 39) rfl ?_); refine goesL_ (some 26) rfl rfl Tryd.func39 (by kernel_rfl) rfl #[.int .i64 0, .bool false] rfl q2_ ?_; (with_reducible refine (value_of.calls 0 false t173 t174 t175 t176 _ A35.out).mono ?_); rintro e w36 ⟨rfl, hb⟩; refine ⟨_, rfl, ?_⟩; have n0_ := Aside0.mk (blk_below (g := gb168) (o := .cells #[.int .i64 a0_0, .int .i64 a0_1, .string a0_2] 31 (0, 0)) q36_ hb); have n1_ := Aside0.mk (blk_below (g := gb169) (o := .cells #[.int .i64 a1_0, .int .i64 a1_1, .string a1_2] 31 (0, 0)) q57_ hb); have n2_ := Aside0.mk (blk_below (g := gb170) (o := .cells #[.int .i64 0, .int .i64 0, .string (⟨#[]⟩ : ByteArray)] 31 (0, 0)) q87_ hb); have n3_ := Aside0.mk (below_step q0_ hb); clear BK168; clear BK169; clear BK170; clear HB; have BK168 := n0_; have BK169 := n1_; have BK170 := n2_; have HB := n3_; clear n0_ n1_ n2_ n3_; (try clear hb); (try clear hb2); (try clear hk); (try clear hi); have hnb37 := NB170_168.out; have hnc37 := NB168_170.out; have hnb38 := NB170_169.out; have hnc38 := NB169_170.out; have hcz39_0 : w36.cell? ⟨gb170, 0, none⟩ = some (.int .i64 0) := (blk_cell BK170.out 0).trans rfl; have hcz39_1 : w36.cell? ⟨gb170, 1, none⟩ = some (.int .i64 0) := (blk_cell BK170.out 1).trans rfl; have hcz39_2 : w36.cell? ⟨gb170, 2, none⟩ = some (.string (⟨#[]⟩ : ByteArray)) := (blk_cell BK170.out 2).trans rfl; have hfz39_0 := blk_frozen BK170.out 0; have hfz39_1 := blk_frozen BK170.out 1; have hfz39_2 := blk_frozen BK170.out 2))
          refine bodyPost_ret (results_ct rfl _ _ gb170 31 #[.int .i64 t173, .int .i64 t174, .string t175] (0, 0) _ rfl (by (with_reducible repeat first | apply bN_ | apply bD_ | apply bA_); refine blk_put (cs := #[.int .i64 t173, .int .i64 t174, .string (⟨#[]⟩ : ByteArray)]) ?_ 2 _ rfl; (with_reducible repeat first | apply bN_ | apply bD_ | apply bA_); refine blk_put (cs := #[.int .i64 t173, .int .i64 0, .string (⟨#[]⟩ : ByteArray)]) ?_ 1 _ rfl; (with_reducible repeat first | apply bN_ | apply bD_ | apply bA_); refine blk_put (cs := #[.int .i64 0, .int .i64 0, .string (⟨#[]⟩ : ByteArray)]) ?_ 0 _ rfl; (with_reducible repeat first | apply bN_ | apply bD_ | apply bA_); exact BK170.out) Tryd.underlying31 rfl (by kernel_rfl)) rfl ?_
          exact ⟨q4_, q0_⟩
        · replace c34 := Bool.eq_false_iff.mpr c34
          subst c34
          replace H := ifF_ H
          have HC40 := Aside0.mk H
          clear H
          go_upto_region 6 with (fail)
          go_cut [36] (fun v36 wc => ∃ (kq : Nat) (x36_39 : Bool), v36 = .bool x36_39 ∧ Aside0 (value_Mul.j1 kq x36_39 a0_0 a0_1 a0_2 a1_0 a1_1 a1_2 = some (r1, r2, r3, r4)) ∧ Aside0 (kq ≤ kj14) ∧ Aside0 (wc.heap[gb168]? = some (.cells #[.int .i64 a0_0, .int .i64 a0_1, .string a0_2] 31 (0, 0))) ∧ Aside0 (wc.heap[gb169]? = some (.cells #[.int .i64 a1_0, .int .i64 a1_1, .string a1_2] 31 (0, 0))) ∧ Aside0 (wc.heap[gb170]? = some (.cells #[.int .i64 0, .int .i64 0, .string (⟨#[]⟩ : ByteArray)] 31 (0, 0))) ∧ Aside0 (Below w.heap.size w wc))
          case first =>
            have H := HC40.out
            clear HC40
            by_cases c41 : a0_1 = (-9223372036854775808)
            · rw [if_pos c41] at H
              have c41b0 : (a0_1 == (-9223372036854775808)) = true := beq_iff_eq.mpr c41
              have c41b1 : (a0_1 != (-9223372036854775808)) = false := bne_eq_false_iff_eq.mpr c41
              clear c41
              (first | rw [c41b0] | (simp only [i64_w, i32_w]; rw [c41b0]) | skip)
              have H' := Aside0.mk H
              clear H
              have hnb42 := NB168_169.out
              have hnc42 := NB169_168.out
              have hnb43 := NB168_170.out
              have hnc43 := NB170_168.out
              have hcz44_0 : wc.cell? ⟨gb168, 0, none⟩ = some (.int .i64 a0_0) := (blk_cell BK168.out 0).trans rfl
              have hcz44_1 : wc.cell? ⟨gb168, 1, none⟩ = some (.int .i64 a0_1) := (blk_cell BK168.out 1).trans rfl
              have hcz44_2 : wc.cell? ⟨gb168, 2, none⟩ = some (.string a0_2) := (blk_cell BK168.out 2).trans rfl
              have hfz44_0 := blk_frozen BK168.out 0
              have hfz44_1 := blk_frozen BK168.out 1
              have hfz44_2 := blk_frozen BK168.out 2
              go_wp2
              go_meet
              case rel => exact ⟨_, (true), q7_, H', ⟨by have := HJ14.out; first | omega | exact Nat.le_refl _⟩, ⟨q36_⟩, ⟨q57_⟩, ⟨q87_⟩, ⟨q0_⟩⟩
            · rw [if_neg c41] at H
              have c41b0 : (a0_1 == (-9223372036854775808)) = false := beq_eq_false_iff_ne.mpr c41
              have c41b1 : (a0_1 != (-9223372036854775808)) = true := bne_iff_ne.mpr c41
              (first | rw [c41b0] | (simp only [i64_w, i32_w]; rw [c41b0]) | skip)
              have H' := Aside0.mk H
              clear H
              have hnb45 := NB168_169.out
              have hnc45 := NB169_168.out
              have hnb46 := NB168_170.out
              have hnc46 := NB170_168.out
              have hcz47_0 : wc.cell? ⟨gb168, 0, none⟩ = some (.int .i64 a0_0) := (blk_cell BK168.out 0).trans rfl
              have hcz47_1 : wc.cell? ⟨gb168, 1, none⟩ = some (.int .i64 a0_1) := (blk_cell BK168.out 1).trans rfl
              have hcz47_2 : wc.cell? ⟨gb168, 2, none⟩ = some (.string a0_2) := (blk_cell BK168.out 2).trans rfl
              have hfz47_0 := blk_frozen BK168.out 0
              have hfz47_1 := blk_frozen BK168.out 1
              have hfz47_2 := blk_frozen BK168.out 2
              have hnb48 := NB169_170.out
              have hnc48 := NB170_169.out
              have hcz49_0 : wc.cell? ⟨gb169, 0, none⟩ = some (.int .i64 a1_0) := (blk_cell BK169.out 0).trans rfl
              have hcz49_1 : wc.cell? ⟨gb169, 1, none⟩ = some (.int .i64 a1_1) := (blk_cell BK169.out 1).trans rfl
              have hcz49_2 : wc.cell? ⟨gb169, 2, none⟩ = some (.string a1_2) := (blk_cell BK169.out 2).trans rfl
              have hfz49_0 := blk_frozen BK169.out 0
              have hfz49_1 := blk_frozen BK169.out 1
              have hfz49_2 := blk_frozen BK169.out 2
              go_wp2
              go_meet
              case rel => exact ⟨_, ((a1_1 == (-9223372036854775808))), q7_, H', ⟨by have := HJ14.out; first | omega | exact Nat.le_refl _⟩, ⟨q36_⟩, ⟨q57_⟩, ⟨q87_⟩, ⟨q0_⟩⟩
          case rest =>
            clear HC40
            try clear c1
            try clear c2
            try clear p2
            try clear c3
            try clear c4
            try clear c8
            try clear c9
            try clear c11
            try clear c19
            try clear c20
            try clear c22
            try clear c25
            try clear c25b0
            try clear c25b1
            try clear c26
            try clear c27
            try clear c29
            try clear c30
            try clear c32
            try clear c34
            try clear c37
            try clear c38
            try clear c39
            try clear c41
            try clear c41b0
            try clear c41b1
            try clear c42
            try clear c43
            try clear c45
            try clear c46
            try clear c48
            try clear hcz10_0
            try clear hcz10_1
            try clear hcz10_2
            try clear hcz12_0
            try clear hcz12_1
            try clear hcz12_2
            try clear hcz14_0
            try clear hcz14_1
            try clear hcz14_2
            try clear hcz21_0
            try clear hcz21_1
            try clear hcz21_2
            try clear hcz23_0
            try clear hcz23_1
            try clear hcz23_2
            try clear hcz28_0
            try clear hcz28_1
            try clear hcz28_2
            try clear hcz31_0
            try clear hcz31_1
            try clear hcz31_2
            try clear hcz33_0
            try clear hcz33_1
            try clear hcz33_2
            try clear hcz39_0
            try clear hcz39_1
            try clear hcz39_2
            try clear hcz44_0
            try clear hcz44_1
            try clear hcz44_2
            try clear hcz47_0
            try clear hcz47_1
            try clear hcz47_2
            try clear hcz49_0
            try clear hcz49_1
            try clear hcz49_2
            try clear hfz10_0
            try clear hfz10_1
            try clear hfz10_2
            try clear hfz12_0
            try clear hfz12_1
            try clear hfz12_2
            try clear hfz14_0
            try clear hfz14_1
            try clear hfz14_2
            try clear hfz21_0
            try clear hfz21_1
            try clear hfz21_2
            try clear hfz23_0
            try clear hfz23_1
            try clear hfz23_2
            try clear hfz28_0
            try clear hfz28_1
            try clear hfz28_2
            try clear hfz31_0
            try clear hfz31_1
            try clear hfz31_2
            try clear hfz33_0
            try clear hfz33_1
            try clear hfz33_2
            try clear hfz39_0
            try clear hfz39_1
            try clear hfz39_2
            try clear hfz44_0
            try clear hfz44_1
            try clear hfz44_2
            try clear hfz47_0
            try clear hfz47_1
            try clear hfz47_2
            try clear hfz49_0
            try clear hfz49_1
            try clear hfz49_2
            try clear p2
            obtain ⟨kq, x36_39, rfl, HA, HJ39, BK168, BK169, BK170, HB⟩ := hcut
            cases kq with
            | zero => exact absurd HA.out (by simp [value_Mul.j1])
            | succ kj39 =>
              have H := HA.out
              clear HA
              simp only [value_Mul.j1] at H
              by_cases c50 : x36_39 = true
              · subst c50
                replace H := ifT_ H
                by_cases c51 : a0_1 = 1
                · rw [if_pos c51] at H
                  have c51b0 : (a0_1 == 1) = true := beq_iff_eq.mpr c51
                  have c51b1 : (a0_1 != 1) = false := bne_eq_false_iff_eq.mpr c51
                  clear c51
                  replace H := Option.bind_eq_some_iff.mp H
                  obtain ⟨⟨t177, t178, t179, t180⟩, A520, H⟩ := H
                  replace H : (some (t177, t178, t179, t180)) = some (r1, r2, r3, r4) := H
                  have A52 := Aside0.mk A520
                  clear A520
                  simp only [Option.some.injEq, Prod.mk.injEq] at H
                  obtain ⟨rfl, rfl, rfl, rfl⟩ := H
                  have hnb53 := NB168_169.out
                  have hnc53 := NB169_168.out
                  have hnb54 := NB168_170.out
                  have hnc54 := NB170_168.out
                  have hcz55_0 : wc.cell? ⟨gb168, 0, none⟩ = some (.int .i64 a0_0) := (blk_cell BK168.out 0).trans rfl
                  have hcz55_1 : wc.cell? ⟨gb168, 1, none⟩ = some (.int .i64 a0_1) := (blk_cell BK168.out 1).trans rfl
                  have hcz55_2 : wc.cell? ⟨gb168, 2, none⟩ = some (.string a0_2) := (blk_cell BK168.out 2).trans rfl
                  have hfz55_0 := blk_frozen BK168.out 0
                  have hfz55_1 := blk_frozen BK168.out 1
                  have hfz55_2 := blk_frozen BK168.out 2
                  go_wp2_with (first | ((with_reducible refine gate_callee (f := 39) rfl ?_); refine goesL_ (some 45) rfl rfl Tryd.func39 (by kernel_rfl) rfl #[.int .i64 (-9223372036854775808), .bool false] rfl q2_ ?_; (with_reducible refine (value_of.calls (-9223372036854775808) false t177 t178 t179 t180 _ A52.out).mono ?_); rintro e w56 ⟨rfl, hb⟩; refine ⟨_, rfl, ?_⟩; have n0_ := Aside0.mk (blk_below (g := gb168) (o := .cells #[.int .i64 a0_0, .int .i64 a0_1, .string a0_2] 31 (0, 0)) q36_ hb); have n1_ := Aside0.mk (blk_below (g := gb169) (o := .cells #[.int .i64 a1_0, .int .i64 a1_1, .string a1_2] 31 (0, 0)) q57_ hb); have n2_ := Aside0.mk (blk_below (g := gb170) (o := .cells #[.int .i64 0, .int .i64 0, .string (⟨#[]⟩ : ByteArray)] 31 (0, 0)) q87_ hb); have n3_ := Aside0.mk (below_step q0_ hb); clear BK168; clear BK169; clear BK170; clear HB; have BK168 := n0_; have BK169 := n1_; have BK170 := n2_; have HB := n3_; clear n0_ n1_ n2_ n3_; (try clear hb); (try clear hb2); (try clear hk); (try clear hi); have hnb57 := NB170_169.out; have hnc57 := NB169_170.out; have hcz58_0 : w56.cell? ⟨gb170, 0, none⟩ = some (.int .i64 0) := (blk_cell BK170.out 0).trans rfl; have hcz58_1 : w56.cell? ⟨gb170, 1, none⟩ = some (.int .i64 0) := (blk_cell BK170.out 1).trans rfl; have hcz58_2 : w56.cell? ⟨gb170, 2, none⟩ = some (.string (⟨#[]⟩ : ByteArray)) := (blk_cell BK170.out 2).trans rfl; have hfz58_0 := blk_frozen BK170.out 0; have hfz58_1 := blk_frozen BK170.out 1; have hfz58_2 := blk_frozen BK170.out 2))
                  refine bodyPost_ret (results_ct rfl _ _ gb170 31 #[.int .i64 t177, .int .i64 t178, .string t179] (0, 0) _ rfl (by (with_reducible repeat first | apply bN_ | apply bD_ | apply bA_); refine blk_put (cs := #[.int .i64 t177, .int .i64 t178, .string (⟨#[]⟩ : ByteArray)]) ?_ 2 _ rfl; (with_reducible repeat first | apply bN_ | apply bD_ | apply bA_); refine blk_put (cs := #[.int .i64 t177, .int .i64 0, .string (⟨#[]⟩ : ByteArray)]) ?_ 1 _ rfl; (with_reducible repeat first | apply bN_ | apply bD_ | apply bA_); refine blk_put (cs := #[.int .i64 0, .int .i64 0, .string (⟨#[]⟩ : ByteArray)]) ?_ 0 _ rfl; (with_reducible repeat first | apply bN_ | apply bD_ | apply bA_); exact BK170.out) Tryd.underlying31 rfl (by kernel_rfl)) rfl ?_
                  exact ⟨q4_, q0_⟩
                · rw [if_neg c51] at H
                  have c51b0 : (a0_1 == 1) = false := beq_eq_false_iff_ne.mpr c51
                  have c51b1 : (a0_1 != 1) = true := bne_iff_ne.mpr c51
                  replace H := Option.bind_eq_some_iff.mp H
                  obtain ⟨⟨t181, t182, t183, t184⟩, A590, H⟩ := H
                  replace H : (some (t181, t182, t183, t184)) = some (r1, r2, r3, r4) := H
                  have A59 := Aside0.mk A590
                  clear A590
                  simp only [Option.some.injEq, Prod.mk.injEq] at H
                  obtain ⟨rfl, rfl, rfl, rfl⟩ := H
                  have hnb60 := NB168_169.out
                  have hnc60 := NB169_168.out
                  have hnb61 := NB168_170.out
                  have hnc61 := NB170_168.out
                  have hcz62_0 : wc.cell? ⟨gb168, 0, none⟩ = some (.int .i64 a0_0) := (blk_cell BK168.out 0).trans rfl
                  have hcz62_1 : wc.cell? ⟨gb168, 1, none⟩ = some (.int .i64 a0_1) := (blk_cell BK168.out 1).trans rfl
                  have hcz62_2 : wc.cell? ⟨gb168, 2, none⟩ = some (.string a0_2) := (blk_cell BK168.out 2).trans rfl
                  have hfz62_0 := blk_frozen BK168.out 0
                  have hfz62_1 := blk_frozen BK168.out 1
                  have hfz62_2 := blk_frozen BK168.out 2
                  have hnb63 := NB169_170.out
                  have hnc63 := NB170_169.out
                  have hcz64_0 : wc.cell? ⟨gb169, 0, none⟩ = some (.int .i64 a1_0) := (blk_cell BK169.out 0).trans rfl
                  have hcz64_1 : wc.cell? ⟨gb169, 1, none⟩ = some (.int .i64 a1_1) := (blk_cell BK169.out 1).trans rfl
                  have hcz64_2 : wc.cell? ⟨gb169, 2, none⟩ = some (.string a1_2) := (blk_cell BK169.out 2).trans rfl
                  have hfz64_0 := blk_frozen BK169.out 0
                  have hfz64_1 := blk_frozen BK169.out 1
                  have hfz64_2 := blk_frozen BK169.out 2
                  go_wp2_with (first | ((with_reducible refine gate_callee (f := 39) rfl ?_); refine goesL_ (some 45) rfl rfl Tryd.func39 (by kernel_rfl) rfl #[.int .i64 (-9223372036854775808), .bool (a1_1 != 1)] rfl q2_ ?_; (with_reducible refine (value_of.calls (-9223372036854775808) (a1_1 != 1) t181 t182 t183 t184 _ A59.out).mono ?_); rintro e w65 ⟨rfl, hb⟩; refine ⟨_, rfl, ?_⟩; have n0_ := Aside0.mk (blk_below (g := gb168) (o := .cells #[.int .i64 a0_0, .int .i64 a0_1, .string a0_2] 31 (0, 0)) q36_ hb); have n1_ := Aside0.mk (blk_below (g := gb169) (o := .cells #[.int .i64 a1_0, .int .i64 a1_1, .string a1_2] 31 (0, 0)) q57_ hb); have n2_ := Aside0.mk (blk_below (g := gb170) (o := .cells #[.int .i64 0, .int .i64 0, .string (⟨#[]⟩ : ByteArray)] 31 (0, 0)) q87_ hb); have n3_ := Aside0.mk (below_step q0_ hb); clear BK168; clear BK169; clear BK170; clear HB; have BK168 := n0_; have BK169 := n1_; have BK170 := n2_; have HB := n3_; clear n0_ n1_ n2_ n3_; (try clear hb); (try clear hb2); (try clear hk); (try clear hi); have hcz66_0 : w65.cell? ⟨gb170, 0, none⟩ = some (.int .i64 0) := (blk_cell BK170.out 0).trans rfl; have hcz66_1 : w65.cell? ⟨gb170, 1, none⟩ = some (.int .i64 0) := (blk_cell BK170.out 1).trans rfl; have hcz66_2 : w65.cell? ⟨gb170, 2, none⟩ = some (.string (⟨#[]⟩ : ByteArray)) := (blk_cell BK170.out 2).trans rfl; have hfz66_0 := blk_frozen BK170.out 0; have hfz66_1 := blk_frozen BK170.out 1; have hfz66_2 := blk_frozen BK170.out 2))
                  refine bodyPost_ret (results_ct rfl _ _ gb170 31 #[.int .i64 t181, .int .i64 t182, .string t183] (0, 0) _ rfl (by (with_reducible repeat first | apply bN_ | apply bD_ | apply bA_); refine blk_put (cs := #[.int .i64 t181, .int .i64 t182, .string (⟨#[]⟩ : ByteArray)]) ?_ 2 _ rfl; (with_reducible repeat first | apply bN_ | apply bD_ | apply bA_); refine blk_put (cs := #[.int .i64 t181, .int .i64 0, .string (⟨#[]⟩ : ByteArray)]) ?_ 1 _ rfl; (with_reducible repeat first | apply bN_ | apply bD_ | apply bA_); refine blk_put (cs := #[.int .i64 0, .int .i64 0, .string (⟨#[]⟩ : ByteArray)]) ?_ 0 _ rfl; (with_reducible repeat first | apply bN_ | apply bD_ | apply bA_); exact BK170.out) Tryd.underlying31 rfl (by kernel_rfl)) rfl ?_
                  exact ⟨q4_, q0_⟩
              · replace c50 := Bool.eq_false_iff.mpr c50
                subst c50
                replace H := ifF_ H
                by_cases c67 : a1_1 = 0
                · rw [if_pos c67] at H
                  exact absurd H (by simp)
                · rw [if_neg c67] at H
                  have c67b0 : (a1_1 == 0) = false := beq_eq_false_iff_ne.mpr c67
                  have c67b1 : (a1_1 != 0) = true := bne_iff_ne.mpr c67
                  replace H := Option.bind_eq_some_iff.mp H
                  obtain ⟨⟨t185, t186, t187, t188⟩, A680, H⟩ := H
                  replace H : (some (t185, t186, t187, t188)) = some (r1, r2, r3, r4) := H
                  have A68 := Aside0.mk A680
                  clear A680
                  simp only [Option.some.injEq, Prod.mk.injEq] at H
                  obtain ⟨rfl, rfl, rfl, rfl⟩ := H
                  have hnb69 := NB168_169.out
                  have hnc69 := NB169_168.out
                  have hnb70 := NB168_170.out
                  have hnc70 := NB170_168.out
                  have hcz71_0 : wc.cell? ⟨gb168, 0, none⟩ = some (.int .i64 a0_0) := (blk_cell BK168.out 0).trans rfl
                  have hcz71_1 : wc.cell? ⟨gb168, 1, none⟩ = some (.int .i64 a0_1) := (blk_cell BK168.out 1).trans rfl
                  have hcz71_2 : wc.cell? ⟨gb168, 2, none⟩ = some (.string a0_2) := (blk_cell BK168.out 2).trans rfl
                  have hfz71_0 := blk_frozen BK168.out 0
                  have hfz71_1 := blk_frozen BK168.out 1
                  have hfz71_2 := blk_frozen BK168.out 2
                  have hnb72 := NB169_170.out
                  have hnc72 := NB170_169.out
                  have hcz73_0 : wc.cell? ⟨gb169, 0, none⟩ = some (.int .i64 a1_0) := (blk_cell BK169.out 0).trans rfl
                  have hcz73_1 : wc.cell? ⟨gb169, 1, none⟩ = some (.int .i64 a1_1) := (blk_cell BK169.out 1).trans rfl
                  have hcz73_2 : wc.cell? ⟨gb169, 2, none⟩ = some (.string a1_2) := (blk_cell BK169.out 2).trans rfl
                  have hfz73_0 := blk_frozen BK169.out 0
                  have hfz73_1 := blk_frozen BK169.out 1
                  have hfz73_2 := blk_frozen BK169.out 2
                  try go_wp2
                  have n0_ := Aside0.mk (blk_drew BK168.out)
                  have n1_ := Aside0.mk (blk_drew BK169.out)
                  have n2_ := Aside0.mk (blk_drew BK170.out)
                  have n3_ := Aside0.mk (below_drew1 HB.out)
                  clear BK168
                  clear BK169
                  clear BK170
                  clear HB
                  have BK168 := n0_
                  have BK169 := n1_
                  have BK170 := n2_
                  have HB := n3_
                  clear n0_ n1_ n2_ n3_
                  refine start_ (n := 13) (S := fun w' => w'.cell? ⟨gb169, 0, none⟩ = some (.int .i64 a1_0) ∧ w'.cell? ⟨gb169, 1, none⟩ = some (.int .i64 a1_1) ∧ w'.cell? ⟨gb169, 2, none⟩ = some (.string a1_2) ∧ w'.cell? ⟨gb168, 0, none⟩ = some (.int .i64 a0_0) ∧ w'.cell? ⟨gb168, 1, none⟩ = some (.int .i64 a0_1) ∧ w'.cell? ⟨gb168, 2, none⟩ = some (.string a0_2)) (ds := []) #[false, false, false, false, false, false, false, false, false, false, false, false, false] (by kernel_rfl) rfl rfl ⟨(blk_cell BK169.out 0).trans rfl, (blk_cell BK169.out 1).trans rfl, (blk_cell BK169.out 2).trans rfl, (blk_cell BK168.out 0).trans rfl, (blk_cell BK168.out 1).trans rfl, (blk_cell BK168.out 2).trans rfl⟩ (fun hHeld => ?_); refine with_tabW value_Mul.tab9 value_Mul.bits9 (fun HT_ HW_ => ?_)
                  generalize wc.drew = w74 at BK168 BK169 BK170 HB hHeld ⊢
                  refine pure_ (i := 0) (N := some 53) (v := ?_) (a' := ?_) #[true, false, false, false, false, false, false, false, false, false, false, false, false] rfl rfl (any_of HT_.out (by kernel_rfl)) (fun _ _ _ h => h) (Or.inl ⟨by rfl, ?_⟩) ?_ ?_
                  rotate_left
                  · intro w'
                    go_simp
                    with_reducible rfl
                  rotate_left
                  · simp only [Act.put, List.setIfInBounds_toArray, List.set_cons_zero, List.set_cons_succ, i64_w, i32_w]
                    rfl
                  refine pure_ (i := 1) (N := some 54) (v := ?_) (a' := ?_) #[true, true, false, false, false, false, false, false, false, false, false, false, false] rfl rfl (any_of HT_.out (by kernel_rfl)) (fun _ _ _ h => h) (Or.inl ⟨by rfl, ?_⟩) ?_ ?_
                  rotate_left
                  · intro w'
                    go_simp
                    with_reducible rfl
                  rotate_left
                  · simp only [Act.put, List.setIfInBounds_toArray, List.set_cons_zero, List.set_cons_succ, i64_w, i32_w]
                    rfl
                  refine pure_ (i := 2) (N := some 55) (v := ?_) (a' := ?_) #[true, true, true, false, false, false, false, false, false, false, false, false, false] rfl rfl (any_of HT_.out (by kernel_rfl)) (fun _ _ _ h => h) (Or.inl ⟨by rfl, ?_⟩) ?_ ?_
                  rotate_left
                  · intro w'
                    go_simp
                    with_reducible rfl
                  rotate_left
                  · simp only [Act.put, List.setIfInBounds_toArray, List.set_cons_zero, List.set_cons_succ, i64_w, i32_w]
                    rfl
                  refine pure_ (i := 5) (N := some 58) (v := ?_) (a' := ?_) #[true, true, true, false, false, true, false, false, false, false, false, false, false] rfl rfl (any_of HT_.out (by kernel_rfl)) (fun _ _ _ h => h) (Or.inl ⟨by rfl, ?_⟩) ?_ ?_
                  rotate_left
                  · intro w'
                    go_simp
                    with_reducible rfl
                  rotate_left
                  · simp only [Act.put, List.setIfInBounds_toArray, List.set_cons_zero, List.set_cons_succ, i64_w, i32_w]
                    rfl
                  refine take_ (i := 3) (N := some 56) (v := ?_) (a' := ?_) #[true, true, true, true, false, true, false, false, false, false, false, false, false] rfl rfl (take_ofW HT_.out HW_.out (by kernel_rfl)) (fun _ _ _ h => h) (Or.inl ⟨by rfl, ?_⟩) hHeld ?_ ?_
                  rotate_left
                  · rintro w' ⟨s0, s1, s2, s3, s4, s5⟩
                    go_simp
                    with_reducible rfl
                  rotate_left
                  · simp only [Act.put, List.setIfInBounds_toArray, List.set_cons_zero, List.set_cons_succ, i64_w, i32_w]
                    rfl
                  refine pure_ (i := 4) (N := some 57) (v := ?_) (a' := ?_) #[true, true, true, true, true, true, false, false, false, false, false, false, false] rfl rfl (any_of HT_.out (by kernel_rfl)) (fun _ _ _ h => h) (Or.inl ⟨by rfl, ?_⟩) ?_ ?_
                  rotate_left
                  · intro w'
                    go_simp
                    with_reducible rfl
                  rotate_left
                  · simp only [Act.put, List.setIfInBounds_toArray, List.set_cons_zero, List.set_cons_succ, i64_w, i32_w]
                    rfl
                  refine take_ (i := 6) (N := some 59) (v := ?_) (a' := ?_) #[true, true, true, true, true, true, true, false, false, false, false, false, false] rfl rfl (take_ofW HT_.out HW_.out (by kernel_rfl)) (fun _ _ _ h => h) (Or.inl ⟨by rfl, ?_⟩) hHeld ?_ ?_
                  rotate_left
                  · rintro w' ⟨s0, s1, s2, s3, s4, s5⟩
                    go_simp
                    with_reducible rfl
                  rotate_left
                  · simp only [Act.put, List.setIfInBounds_toArray, List.set_cons_zero, List.set_cons_succ, i64_w, i32_w]
                    rfl
                  refine pure_ (i := 7) (N := some 60) (v := ?_) (a' := ?_) #[true, true, true, true, true, true, true, true, false, false, false, false, false] rfl rfl (any_of HT_.out (by kernel_rfl)) (fun _ _ _ h => h) (Or.inl ⟨by rfl, ?_⟩) ?_ ?_
                  rotate_left
                  · intro w'
                    go_simp
                    with_reducible rfl
                  rotate_left
                  · simp only [Act.put, List.setIfInBounds_toArray, List.set_cons_zero, List.set_cons_succ, i64_w, i32_w]
                    rfl
                  refine one_ (i := 8) (N := some 61) #[true, true, true, true, true, true, true, true, true, false, false, false, false] rfl rfl (one_of HT_.out (by kernel_rfl)) (by decide) (fun K hK => ?_)
                  refine goes_ Tryd.func39 (by kernel_rfl) rfl #[.int .i64 (wrap64 (a0_1 * a1_1)), .bool ((wrap64 (Int.tdiv (wrap64 (a0_1 * a1_1)) a1_1)) != a0_1)] (by rfl) rfl rfl q2_ ?_
                  with_reducible refine (value_of.calls (wrap64 (a0_1 * a1_1)) ((wrap64 (Int.tdiv (wrap64 (a0_1 * a1_1)) a1_1)) != a0_1) t185 t186 t187 t188 _ A68.out).mono ?_
                  rintro e w75 ⟨rfl, hb⟩
                  refine ⟨_, rfl, ?_⟩
                  have n0_ := Aside0.mk (blk_below (g := gb168) (o := .cells #[.int .i64 a0_0, .int .i64 a0_1, .string a0_2] 31 (0, 0)) q36_ hb)
                  have n1_ := Aside0.mk (blk_below (g := gb169) (o := .cells #[.int .i64 a1_0, .int .i64 a1_1, .string a1_2] 31 (0, 0)) q57_ hb)
                  have n2_ := Aside0.mk (blk_below (g := gb170) (o := .cells #[.int .i64 0, .int .i64 0, .string (⟨#[]⟩ : ByteArray)] 31 (0, 0)) q87_ hb)
                  have n3_ := Aside0.mk (below_step q0_ hb)
                  clear BK168
                  clear BK169
                  clear BK170
                  clear HB
                  have BK168 := n0_
                  have BK169 := n1_
                  have BK170 := n2_
                  have HB := n3_
                  clear n0_ n1_ n2_ n3_
                  (try clear hb)
                  (try clear hb2)
                  (try clear hk)
                  (try clear hi)
                  refine hK.out _ _ ⟨(blk_cell BK169.out 0).trans rfl, (blk_cell BK169.out 1).trans rfl, (blk_cell BK169.out 2).trans rfl, (blk_cell BK168.out 0).trans rfl, (blk_cell BK168.out 1).trans rfl, (blk_cell BK168.out 2).trans rfl⟩ (fun hHeld => ?_)
                  clear hK K
                  refine norm_ (a' := ?_) ?_ ?_
                  rotate_left
                  · show Act.put _ (some 61) _ = _
                    simp only [Act.put, List.setIfInBounds_toArray, List.set_cons_zero, List.set_cons_succ, i64_w, i32_w]
                    rfl
                  refine pure_ (i := 9) (N := some 62) (v := ?_) (a' := ?_) #[true, true, true, true, true, true, true, true, true, true, false, false, false] rfl rfl (any_of HT_.out (by kernel_rfl)) (fun _ _ _ h => h) (Or.inl ⟨by rfl, ?_⟩) ?_ ?_
                  rotate_left
                  · intro w'
                    go_simp
                    with_reducible rfl
                  rotate_left
                  · simp only [Act.put, List.setIfInBounds_toArray, List.set_cons_zero, List.set_cons_succ, i64_w, i32_w]
                    rfl
                  refine pure_ (i := 10) (N := some 63) (v := ?_) (a' := ?_) #[true, true, true, true, true, true, true, true, true, true, true, false, false] rfl rfl (any_of HT_.out (by kernel_rfl)) (fun _ _ _ h => h) (Or.inl ⟨by rfl, ?_⟩) ?_ ?_
                  rotate_left
                  · intro w'
                    go_simp
                    with_reducible rfl
                  rotate_left
                  · simp only [Act.put, List.setIfInBounds_toArray, List.set_cons_zero, List.set_cons_succ, i64_w, i32_w]
                    rfl
                  refine one_ (i := 11) (N := none) #[true, true, true, true, true, true, true, true, true, true, true, true, false] rfl rfl (one_of HT_.out (by kernel_rfl)) (by decide) (fun K hK => ?_)
                  have hs76 : w75.cell? ⟨gb170, 0, none⟩ = some (.int .i64 0) := (blk_cell BK170.out 0).trans rfl
                  have hfs76 := blk_frozen BK170.out 0
                  have hns76_0 := NB168_170.out
                  have hns76_1 := NB169_170.out
                  have hms76_0 := NB170_168.out
                  have hms76_1 := NB170_169.out
                  have hs77 : w75.cell? ⟨gb170, 1, none⟩ = some (.int .i64 0) := (blk_cell BK170.out 1).trans rfl
                  have hfs77 := blk_frozen BK170.out 1
                  have hns77_0 := NB168_170.out
                  have hns77_1 := NB169_170.out
                  have hms77_0 := NB170_168.out
                  have hms77_1 := NB170_169.out
                  have hs78 : w75.cell? ⟨gb170, 2, none⟩ = some (.string (⟨#[]⟩ : ByteArray)) := (blk_cell BK170.out 2).trans rfl
                  have hfs78 := blk_frozen BK170.out 2
                  have hns78_0 := NB168_170.out
                  have hns78_1 := NB169_170.out
                  have hms78_0 := NB170_168.out
                  have hms78_1 := NB170_169.out
                  refine skip_ (w1 := ?_) (by rfl) rfl ?_ ?_
                  rotate_left
                  · go_simp
                    rfl
                  refine hK.out _ _ ⟨((cell_far (p := ⟨gb170, _, none⟩) NB169_170.out _).trans (((cell_far (p := ⟨gb170, _, none⟩) NB169_170.out _).trans (((cell_far (p := ⟨gb170, _, none⟩) NB169_170.out _).trans (hHeld.1)))))), ((cell_far (p := ⟨gb170, _, none⟩) NB169_170.out _).trans (((cell_far (p := ⟨gb170, _, none⟩) NB169_170.out _).trans (((cell_far (p := ⟨gb170, _, none⟩) NB169_170.out _).trans (hHeld.2.1)))))), ((cell_far (p := ⟨gb170, _, none⟩) NB169_170.out _).trans (((cell_far (p := ⟨gb170, _, none⟩) NB169_170.out _).trans (((cell_far (p := ⟨gb170, _, none⟩) NB169_170.out _).trans (hHeld.2.2.1)))))), ((cell_far (p := ⟨gb170, _, none⟩) NB168_170.out _).trans (((cell_far (p := ⟨gb170, _, none⟩) NB168_170.out _).trans (((cell_far (p := ⟨gb170, _, none⟩) NB168_170.out _).trans (hHeld.2.2.2.1)))))), ((cell_far (p := ⟨gb170, _, none⟩) NB168_170.out _).trans (((cell_far (p := ⟨gb170, _, none⟩) NB168_170.out _).trans (((cell_far (p := ⟨gb170, _, none⟩) NB168_170.out _).trans (hHeld.2.2.2.2.1)))))), ((cell_far (p := ⟨gb170, _, none⟩) NB168_170.out _).trans (((cell_far (p := ⟨gb170, _, none⟩) NB168_170.out _).trans (((cell_far (p := ⟨gb170, _, none⟩) NB168_170.out _).trans (hHeld.2.2.2.2.2))))))⟩ (fun hHeld => ?_)
                  clear hK K
                  refine pure_ (i := 12) (N := some 5) (v := ?_) (a' := ?_) #[true, true, true, true, true, true, true, true, true, true, true, true, true] rfl rfl (any_of HT_.out (by kernel_rfl)) (fun _ _ _ h => h) (Or.inl ⟨by rfl, ?_⟩) ?_ ?_
                  rotate_left
                  · intro w'
                    go_simp
                    with_reducible rfl
                  rotate_left
                  · simp only [Act.put, List.setIfInBounds_toArray, List.set_cons_zero, List.set_cons_succ, i64_w, i32_w]
                    rfl
                  refine done_ (done_of HT_.out (by kernel_rfl)) ?_
                  try go_wp2
                  refine bodyPost_ret (results_ct rfl _ _ gb170 31 #[.int .i64 t185, .int .i64 t186, .string t187] (0, 0) _ rfl (by (with_reducible repeat first | apply bN_ | apply bD_ | apply bA_); refine blk_put (cs := #[.int .i64 t185, .int .i64 t186, .string (⟨#[]⟩ : ByteArray)]) ?_ 2 _ rfl; (with_reducible repeat first | apply bN_ | apply bD_ | apply bA_); refine blk_put (cs := #[.int .i64 t185, .int .i64 0, .string (⟨#[]⟩ : ByteArray)]) ?_ 1 _ rfl; (with_reducible repeat first | apply bN_ | apply bD_ | apply bA_); refine blk_put (cs := #[.int .i64 0, .int .i64 0, .string (⟨#[]⟩ : ByteArray)]) ?_ 0 _ rfl; (with_reducible repeat first | apply bN_ | apply bD_ | apply bA_); exact BK170.out) Tryd.underlying31 rfl (by kernel_rfl)) rfl ?_
                  exact ⟨q4_, q0_⟩


/-! ### value_Neg: function 33 -/
def value_Neg.f (k : Nat) (a0_0 : Int) (a0_1 : Int) (a0_2 : ByteArray) : Option (Int × Int × ByteArray × Int) := (value_Sub.f k 2 0 (⟨#[]⟩ : ByteArray) a0_0 a0_1 a0_2).bind fun bt191 => (some (bt191.1, bt191.2.1, bt191.2.2.1, bt191.2.2.2))
theorem value_Neg.mono : ∀ a0 a1 a2 k, LeO (value_Neg.f k a0 a1 a2) (value_Neg.f (k + 1) a0 a1 a2) := by
  intro a0 a1 a2 k
  unfold value_Neg.f
  repeat' first
      | (with_reducible exact value_Sub.mono _ _ _ _ _ _ _)
      | (with_reducible exact LeO.refl _)
      | (with_reducible exact LeO.none _)
      | (with_reducible refine LeO.ite ?_ ?_)
      | (with_reducible refine LeO.bind ?_ (fun _ => ?_))
      | exact value_Sub.mono _ _ _ _ _ _ _
      | exact LeO.none _
      | refine LeO.ite ?_ ?_
      | refine LeO.bind ?_ (fun _ => ?_)
set_option maxHeartbeats 8000000 in
set_option maxRecDepth 100000 in
theorem value_Neg.calls (k : Nat) (a0_0 : Int) (a0_1 : Int) (a0_2 : ByteArray) (r1 : Int) (r2 : Int) (r3 : ByteArray) (r4 : Int) (w : World) (h : value_Neg.f k a0_0 a0_1 a0_2 = some (r1, r2, r3, r4)) (hG : Glob w) :
    Calls Tryd.prog 33 #[.agg #[.int .i64 a0_0, .int .i64 a0_1, .string a0_2]] w fun e w' => e = .returned (.tuple #[.agg #[.int .i64 r1, .int .i64 r2, .string r3], .int .i64 r4]) ∧ Below w.heap.size w w' := by
  have hu31 := Tryd.underlying31
  have HG := Aside0.mk hG
  clear hG
  have HB := Aside0.mk (Below.refl w.heap.size w)
  have H : ((value_Sub.f k 2 0 (⟨#[]⟩ : ByteArray) a0_0 a0_1 a0_2).bind fun bt191 => (some (bt191.1, bt191.2.1, bt191.2.2.1, bt191.2.2.2))) = some (r1, r2, r3, r4) := h
  clear h
  replace H := Option.bind_eq_some_iff.mp H
  obtain ⟨⟨t191, t192, t193, t194⟩, A20, H⟩ := H
  replace H : (some (t191, t192, t193, t194)) = some (r1, r2, r3, r4) := H
  have A2 := Aside0.mk A20
  clear A20
  simp only [Option.some.injEq, Prod.mk.injEq] at H
  obtain ⟨rfl, rfl, rfl, rfl⟩ := H
  go_enter Tryd.func33, Tryd.ntmps33
  go_wp2_with (first | ((with_reducible refine gate_dst (N := 1) rfl ?_); refine box_event ?hg (N := 1) ?hd (cs := #[.int .i64 a0_0, .int .i64 a0_1, .string a0_2]) (t := 31) ?hr ?_; (case hd => rfl); (case hg => rfl); (case hr => first | (go_simp; done) | (go_simp; rfl)); intro gb189 hg w3 hbox hb; have n0_ := Aside0.mk (below_step q0_ hb); have n1_ := Aside0.mk (hbox); have n2_ := Aside0.mk ((q1_ : w.heap.size ≤ gb189)); have n3_ := Aside0.mk ((q1_ : w.heap.size ≤ gb189)); clear HB; have HB := n0_; have BK189 := n1_; have GW189 := n2_; have GE189 := n3_; clear n0_ n1_ n2_ n3_; clear hb hbox hg) | ((with_reducible refine gate_dst (N := 2) rfl ?_); refine box_event ?hg (N := 2) ?hd (cs := #[.int .i64 0, .int .i64 0, .string (⟨#[]⟩ : ByteArray)]) (t := 31) ?hr ?_; (case hd => rfl); (case hg => rfl); (case hr => first | (go_simp; done) | (go_simp; rfl)); intro gb190 hg w4 hbox hb; have n0_ := Aside0.mk (blk_below (g := gb189) (o := .cells #[.int .i64 a0_0, .int .i64 a0_1, .string a0_2] 31 (0, 0)) q156_ hb); have n1_ := Aside0.mk (below_step q0_ hb); have n2_ := Aside0.mk (hbox); have n3_ := Aside0.mk ((q1_ : w.heap.size ≤ gb190)); have n4_ := Aside0.mk ((q1_ : w.heap.size ≤ gb190)); have n5_ := Aside0.mk ((by rw [hg]; exact Nat.ne_of_lt (blk_lt (g := gb189) (o := .cells #[.int .i64 a0_0, .int .i64 a0_1, .string a0_2] 31 (0, 0)) q156_) : gb189 ≠ gb190)); have n6_ := Aside0.mk ((by rw [hg]; exact Nat.ne_of_gt (blk_lt (g := gb189) (o := .cells #[.int .i64 a0_0, .int .i64 a0_1, .string a0_2] 31 (0, 0)) q156_) : gb190 ≠ gb189)); clear BK189; clear HB; have BK189 := n0_; have HB := n1_; have BK190 := n2_; have GW190 := n3_; have GE190 := n4_; have NB189_190 := n5_; have NB190_189 := n6_; clear n0_ n1_ n2_ n3_ n4_ n5_ n6_; clear hb hbox hg; have hnb5 := NB189_190.out; have hnc5 := NB190_189.out; have hcz6_0 : w4.cell? ⟨gb189, 0, none⟩ = some (.int .i64 a0_0) := (blk_cell BK189.out 0).trans rfl; have hcz6_1 : w4.cell? ⟨gb189, 1, none⟩ = some (.int .i64 a0_1) := (blk_cell BK189.out 1).trans rfl; have hcz6_2 : w4.cell? ⟨gb189, 2, none⟩ = some (.string a0_2) := (blk_cell BK189.out 2).trans rfl; have hfz6_0 := blk_frozen BK189.out 0; have hfz6_1 := blk_frozen BK189.out 1; have hfz6_2 := blk_frozen BK189.out 2) | ((with_reducible refine gate_callee (f := 31) rfl ?_); refine goesL_ (some 6) rfl rfl Tryd.func31 (by kernel_rfl) rfl #[.agg #[.int .i64 2, .int .i64 0, .string (⟨#[]⟩ : ByteArray)], .agg #[.int .i64 a0_0, .int .i64 a0_1, .string a0_2]] rfl q2_ ?_; (with_reducible refine (value_Sub.calls k 2 0 (⟨#[]⟩ : ByteArray) a0_0 a0_1 a0_2 t191 t192 t193 t194 _ A2.out (by first | exact HG.out | (refine Glob.below HG.out ?_; (repeat (first | (with_reducible first | exact HB.out | apply below_alloc | apply pw_below_drewN | apply below_drew1 | refine below_set ?_ GE189.out | refine below_set ?_ GE190.out) | exact HB.out))) | (repeat (first | exact HG.out | apply Glob.drewN | apply Glob.drew | apply Glob.alloc)))).mono ?_); rintro e w7 ⟨rfl, hb⟩; refine ⟨_, rfl, ?_⟩; have n0_ := Aside0.mk (blk_below (g := gb189) (o := .cells #[.int .i64 a0_0, .int .i64 a0_1, .string a0_2] 31 (0, 0)) q156_ hb); have n1_ := Aside0.mk (blk_below (g := gb190) (o := .cells #[.int .i64 0, .int .i64 0, .string (⟨#[]⟩ : ByteArray)] 31 (0, 0)) (by (with_reducible repeat first | apply bN_ | apply bD_ | apply bA_); exact BK190.out) hb); have n2_ := Aside0.mk (below_step q0_ hb); clear BK189; clear BK190; clear HB; have BK189 := n0_; have BK190 := n1_; have HB := n2_; clear n0_ n1_ n2_; (try clear hb); (try clear hb2); (try clear hk); (try clear hi); have hcz8_0 : w7.cell? ⟨gb190, 0, none⟩ = some (.int .i64 0) := (blk_cell BK190.out 0).trans rfl; have hcz8_1 : w7.cell? ⟨gb190, 1, none⟩ = some (.int .i64 0) := (blk_cell BK190.out 1).trans rfl; have hcz8_2 : w7.cell? ⟨gb190, 2, none⟩ = some (.string (⟨#[]⟩ : ByteArray)) := (blk_cell BK190.out 2).trans rfl; have hfz8_0 := blk_frozen BK190.out 0; have hfz8_1 := blk_frozen BK190.out 1; have hfz8_2 := blk_frozen BK190.out 2))
  refine bodyPost_ret (results_ct rfl _ _ gb190 31 #[.int .i64 t191, .int .i64 t192, .string t193] (0, 0) _ rfl (by (with_reducible repeat first | apply bN_ | apply bD_ | apply bA_); refine blk_put (cs := #[.int .i64 t191, .int .i64 t192, .string (⟨#[]⟩ : ByteArray)]) ?_ 2 _ rfl; (with_reducible repeat first | apply bN_ | apply bD_ | apply bA_); refine blk_put (cs := #[.int .i64 t191, .int .i64 0, .string (⟨#[]⟩ : ByteArray)]) ?_ 1 _ rfl; (with_reducible repeat first | apply bN_ | apply bD_ | apply bA_); refine blk_put (cs := #[.int .i64 0, .int .i64 0, .string (⟨#[]⟩ : ByteArray)]) ?_ 0 _ rfl; (with_reducible repeat first | apply bN_ | apply bD_ | apply bA_); exact BK190.out) Tryd.underlying31 rfl (by kernel_rfl)) rfl ?_
  exact ⟨q4_, q0_⟩


attribute [local go_sem high] eqA31
/-! ### expr_logic: function 34 -/
def expr_logic.j0 : Nat → Int → Bool → Int → Int → ByteArray → Int → Int → ByteArray → Int → Int → ByteArray → Option (Int × Int × ByteArray)
  | 0, _, _, _, _, _, _, _, _, _, _, _ => none
  | k + 1, x0, x11, x196000, x196001, x196002, x197000, x197001, x197002, x202000, x202001, x202002 => if x11 = true then (some (x202000, x202001, x202002)) else (if x196000 = 0 then (some (0, 0, (⟨#[]⟩ : ByteArray))) else (if x197000 = 0 then (some (0, 0, (⟨#[]⟩ : ByteArray))) else ((expr_truth.f (x0 == 13)).bind fun bt202 => (some (bt202.1, bt202.2.1, bt202.2.2)))))
def expr_logic.f (k : Nat) (a0 : Int) (a1_0 : Int) (a1_1 : Int) (a1_2 : ByteArray) (a2_0 : Int) (a2_1 : Int) (a2_2 : ByteArray) : Option (Int × Int × ByteArray) := (expr_truth.f (a0 == 14)).bind fun bt198 => (if (a1_0 == bt198.1 && (a1_1 == bt198.2.1 && (a1_2.toList == bt198.2.2.toList))) = true then (expr_logic.j0 k a0 true a1_0 a1_1 a1_2 a2_0 a2_1 a2_2 bt198.1 bt198.2.1 bt198.2.2) else (expr_logic.j0 k a0 (a2_0 == bt198.1 && (a2_1 == bt198.2.1 && (a2_2.toList == bt198.2.2.toList))) a1_0 a1_1 a1_2 a2_0 a2_1 a2_2 bt198.1 bt198.2.1 bt198.2.2))
theorem expr_logic.mono_l : ∀ k, (∀ y0 y1 y2 y3 y4 y5 y6 y7 y8 y9 y10, LeO (expr_logic.j0 k y0 y1 y2 y3 y4 y5 y6 y7 y8 y9 y10) (expr_logic.j0 (k + 1) y0 y1 y2 y3 y4 y5 y6 y7 y8 y9 y10))
  | 0 => fun _ _ _ _ _ _ _ _ _ _ _ r h => by simp [expr_logic.j0] at h
  | k + 1 => by
    have ih0 := expr_logic.mono_l k
    · intro y0 y1 y2 y3 y4 y5 y6 y7 y8 y9 y10
      unfold expr_logic.j0
      repeat' first
      | (with_reducible exact ih0 _ _ _ _ _ _ _ _ _ _ _)
      | (with_reducible exact LeO.refl _)
      | (with_reducible exact LeO.none _)
      | (with_reducible refine LeO.ite ?_ ?_)
      | (with_reducible refine LeO.bind ?_ (fun _ => ?_))
      | exact ih0 _ _ _ _ _ _ _ _ _ _ _
      | exact LeO.none _
      | refine LeO.ite ?_ ?_
      | refine LeO.bind ?_ (fun _ => ?_)
theorem expr_logic.mono : ∀ a0 a1 a2 a3 a4 a5 a6 k, LeO (expr_logic.f k a0 a1 a2 a3 a4 a5 a6) (expr_logic.f (k + 1) a0 a1 a2 a3 a4 a5 a6) := by
  intro a0 a1 a2 a3 a4 a5 a6 k
  have ih0 := expr_logic.mono_l k
  unfold expr_logic.f
  repeat' first
      | (with_reducible exact ih0 _ _ _ _ _ _ _ _ _ _ _)
      | (with_reducible exact LeO.refl _)
      | (with_reducible exact LeO.none _)
      | (with_reducible refine LeO.ite ?_ ?_)
      | (with_reducible refine LeO.bind ?_ (fun _ => ?_))
      | exact ih0 _ _ _ _ _ _ _ _ _ _ _
      | exact LeO.none _
      | refine LeO.ite ?_ ?_
      | refine LeO.bind ?_ (fun _ => ?_)
set_option maxHeartbeats 8000000 in
set_option maxRecDepth 100000 in
theorem expr_logic.calls (k : Nat) (a0 : Int) (a1_0 : Int) (a1_1 : Int) (a1_2 : ByteArray) (a2_0 : Int) (a2_1 : Int) (a2_2 : ByteArray) (r1 : Int) (r2 : Int) (r3 : ByteArray) (w : World) (h : expr_logic.f k a0 a1_0 a1_1 a1_2 a2_0 a2_1 a2_2 = some (r1, r2, r3)) :
    Calls Tryd.prog 34 #[.int .i64 a0, .agg #[.int .i64 a1_0, .int .i64 a1_1, .string a1_2], .agg #[.int .i64 a2_0, .int .i64 a2_1, .string a2_2]] w fun e w' => e = .returned (.agg #[.int .i64 r1, .int .i64 r2, .string r3]) ∧ Below w.heap.size w w' := by
  have hu31 := Tryd.underlying31
  have HB := Aside0.mk (Below.refl w.heap.size w)
  have H : ((expr_truth.f (a0 == 14)).bind fun bt198 => (if (a1_0 == bt198.1 && (a1_1 == bt198.2.1 && (a1_2.toList == bt198.2.2.toList))) = true then (expr_logic.j0 k a0 true a1_0 a1_1 a1_2 a2_0 a2_1 a2_2 bt198.1 bt198.2.1 bt198.2.2) else (expr_logic.j0 k a0 (a2_0 == bt198.1 && (a2_1 == bt198.2.1 && (a2_2.toList == bt198.2.2.toList))) a1_0 a1_1 a1_2 a2_0 a2_1 a2_2 bt198.1 bt198.2.1 bt198.2.2))) = some (r1, r2, r3) := h
  clear h
  replace H := Option.bind_eq_some_iff.mp H
  obtain ⟨⟨t198, t199, t200⟩, A40, H⟩ := H
  replace H : (if (a1_0 == t198 && (a1_1 == t199 && (a1_2.toList == t200.toList))) = true then (expr_logic.j0 k a0 true a1_0 a1_1 a1_2 a2_0 a2_1 a2_2 t198 t199 t200) else (expr_logic.j0 k a0 (a2_0 == t198 && (a2_1 == t199 && (a2_2.toList == t200.toList))) a1_0 a1_1 a1_2 a2_0 a2_1 a2_2 t198 t199 t200)) = some (r1, r2, r3) := H
  have A4 := Aside0.mk A40
  clear A40
  have HC5 := Aside0.mk H
  clear H
  go_enter Tryd.func34, Tryd.ntmps34
  go_upto_region 2 with (first | ((with_reducible refine gate_dst (N := 4) rfl ?_); refine box_event ?hg (N := 4) ?hd (cs := #[.int .i64 a1_0, .int .i64 a1_1, .string a1_2]) (t := 31) ?hr ?_; (case hd => rfl); (case hg => rfl); (case hr => first | (go_simp; done) | (go_simp; rfl)); intro gb195 hg w6 hbox hb; have n0_ := Aside0.mk (below_step q0_ hb); have n1_ := Aside0.mk (hbox); have n2_ := Aside0.mk ((q1_ : w.heap.size ≤ gb195)); have n3_ := Aside0.mk ((q1_ : w.heap.size ≤ gb195)); clear HB; have HB := n0_; have BK195 := n1_; have GW195 := n2_; have GE195 := n3_; clear n0_ n1_ n2_ n3_; clear hb hbox hg) | ((with_reducible refine gate_dst (N := 5) rfl ?_); refine box_event ?hg (N := 5) ?hd (cs := #[.int .i64 a2_0, .int .i64 a2_1, .string a2_2]) (t := 31) ?hr ?_; (case hd => rfl); (case hg => rfl); (case hr => first | (go_simp; done) | (go_simp; rfl)); intro gb196 hg w7 hbox hb; have n0_ := Aside0.mk (blk_below (g := gb195) (o := .cells #[.int .i64 a1_0, .int .i64 a1_1, .string a1_2] 31 (0, 0)) q84_ hb); have n1_ := Aside0.mk (below_step q0_ hb); have n2_ := Aside0.mk (hbox); have n3_ := Aside0.mk ((q1_ : w.heap.size ≤ gb196)); have n4_ := Aside0.mk ((q1_ : w.heap.size ≤ gb196)); have n5_ := Aside0.mk ((q115_ : gb195 ≠ gb196)); have n6_ := Aside0.mk ((q119_ : gb196 ≠ gb195)); clear BK195; clear HB; have BK195 := n0_; have HB := n1_; have BK196 := n2_; have GW196 := n3_; have GE196 := n4_; have NB195_196 := n5_; have NB196_195 := n6_; clear n0_ n1_ n2_ n3_ n4_ n5_ n6_; clear hb hbox hg) | ((with_reducible refine gate_dst (N := 6) rfl ?_); refine box_event ?hg (N := 6) ?hd (cs := #[.int .i64 0, .int .i64 0, .string (⟨#[]⟩ : ByteArray)]) (t := 31) ?hr ?_; (case hd => rfl); (case hg => rfl); (case hr => first | (go_simp; done) | (go_simp; rfl)); intro gb197 hg w8 hbox hb; have n0_ := Aside0.mk (blk_below (g := gb195) (o := .cells #[.int .i64 a1_0, .int .i64 a1_1, .string a1_2] 31 (0, 0)) q84_ hb); have n1_ := Aside0.mk (blk_below (g := gb196) (o := .cells #[.int .i64 a2_0, .int .i64 a2_1, .string a2_2] 31 (0, 0)) q107_ hb); have n2_ := Aside0.mk (below_step q0_ hb); have n3_ := Aside0.mk (hbox); have n4_ := Aside0.mk ((q1_ : w.heap.size ≤ gb197)); have n5_ := Aside0.mk ((q1_ : w.heap.size ≤ gb197)); have n6_ := Aside0.mk ((q115_ : gb195 ≠ gb197)); have n7_ := Aside0.mk ((q119_ : gb197 ≠ gb195)); have n8_ := Aside0.mk ((q181_ : gb196 ≠ gb197)); have n9_ := Aside0.mk ((q184_ : gb197 ≠ gb196)); clear BK195; clear BK196; clear HB; have BK195 := n0_; have BK196 := n1_; have HB := n2_; have BK197 := n3_; have GW197 := n4_; have GE197 := n5_; have NB195_197 := n6_; have NB197_195 := n7_; have NB196_197 := n8_; have NB197_196 := n9_; clear n0_ n1_ n2_ n3_ n4_ n5_ n6_ n7_ n8_ n9_; clear hb hbox hg) | ((with_reducible refine gate_callee (f := 26) rfl ?_); refine goesL_ (some 10) rfl rfl Tryd.func26 (by kernel_rfl) rfl #[.bool (a0 == 14)] rfl q2_ ?_; (with_reducible refine (expr_truth.calls (a0 == 14) t198 t199 t200 _ A4.out).mono ?_); rintro e w9 ⟨rfl, hb⟩; refine ⟨_, rfl, ?_⟩; have n0_ := Aside0.mk (blk_below (g := gb195) (o := .cells #[.int .i64 a1_0, .int .i64 a1_1, .string a1_2] 31 (0, 0)) q84_ hb); have n1_ := Aside0.mk (blk_below (g := gb196) (o := .cells #[.int .i64 a2_0, .int .i64 a2_1, .string a2_2] 31 (0, 0)) q107_ hb); have n2_ := Aside0.mk (blk_below (g := gb197) (o := .cells #[.int .i64 0, .int .i64 0, .string (⟨#[]⟩ : ByteArray)] 31 (0, 0)) q144_ hb); have n3_ := Aside0.mk (below_step q0_ hb); clear BK195; clear BK196; clear BK197; clear HB; have BK195 := n0_; have BK196 := n1_; have BK197 := n2_; have HB := n3_; clear n0_ n1_ n2_ n3_; (try clear hb); (try clear hb2); (try clear hk); (try clear hi)) | ((with_reducible refine gate_dst (N := 7) rfl ?_); refine box_event ?hg (N := 7) ?hd (cs := #[.int .i64 0, .int .i64 0, .string (⟨#[]⟩ : ByteArray)]) (t := 31) ?hr ?_; (case hd => rfl); (case hg => rfl); (case hr => first | (go_simp; done) | (go_simp; rfl)); intro gb201 hg w10 hbox hb; have n0_ := Aside0.mk (blk_below (g := gb195) (o := .cells #[.int .i64 a1_0, .int .i64 a1_1, .string a1_2] 31 (0, 0)) q84_ hb); have n1_ := Aside0.mk (blk_below (g := gb196) (o := .cells #[.int .i64 a2_0, .int .i64 a2_1, .string a2_2] 31 (0, 0)) q107_ hb); have n2_ := Aside0.mk (blk_below (g := gb197) (o := .cells #[.int .i64 0, .int .i64 0, .string (⟨#[]⟩ : ByteArray)] 31 (0, 0)) q144_ hb); have n3_ := Aside0.mk (below_step q0_ hb); have n4_ := Aside0.mk (hbox); have n5_ := Aside0.mk ((q1_ : w.heap.size ≤ gb201)); have n6_ := Aside0.mk ((q1_ : w.heap.size ≤ gb201)); have n7_ := Aside0.mk ((q115_ : gb195 ≠ gb201)); have n8_ := Aside0.mk ((q119_ : gb201 ≠ gb195)); have n9_ := Aside0.mk ((q181_ : gb196 ≠ gb201)); have n10_ := Aside0.mk ((q184_ : gb201 ≠ gb196)); have n11_ := Aside0.mk ((by rw [hg]; exact Nat.ne_of_lt (blk_lt (g := gb197) (o := .cells #[.int .i64 0, .int .i64 0, .string (⟨#[]⟩ : ByteArray)] 31 (0, 0)) q144_) : gb197 ≠ gb201)); have n12_ := Aside0.mk ((by rw [hg]; exact Nat.ne_of_gt (blk_lt (g := gb197) (o := .cells #[.int .i64 0, .int .i64 0, .string (⟨#[]⟩ : ByteArray)] 31 (0, 0)) q144_) : gb201 ≠ gb197)); clear BK195; clear BK196; clear BK197; clear HB; have BK195 := n0_; have BK196 := n1_; have BK197 := n2_; have HB := n3_; have BK201 := n4_; have GW201 := n5_; have GE201 := n6_; have NB195_201 := n7_; have NB201_195 := n8_; have NB196_201 := n9_; have NB201_196 := n10_; have NB197_201 := n11_; have NB201_197 := n12_; clear n0_ n1_ n2_ n3_ n4_ n5_ n6_ n7_ n8_ n9_ n10_ n11_ n12_; clear hb hbox hg; have hnb11 := NB201_195.out; have hnc11 := NB195_201.out; have hnb12 := NB201_196.out; have hnc12 := NB196_201.out; have hnb13 := NB201_197.out; have hnc13 := NB197_201.out; have hcz14_0 : w10.cell? ⟨gb201, 0, none⟩ = some (.int .i64 0) := (blk_cell BK201.out 0).trans rfl; have hcz14_1 : w10.cell? ⟨gb201, 1, none⟩ = some (.int .i64 0) := (blk_cell BK201.out 1).trans rfl; have hcz14_2 : w10.cell? ⟨gb201, 2, none⟩ = some (.string (⟨#[]⟩ : ByteArray)) := (blk_cell BK201.out 2).trans rfl; have hfz14_0 := blk_frozen BK201.out 0; have hfz14_1 := blk_frozen BK201.out 1; have hfz14_2 := blk_frozen BK201.out 2))
  (try simp only [Act.put, List.setIfInBounds_toArray, List.set_cons_zero, List.set_cons_succ])
  go_cut [11] (fun v11 wc => ∃ (kq : Nat) (x11_4 : Bool), v11 = .bool x11_4 ∧ Aside0 (expr_logic.j0 kq a0 x11_4 a1_0 a1_1 a1_2 a2_0 a2_1 a2_2 t198 t199 t200 = some (r1, r2, r3)) ∧ Aside0 (kq ≤ k) ∧ Aside0 (wc.heap[gb195]? = some (.cells #[.int .i64 a1_0, .int .i64 a1_1, .string a1_2] 31 (0, 0))) ∧ Aside0 (wc.heap[gb196]? = some (.cells #[.int .i64 a2_0, .int .i64 a2_1, .string a2_2] 31 (0, 0))) ∧ Aside0 (wc.heap[gb197]? = some (.cells #[.int .i64 0, .int .i64 0, .string (⟨#[]⟩ : ByteArray)] 31 (0, 0))) ∧ Aside0 (wc.heap[gb201]? = some (.cells #[.int .i64 t198, .int .i64 t199, .string t200] 31 (0, 0))) ∧ Aside0 (Below w.heap.size w wc))
  case first =>
    have H := HC5.out
    clear HC5
    by_cases c15 : (a1_0 == t198 && (a1_1 == t199 && (a1_2.toList == t200.toList))) = true
    · rw [if_pos c15] at H
      have c15b0 : (a1_0 == t198 && (a1_1 == t199 && (a1_2.toList == t200.toList))) = true := c15
      (try (have c15b1 : decide (a1_0 = t198 && (a1_1 == t199 && (a1_2.toList == t200.toList))) = true := by simpa using c15))
      (try (have c15b2 : (a1_0 == t198 && (a1_1 == t199 && (a1_2.toList == t200.toList))) = true := by simpa using c15))
      clear c15
      (first | (rw [c15b0]; try simp only [c15b0] at *) | (simp only [i64_w, i32_w]; rw [c15b0]) | skip)
      have H' := Aside0.mk H
      clear H
      have hnb16 := NB195_196.out
      have hnc16 := NB196_195.out
      have hnb17 := NB195_197.out
      have hnc17 := NB197_195.out
      have hnb18 := NB195_201.out
      have hnc18 := NB201_195.out
      have hcz19_0 : w10.cell? ⟨gb195, 0, none⟩ = some (.int .i64 a1_0) := (blk_cell BK195.out 0).trans rfl
      have hcz19_1 : w10.cell? ⟨gb195, 1, none⟩ = some (.int .i64 a1_1) := (blk_cell BK195.out 1).trans rfl
      have hcz19_2 : w10.cell? ⟨gb195, 2, none⟩ = some (.string a1_2) := (blk_cell BK195.out 2).trans rfl
      have hfz19_0 := blk_frozen BK195.out 0
      have hfz19_1 := blk_frozen BK195.out 1
      have hfz19_2 := blk_frozen BK195.out 2
      have hnb20 := NB201_196.out
      have hnc20 := NB196_201.out
      have hnb21 := NB201_197.out
      have hnc21 := NB197_201.out
      have hcz22_0 : w10.cell? ⟨gb201, 0, none⟩ = some (.int .i64 0) := (blk_cell BK201.out 0).trans rfl
      have hcz22_1 : w10.cell? ⟨gb201, 1, none⟩ = some (.int .i64 0) := (blk_cell BK201.out 1).trans rfl
      have hcz22_2 : w10.cell? ⟨gb201, 2, none⟩ = some (.string (⟨#[]⟩ : ByteArray)) := (blk_cell BK201.out 2).trans rfl
      have hfz22_0 := blk_frozen BK201.out 0
      have hfz22_1 := blk_frozen BK201.out 1
      have hfz22_2 := blk_frozen BK201.out 2
      go_wp2
      go_meet
      case rel => exact ⟨_, (true), q7_, H', ⟨by first | omega | exact Nat.le_refl _⟩, ⟨q139_⟩, ⟨q138_⟩, ⟨q137_⟩, ⟨q105_⟩, ⟨q0_⟩⟩
    · rw [if_neg c15] at H
      have c15b0 : (a1_0 == t198 && (a1_1 == t199 && (a1_2.toList == t200.toList))) = false := by simpa using c15
      (try (have c15b1 : decide (a1_0 = t198 && (a1_1 == t199 && (a1_2.toList == t200.toList))) = false := by simpa using c15))
      (try (have c15b2 : (a1_0 == t198 && (a1_1 == t199 && (a1_2.toList == t200.toList))) = false := by simpa using c15))
      (try (have c15b3 : ¬ (a1_0 = t198 && (a1_1 == t199 && (a1_2.toList == t200.toList))) := by simpa using c15))
      clear c15
      (first | (rw [c15b0]; try simp only [c15b0] at *) | (simp only [i64_w, i32_w]; rw [c15b0]) | skip)
      have H' := Aside0.mk H
      clear H
      have hnb23 := NB195_196.out
      have hnc23 := NB196_195.out
      have hnb24 := NB195_197.out
      have hnc24 := NB197_195.out
      have hnb25 := NB195_201.out
      have hnc25 := NB201_195.out
      have hcz26_0 : w10.cell? ⟨gb195, 0, none⟩ = some (.int .i64 a1_0) := (blk_cell BK195.out 0).trans rfl
      have hcz26_1 : w10.cell? ⟨gb195, 1, none⟩ = some (.int .i64 a1_1) := (blk_cell BK195.out 1).trans rfl
      have hcz26_2 : w10.cell? ⟨gb195, 2, none⟩ = some (.string a1_2) := (blk_cell BK195.out 2).trans rfl
      have hfz26_0 := blk_frozen BK195.out 0
      have hfz26_1 := blk_frozen BK195.out 1
      have hfz26_2 := blk_frozen BK195.out 2
      have hnb27 := NB201_196.out
      have hnc27 := NB196_201.out
      have hnb28 := NB201_197.out
      have hnc28 := NB197_201.out
      have hcz29_0 : w10.cell? ⟨gb201, 0, none⟩ = some (.int .i64 0) := (blk_cell BK201.out 0).trans rfl
      have hcz29_1 : w10.cell? ⟨gb201, 1, none⟩ = some (.int .i64 0) := (blk_cell BK201.out 1).trans rfl
      have hcz29_2 : w10.cell? ⟨gb201, 2, none⟩ = some (.string (⟨#[]⟩ : ByteArray)) := (blk_cell BK201.out 2).trans rfl
      have hfz29_0 := blk_frozen BK201.out 0
      have hfz29_1 := blk_frozen BK201.out 1
      have hfz29_2 := blk_frozen BK201.out 2
      have hnb30 := NB196_197.out
      have hnc30 := NB197_196.out
      have hcz31_0 : w10.cell? ⟨gb196, 0, none⟩ = some (.int .i64 a2_0) := (blk_cell BK196.out 0).trans rfl
      have hcz31_1 : w10.cell? ⟨gb196, 1, none⟩ = some (.int .i64 a2_1) := (blk_cell BK196.out 1).trans rfl
      have hcz31_2 : w10.cell? ⟨gb196, 2, none⟩ = some (.string a2_2) := (blk_cell BK196.out 2).trans rfl
      have hfz31_0 := blk_frozen BK196.out 0
      have hfz31_1 := blk_frozen BK196.out 1
      have hfz31_2 := blk_frozen BK196.out 2
      go_wp2
      go_meet
      case rel => exact ⟨_, ((a2_0 == t198 && (a2_1 == t199 && (a2_2.toList == t200.toList)))), q7_, H', ⟨by first | omega | exact Nat.le_refl _⟩, ⟨q139_⟩, ⟨q138_⟩, ⟨q137_⟩, ⟨q105_⟩, ⟨q0_⟩⟩
  case rest =>
    clear HC5
    try clear c1
    try clear c2
    try clear p2
    try clear c3
    try clear c11
    try clear c12
    try clear c13
    try clear c15
    try clear c15b0
    try clear c15b1
    try clear c15b2
    try clear c16
    try clear c17
    try clear c18
    try clear c20
    try clear c21
    try clear c23
    try clear c24
    try clear c25
    try clear c26
    try clear c27
    try clear c28
    try clear c30
    try clear hcz14_0
    try clear hcz14_1
    try clear hcz14_2
    try clear hcz19_0
    try clear hcz19_1
    try clear hcz19_2
    try clear hcz22_0
    try clear hcz22_1
    try clear hcz22_2
    try clear hcz26_0
    try clear hcz26_1
    try clear hcz26_2
    try clear hcz29_0
    try clear hcz29_1
    try clear hcz29_2
    try clear hcz31_0
    try clear hcz31_1
    try clear hcz31_2
    try clear hfz14_0
    try clear hfz14_1
    try clear hfz14_2
    try clear hfz19_0
    try clear hfz19_1
    try clear hfz19_2
    try clear hfz22_0
    try clear hfz22_1
    try clear hfz22_2
    try clear hfz26_0
    try clear hfz26_1
    try clear hfz26_2
    try clear hfz29_0
    try clear hfz29_1
    try clear hfz29_2
    try clear hfz31_0
    try clear hfz31_1
    try clear hfz31_2
    obtain ⟨kq, x11_4, rfl, HA, HJ4, BK195, BK196, BK197, BK201, HB⟩ := hcut
    cases kq with
    | zero => exact absurd HA.out (by simp [expr_logic.j0])
    | succ kj4 =>
      have H := HA.out
      clear HA
      simp only [expr_logic.j0] at H
      by_cases c32 : x11_4 = true
      · subst c32
        replace H := ifT_ H
        simp only [Option.some.injEq, Prod.mk.injEq] at H
        obtain ⟨rfl, rfl, rfl⟩ := H
        have hnb33 := NB201_195.out
        have hnc33 := NB195_201.out
        have hnb34 := NB201_196.out
        have hnc34 := NB196_201.out
        have hnb35 := NB201_197.out
        have hnc35 := NB197_201.out
        have hcz36_0 : wc.cell? ⟨gb201, 0, none⟩ = some (.int .i64 t198) := (blk_cell BK201.out 0).trans rfl
        have hcz36_1 : wc.cell? ⟨gb201, 1, none⟩ = some (.int .i64 t199) := (blk_cell BK201.out 1).trans rfl
        have hcz36_2 : wc.cell? ⟨gb201, 2, none⟩ = some (.string t200) := (blk_cell BK201.out 2).trans rfl
        have hfz36_0 := blk_frozen BK201.out 0
        have hfz36_1 := blk_frozen BK201.out 1
        have hfz36_2 := blk_frozen BK201.out 2
        have hnb37 := NB197_195.out
        have hnc37 := NB195_197.out
        have hnb38 := NB197_196.out
        have hnc38 := NB196_197.out
        have hcz39_0 : wc.cell? ⟨gb197, 0, none⟩ = some (.int .i64 0) := (blk_cell BK197.out 0).trans rfl
        have hcz39_1 : wc.cell? ⟨gb197, 1, none⟩ = some (.int .i64 0) := (blk_cell BK197.out 1).trans rfl
        have hcz39_2 : wc.cell? ⟨gb197, 2, none⟩ = some (.string (⟨#[]⟩ : ByteArray)) := (blk_cell BK197.out 2).trans rfl
        have hfz39_0 := blk_frozen BK197.out 0
        have hfz39_1 := blk_frozen BK197.out 1
        have hfz39_2 := blk_frozen BK197.out 2
        go_wp2
        refine bodyPost_ret (results_cell_row rfl _ _ gb197 31 #[.int .i64 t198, .int .i64 t199, .string t200] (0, 0) _ rfl (by (with_reducible repeat first | apply bN_ | apply bD_ | apply bA_); refine blk_put (cs := #[.int .i64 t198, .int .i64 t199, .string (⟨#[]⟩ : ByteArray)]) ?_ 2 _ rfl; (with_reducible repeat first | apply bN_ | apply bD_ | apply bA_); refine blk_put (cs := #[.int .i64 t198, .int .i64 0, .string (⟨#[]⟩ : ByteArray)]) ?_ 1 _ rfl; (with_reducible repeat first | apply bN_ | apply bD_ | apply bA_); refine blk_put (cs := #[.int .i64 0, .int .i64 0, .string (⟨#[]⟩ : ByteArray)]) ?_ 0 _ rfl; (with_reducible repeat first | apply bN_ | apply bD_ | apply bA_); exact BK197.out) Tryd.underlying31 rfl (by kernel_rfl)) rfl ?_
        exact ⟨q4_, q0_⟩
      · replace c32 := Bool.eq_false_iff.mpr c32
        subst c32
        replace H := ifF_ H
        by_cases c40 : a1_0 = 0
        · rw [if_pos c40] at H
          have c40b0 : (a1_0 == 0) = true := beq_iff_eq.mpr c40
          have c40b1 : (a1_0 != 0) = false := bne_eq_false_iff_eq.mpr c40
          clear c40
          simp only [Option.some.injEq, Prod.mk.injEq] at H
          obtain ⟨rfl, rfl, rfl⟩ := H
          have hnb41 := NB195_196.out
          have hnc41 := NB196_195.out
          have hnb42 := NB195_197.out
          have hnc42 := NB197_195.out
          have hnb43 := NB195_201.out
          have hnc43 := NB201_195.out
          have hcz44_0 : wc.cell? ⟨gb195, 0, none⟩ = some (.int .i64 a1_0) := (blk_cell BK195.out 0).trans rfl
          have hcz44_1 : wc.cell? ⟨gb195, 1, none⟩ = some (.int .i64 a1_1) := (blk_cell BK195.out 1).trans rfl
          have hcz44_2 : wc.cell? ⟨gb195, 2, none⟩ = some (.string a1_2) := (blk_cell BK195.out 2).trans rfl
          have hfz44_0 := blk_frozen BK195.out 0
          have hfz44_1 := blk_frozen BK195.out 1
          have hfz44_2 := blk_frozen BK195.out 2
          have hnb45 := NB197_196.out
          have hnc45 := NB196_197.out
          have hnb46 := NB197_201.out
          have hnc46 := NB201_197.out
          have hcz47_0 : wc.cell? ⟨gb197, 0, none⟩ = some (.int .i64 0) := (blk_cell BK197.out 0).trans rfl
          have hcz47_1 : wc.cell? ⟨gb197, 1, none⟩ = some (.int .i64 0) := (blk_cell BK197.out 1).trans rfl
          have hcz47_2 : wc.cell? ⟨gb197, 2, none⟩ = some (.string (⟨#[]⟩ : ByteArray)) := (blk_cell BK197.out 2).trans rfl
          have hfz47_0 := blk_frozen BK197.out 0
          have hfz47_1 := blk_frozen BK197.out 1
          have hfz47_2 := blk_frozen BK197.out 2
          go_wp2
          refine bodyPost_ret (results_cell_row rfl _ _ gb197 31 #[.int .i64 0, .int .i64 0, .string (⟨#[]⟩ : ByteArray)] (0, 0) _ rfl q106_ Tryd.underlying31 rfl (by kernel_rfl)) rfl ?_
          exact ⟨q4_, q0_⟩
        · rw [if_neg c40] at H
          have c40b0 : (a1_0 == 0) = false := beq_eq_false_iff_ne.mpr c40
          have c40b1 : (a1_0 != 0) = true := bne_iff_ne.mpr c40
          by_cases c48 : a2_0 = 0
          · rw [if_pos c48] at H
            have c48b0 : (a2_0 == 0) = true := beq_iff_eq.mpr c48
            have c48b1 : (a2_0 != 0) = false := bne_eq_false_iff_eq.mpr c48
            clear c48
            simp only [Option.some.injEq, Prod.mk.injEq] at H
            obtain ⟨rfl, rfl, rfl⟩ := H
            have hnb49 := NB195_196.out
            have hnc49 := NB196_195.out
            have hnb50 := NB195_197.out
            have hnc50 := NB197_195.out
            have hnb51 := NB195_201.out
            have hnc51 := NB201_195.out
            have hcz52_0 : wc.cell? ⟨gb195, 0, none⟩ = some (.int .i64 a1_0) := (blk_cell BK195.out 0).trans rfl
            have hcz52_1 : wc.cell? ⟨gb195, 1, none⟩ = some (.int .i64 a1_1) := (blk_cell BK195.out 1).trans rfl
            have hcz52_2 : wc.cell? ⟨gb195, 2, none⟩ = some (.string a1_2) := (blk_cell BK195.out 2).trans rfl
            have hfz52_0 := blk_frozen BK195.out 0
            have hfz52_1 := blk_frozen BK195.out 1
            have hfz52_2 := blk_frozen BK195.out 2
            have hnb53 := NB196_197.out
            have hnc53 := NB197_196.out
            have hnb54 := NB196_201.out
            have hnc54 := NB201_196.out
            have hcz55_0 : wc.cell? ⟨gb196, 0, none⟩ = some (.int .i64 a2_0) := (blk_cell BK196.out 0).trans rfl
            have hcz55_1 : wc.cell? ⟨gb196, 1, none⟩ = some (.int .i64 a2_1) := (blk_cell BK196.out 1).trans rfl
            have hcz55_2 : wc.cell? ⟨gb196, 2, none⟩ = some (.string a2_2) := (blk_cell BK196.out 2).trans rfl
            have hfz55_0 := blk_frozen BK196.out 0
            have hfz55_1 := blk_frozen BK196.out 1
            have hfz55_2 := blk_frozen BK196.out 2
            have hnb56 := NB197_201.out
            have hnc56 := NB201_197.out
            have hcz57_0 : wc.cell? ⟨gb197, 0, none⟩ = some (.int .i64 0) := (blk_cell BK197.out 0).trans rfl
            have hcz57_1 : wc.cell? ⟨gb197, 1, none⟩ = some (.int .i64 0) := (blk_cell BK197.out 1).trans rfl
            have hcz57_2 : wc.cell? ⟨gb197, 2, none⟩ = some (.string (⟨#[]⟩ : ByteArray)) := (blk_cell BK197.out 2).trans rfl
            have hfz57_0 := blk_frozen BK197.out 0
            have hfz57_1 := blk_frozen BK197.out 1
            have hfz57_2 := blk_frozen BK197.out 2
            go_wp2
            refine bodyPost_ret (results_cell_row rfl _ _ gb197 31 #[.int .i64 0, .int .i64 0, .string (⟨#[]⟩ : ByteArray)] (0, 0) _ rfl q106_ Tryd.underlying31 rfl (by kernel_rfl)) rfl ?_
            exact ⟨q4_, q0_⟩
          · rw [if_neg c48] at H
            have c48b0 : (a2_0 == 0) = false := beq_eq_false_iff_ne.mpr c48
            have c48b1 : (a2_0 != 0) = true := bne_iff_ne.mpr c48
            replace H := Option.bind_eq_some_iff.mp H
            obtain ⟨⟨t202, t203, t204⟩, A580, H⟩ := H
            replace H : (some (t202, t203, t204)) = some (r1, r2, r3) := H
            have A58 := Aside0.mk A580
            clear A580
            simp only [Option.some.injEq, Prod.mk.injEq] at H
            obtain ⟨rfl, rfl, rfl⟩ := H
            have hnb59 := NB195_196.out
            have hnc59 := NB196_195.out
            have hnb60 := NB195_197.out
            have hnc60 := NB197_195.out
            have hnb61 := NB195_201.out
            have hnc61 := NB201_195.out
            have hcz62_0 : wc.cell? ⟨gb195, 0, none⟩ = some (.int .i64 a1_0) := (blk_cell BK195.out 0).trans rfl
            have hcz62_1 : wc.cell? ⟨gb195, 1, none⟩ = some (.int .i64 a1_1) := (blk_cell BK195.out 1).trans rfl
            have hcz62_2 : wc.cell? ⟨gb195, 2, none⟩ = some (.string a1_2) := (blk_cell BK195.out 2).trans rfl
            have hfz62_0 := blk_frozen BK195.out 0
            have hfz62_1 := blk_frozen BK195.out 1
            have hfz62_2 := blk_frozen BK195.out 2
            have hnb63 := NB196_197.out
            have hnc63 := NB197_196.out
            have hnb64 := NB196_201.out
            have hnc64 := NB201_196.out
            have hcz65_0 : wc.cell? ⟨gb196, 0, none⟩ = some (.int .i64 a2_0) := (blk_cell BK196.out 0).trans rfl
            have hcz65_1 : wc.cell? ⟨gb196, 1, none⟩ = some (.int .i64 a2_1) := (blk_cell BK196.out 1).trans rfl
            have hcz65_2 : wc.cell? ⟨gb196, 2, none⟩ = some (.string a2_2) := (blk_cell BK196.out 2).trans rfl
            have hfz65_0 := blk_frozen BK196.out 0
            have hfz65_1 := blk_frozen BK196.out 1
            have hfz65_2 := blk_frozen BK196.out 2
            go_wp2_with (first | ((with_reducible refine gate_callee (f := 26) rfl ?_); refine goesL_ (some 33) rfl rfl Tryd.func26 (by kernel_rfl) rfl #[.bool (a0 == 13)] rfl q2_ ?_; (with_reducible refine (expr_truth.calls (a0 == 13) t202 t203 t204 _ A58.out).mono ?_); rintro e w66 ⟨rfl, hb⟩; refine ⟨_, rfl, ?_⟩; have n0_ := Aside0.mk (blk_below (g := gb195) (o := .cells #[.int .i64 a1_0, .int .i64 a1_1, .string a1_2] 31 (0, 0)) q84_ hb); have n1_ := Aside0.mk (blk_below (g := gb196) (o := .cells #[.int .i64 a2_0, .int .i64 a2_1, .string a2_2] 31 (0, 0)) q107_ hb); have n2_ := Aside0.mk (blk_below (g := gb197) (o := .cells #[.int .i64 0, .int .i64 0, .string (⟨#[]⟩ : ByteArray)] 31 (0, 0)) q144_ hb); have n3_ := Aside0.mk (blk_below (g := gb201) (o := .cells #[.int .i64 t198, .int .i64 t199, .string t200] 31 (0, 0)) (by (with_reducible repeat first | apply bN_ | apply bD_ | apply bA_); exact BK201.out) hb); have n4_ := Aside0.mk (below_step q0_ hb); clear BK195; clear BK196; clear BK197; clear BK201; clear HB; have BK195 := n0_; have BK196 := n1_; have BK197 := n2_; have BK201 := n3_; have HB := n4_; clear n0_ n1_ n2_ n3_ n4_; (try clear hb); (try clear hb2); (try clear hk); (try clear hi); have hnb67 := NB197_201.out; have hnc67 := NB201_197.out; have hcz68_0 : w66.cell? ⟨gb197, 0, none⟩ = some (.int .i64 0) := (blk_cell BK197.out 0).trans rfl; have hcz68_1 : w66.cell? ⟨gb197, 1, none⟩ = some (.int .i64 0) := (blk_cell BK197.out 1).trans rfl; have hcz68_2 : w66.cell? ⟨gb197, 2, none⟩ = some (.string (⟨#[]⟩ : ByteArray)) := (blk_cell BK197.out 2).trans rfl; have hfz68_0 := blk_frozen BK197.out 0; have hfz68_1 := blk_frozen BK197.out 1; have hfz68_2 := blk_frozen BK197.out 2))
            refine bodyPost_ret (results_cell_row rfl _ _ gb197 31 #[.int .i64 t202, .int .i64 t203, .string t204] (0, 0) _ rfl (by (with_reducible repeat first | apply bN_ | apply bD_ | apply bA_); refine blk_put (cs := #[.int .i64 t202, .int .i64 t203, .string (⟨#[]⟩ : ByteArray)]) ?_ 2 _ rfl; (with_reducible repeat first | apply bN_ | apply bD_ | apply bA_); refine blk_put (cs := #[.int .i64 t202, .int .i64 0, .string (⟨#[]⟩ : ByteArray)]) ?_ 1 _ rfl; (with_reducible repeat first | apply bN_ | apply bD_ | apply bA_); refine blk_put (cs := #[.int .i64 0, .int .i64 0, .string (⟨#[]⟩ : ByteArray)]) ?_ 0 _ rfl; (with_reducible repeat first | apply bN_ | apply bD_ | apply bA_); exact BK197.out) Tryd.underlying31 rfl (by kernel_rfl)) rfl ?_
            exact ⟨q4_, q0_⟩


/-! ### expr_compare: function 35 -/
def expr_compare.f (a0 : Int) (a1 : Int) : Option (Bool) := if a0 = 7 then (some (a1 == 0)) else (if a0 = 8 then (some (a1 != 0)) else (if a0 = 9 then (some (decide (a1 < 0))) else (if a0 = 10 then (some (decide (a1 ≤ 0))) else (if a0 = 11 then (some (decide (a1 > 0))) else (some (decide (a1 ≥ 0)))))))
set_option maxHeartbeats 8000000 in
set_option maxRecDepth 100000 in
theorem expr_compare.calls (a0 : Int) (a1 : Int) (r : Bool) (w : World) (h : expr_compare.f a0 a1 = some r) :
    Calls Tryd.prog 35 #[.int .i64 a0, .int .i64 a1] w fun e w' => e = .returned (.bool r) ∧ Drawn0 w w' := by
  have H : (if a0 = 7 then (some (a1 == 0)) else (if a0 = 8 then (some (a1 != 0)) else (if a0 = 9 then (some (decide (a1 < 0))) else (if a0 = 10 then (some (decide (a1 ≤ 0))) else (if a0 = 11 then (some (decide (a1 > 0))) else (some (decide (a1 ≥ 0)))))))) = some r := h
  clear h
  by_cases c3 : a0 = 7
  · rw [if_pos c3] at H
    have c3b0 : (a0 == 7) = true := beq_iff_eq.mpr c3
    have c3b1 : (a0 != 7) = false := bne_eq_false_iff_eq.mpr c3
    clear c3
    obtain rfl := Option.some.inj H
    go_enter Tryd.func35, Tryd.ntmps35
    go_wp2
    go_ret
    exact ⟨q7_, q12_⟩
  · rw [if_neg c3] at H
    have c3b0 : (a0 == 7) = false := beq_eq_false_iff_ne.mpr c3
    have c3b1 : (a0 != 7) = true := bne_iff_ne.mpr c3
    by_cases c4 : a0 = 8
    · rw [if_pos c4] at H
      have c4b0 : (a0 == 8) = true := beq_iff_eq.mpr c4
      have c4b1 : (a0 != 8) = false := bne_eq_false_iff_eq.mpr c4
      clear c4
      obtain rfl := Option.some.inj H
      go_enter Tryd.func35, Tryd.ntmps35
      go_wp2
      go_ret
      exact ⟨q7_, q12_⟩
    · rw [if_neg c4] at H
      have c4b0 : (a0 == 8) = false := beq_eq_false_iff_ne.mpr c4
      have c4b1 : (a0 != 8) = true := bne_iff_ne.mpr c4
      by_cases c5 : a0 = 9
      · rw [if_pos c5] at H
        have c5b0 : (a0 == 9) = true := beq_iff_eq.mpr c5
        have c5b1 : (a0 != 9) = false := bne_eq_false_iff_eq.mpr c5
        clear c5
        obtain rfl := Option.some.inj H
        go_enter Tryd.func35, Tryd.ntmps35
        go_wp2
        go_ret
        exact ⟨q7_, q12_⟩
      · rw [if_neg c5] at H
        have c5b0 : (a0 == 9) = false := beq_eq_false_iff_ne.mpr c5
        have c5b1 : (a0 != 9) = true := bne_iff_ne.mpr c5
        by_cases c6 : a0 = 10
        · rw [if_pos c6] at H
          have c6b0 : (a0 == 10) = true := beq_iff_eq.mpr c6
          have c6b1 : (a0 != 10) = false := bne_eq_false_iff_eq.mpr c6
          clear c6
          obtain rfl := Option.some.inj H
          go_enter Tryd.func35, Tryd.ntmps35
          go_wp2
          go_ret
          exact ⟨q7_, q12_⟩
        · rw [if_neg c6] at H
          have c6b0 : (a0 == 10) = false := beq_eq_false_iff_ne.mpr c6
          have c6b1 : (a0 != 10) = true := bne_iff_ne.mpr c6
          by_cases c7 : a0 = 11
          · rw [if_pos c7] at H
            have c7b0 : (a0 == 11) = true := beq_iff_eq.mpr c7
            have c7b1 : (a0 != 11) = false := bne_eq_false_iff_eq.mpr c7
            clear c7
            obtain rfl := Option.some.inj H
            go_enter Tryd.func35, Tryd.ntmps35
            go_wp2
            go_ret
            exact ⟨q7_, q12_⟩
          · rw [if_neg c7] at H
            have c7b0 : (a0 == 11) = false := beq_eq_false_iff_ne.mpr c7
            have c7b1 : (a0 != 11) = true := bne_iff_ne.mpr c7
            obtain rfl := Option.some.inj H
            go_enter Tryd.func35, Tryd.ntmps35
            go_wp2
            go_ret
            exact ⟨q7_, q12_⟩


/-! ### cmp_Or_int: function 40 -/
def cmp_Or_int.l0 : Nat → Int → List Int → Int → Int → Option (Int)
  | 0, _, _, _, _ => none
  | k + 1, x3, x6, x7, x8 => if x8 < x7 then (if 0 ≤ x8 then (if x8 < (x6.length : Int) then (if (rd x6 x8) = x3 then (cmp_Or_int.l0 k x3 x6 x7 (wrap64 (x8 + 1))) else (some (rd x6 x8))) else (none)) else (none)) else (some x3)
def cmp_Or_int.f (k : Nat) (l0 : List Int) : Option (Int) := cmp_Or_int.l0 k 0 l0 (l0.length : Int) 0
theorem cmp_Or_int.mono_l : ∀ k, (∀ y0 y1 y2 y3, LeO (cmp_Or_int.l0 k y0 y1 y2 y3) (cmp_Or_int.l0 (k + 1) y0 y1 y2 y3))
  | 0 => fun _ _ _ _ r h => by simp [cmp_Or_int.l0] at h
  | k + 1 => by
    have ih0 := cmp_Or_int.mono_l k
    · intro y0 y1 y2 y3
      unfold cmp_Or_int.l0
      repeat' first
      | (with_reducible exact ih0 _ _ _ _)
      | (with_reducible exact LeO.refl _)
      | (with_reducible exact LeO.none _)
      | (with_reducible refine LeO.ite ?_ ?_)
      | (with_reducible refine LeO.bind ?_ (fun _ => ?_))
      | exact ih0 _ _ _ _
      | exact LeO.none _
      | refine LeO.ite ?_ ?_
      | refine LeO.bind ?_ (fun _ => ?_)
theorem cmp_Or_int.mono : ∀ a0 k, LeO (cmp_Or_int.f k a0) (cmp_Or_int.f (k + 1) a0) := by
  intro a0 k
  have ih0 := cmp_Or_int.mono_l k
  unfold cmp_Or_int.f
  repeat' first
      | (with_reducible exact ih0 _ _ _ _)
      | (with_reducible exact LeO.refl _)
      | (with_reducible exact LeO.none _)
      | (with_reducible refine LeO.ite ?_ ?_)
      | (with_reducible refine LeO.bind ?_ (fun _ => ?_))
      | exact ih0 _ _ _ _
      | exact LeO.none _
      | refine LeO.ite ?_ ?_
      | refine LeO.bind ?_ (fun _ => ?_)
set_option maxHeartbeats 8000000 in
set_option maxRecDepth 100000 in
theorem cmp_Or_int.calls (k : Nat) (A0 : Option Addr) (c0 : Nat) (l0 : List Int) (r : Int) (w : World) (hr0 : Kd.C (Kd.int .i64) w A0 l0.length l0) (hc0 : l0.length ≤ c0) (h : cmp_Or_int.f k l0 = some r) :
    Calls Tryd.prog 40 #[.slice A0 l0.length c0] w fun e w' => e = .returned (.int .i64 r) ∧ Drawn0 w w' := by
  have HR0 := Aside0.mk hr0
  have HC0 := Aside0.mk hc0
  clear hr0 hc0
  have H : (cmp_Or_int.l0 k 0 l0 (l0.length : Int) 0) = some r := h
  clear h
  have H' := Aside0.mk H
  clear H
  go_enter Tryd.func40, Tryd.ntmps40
  go_wp2
  go_loopg [8] k (fun kq v8 w' => ∃ (x8_1 : Int), v8 = .int .i64 x8_1 ∧ Aside0 (cmp_Or_int.l0 kq 0 l0 (l0.length : Int) x8_1 = some r) ∧ Aside0 (kq ≤ k) ∧ Drawn0 w w')
  case atStart => exact ⟨(0), q7_, H', ⟨Nat.le_refl _⟩, q12_⟩
  case round =>
    clear H'
    obtain ⟨x8_1, rfl, HA, HK1, ⟨m1, rfl⟩⟩ := hrel
    cases gk with
    | zero => exact absurd HA.out (by simp [cmp_Or_int.l0])
    | succ k1 =>
      have H := HA.out
      clear HA
      simp only [cmp_Or_int.l0] at H
      by_cases c2 : x8_1 < (l0.length : Int)
      · rw [if_pos c2] at H
        have c2b0 : decide (x8_1 < (l0.length : Int)) = true := decide_eq_true c2
        clear c2
        by_cases c3 : 0 ≤ x8_1
        · rw [if_pos c3] at H
          have c3b0 : decide (0 ≤ x8_1) = true := decide_eq_true c3
          clear c3
          by_cases c4 : x8_1 < (l0.length : Int)
          · rw [if_pos c4] at H
            have c4b0 : decide (x8_1 < (l0.length : Int)) = true := decide_eq_true c4
            clear c4
            by_cases c5 : (rd l0 x8_1) = 0
            · rw [if_pos c5] at H
              have c5b0 : ((rd l0 x8_1) == 0) = true := beq_iff_eq.mpr c5
              have c5b1 : ((rd l0 x8_1) != 0) = false := bne_eq_false_iff_eq.mpr c5
              clear c5
              have H' := Aside0.mk H
              clear H
              have p205 : 0 ≤ (x8_1 : Int) := of_decide_eq_true q11_
              have q205 : x8_1 < (l0.length : Int) := of_decide_eq_true q11_
              obtain ⟨ad205, e205, hx205_0⟩ := Kd.at_int HR0.out x8_1 p205 q205
              cases e205
              replace p205 := eq_true p205
              replace q205 := eq_true q205
              go_wp2
              go_roundg k1
              case measure => have := HK1.out; omega
              case rel => exact ⟨(wrap64 (x8_1 + 1)), q7_, H', ⟨by have := HK1.out; omega⟩, q12_⟩
            · rw [if_neg c5] at H
              have c5b0 : ((rd l0 x8_1) == 0) = false := beq_eq_false_iff_ne.mpr c5
              have c5b1 : ((rd l0 x8_1) != 0) = true := bne_iff_ne.mpr c5
              obtain rfl := Option.some.inj H
              have p205 : 0 ≤ (x8_1 : Int) := of_decide_eq_true q11_
              have q205 : x8_1 < (l0.length : Int) := of_decide_eq_true q11_
              obtain ⟨ad205, e205, hx205_0⟩ := Kd.at_int HR0.out x8_1 p205 q205
              cases e205
              replace p205 := eq_true p205
              replace q205 := eq_true q205
              go_wp2
              go_ret
              exact ⟨q7_, q12_⟩
          · rw [if_neg c4] at H
            exact absurd H (by simp)
        · rw [if_neg c3] at H
          exact absurd H (by simp)
      · rw [if_neg c2] at H
        have c2b0 : decide (x8_1 < (l0.length : Int)) = false := decide_eq_false c2
        clear c2
        obtain rfl := Option.some.inj H
        go_wp2
        go_ret
        exact ⟨q7_, q12_⟩


/-! ### cmp_isNaN_int: function 43 -/
def cmp_isNaN_int.f (a0 : Int) : Option (Bool) := some (a0 != a0)
set_option maxHeartbeats 8000000 in
set_option maxRecDepth 100000 in
theorem cmp_isNaN_int.calls (a0 : Int) (r : Bool) (w : World) (h : cmp_isNaN_int.f a0 = some r) :
    Calls Tryd.prog 43 #[.int .i64 a0] w fun e w' => e = .returned (.bool r) ∧ Drawn0 w w' := by
  have H : (some (a0 != a0)) = some r := h
  clear h
  obtain rfl := Option.some.inj H
  go_enter Tryd.func43, Tryd.ntmps43
  go_wp2
  go_ret
  exact ⟨q7_, q12_⟩

end Go.Proofs.YtiamgfpeffjcjaaDoor.P
