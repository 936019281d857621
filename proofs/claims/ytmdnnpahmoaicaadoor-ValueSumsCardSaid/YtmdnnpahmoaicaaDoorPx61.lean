-- Written by our own program (wip/xprint) over the seat's translation. Lean checks it.
import Derived.Test.YtmdnnpahmoaicaaDoorPx0
import Derived.Test.YtmdnnpahmoaicaaDoorPx56
import Derived.Test.YtmdnnpahmoaicaaDoorPx60
namespace Go.Proofs.YtmdnnpahmoaicaaDoor.P
open Go.RowKit Go.Proofs.YtmdnnpahmoaicaaDoorW.PrintWords Go.Proofs.YtmdnnpahmoaicaaDoorW.PrintLast Go.Proofs.YtmdnnpahmoaicaaDoorW.PrintMore
attribute [local go_sem] max2_int min2_mn max_two min_two max_three min_three max_four min_four   -- for this text's walks alone
set_option linter.unusedVariables false
set_option linter.unusedSimpArgs false


/-! ### corollaryref01_Do: function 20 -/
mutual
def corollaryref01_Do.j0 : Nat → Int → Bool → Int → Int → ByteArray → Int → Int → ByteArray → Option (Int × Int × ByteArray × Int)
  | 0, _, _, _, _, _, _, _, _ => none
  | k + 1, x2, x19, x262000, x262001, x262002, x263000, x263001, x263002 => if x19 = true then (some (0, 0, (⟨#[]⟩ : ByteArray), 1)) else (if x262000 = 0 then (corollaryref01_Do.j1 k x2 true x262000 x262001 x262002 x263000 x263001 x263002) else (corollaryref01_Do.j1 k x2 (x263000 == 0) x262000 x262001 x262002 x263000 x263001 x263002))
def corollaryref01_Do.j1 : Nat → Int → Bool → Int → Int → ByteArray → Int → Int → ByteArray → Option (Int × Int × ByteArray × Int)
  | 0, _, _, _, _, _, _, _, _ => none
  | k + 1, x2, x28, x262000, x262001, x262002, x263000, x263001, x263002 => if x28 = true then (some (0, 0, (⟨#[]⟩ : ByteArray), 0)) else (if x262000 = 2 then (corollaryref01_Do.j2 k x2 (x263000 != 2) x262000 x262001 x262002 x263000 x263001 x263002) else (corollaryref01_Do.j2 k x2 true x262000 x262001 x262002 x263000 x263001 x263002))
def corollaryref01_Do.j2 : Nat → Int → Bool → Int → Int → ByteArray → Int → Int → ByteArray → Option (Int × Int × ByteArray × Int)
  | 0, _, _, _, _, _, _, _, _ => none
  | k + 1, x2, x37, x262000, x262001, x262002, x263000, x263001, x263002 => if x37 = true then (some (0, 0, (⟨#[]⟩ : ByteArray), 10)) else (if x2 = 0 then ((corollaryref01_Sum.f x262001 x263001).bind fun bt266 => (if bt266.2 = true then (some (2, bt266.1, (⟨#[]⟩ : ByteArray), 0)) else (some (0, 0, (⟨#[]⟩ : ByteArray), 14)))) else (if x2 = 1 then ((corollaryref01_Turn.f x263001).bind fun bt268 => ((corollaryref01_Sum.f x262001 bt268.1).bind fun bt270 => (if bt268.2 = true then (if bt270.2 = true then (some (2, bt270.1, (⟨#[]⟩ : ByteArray), 0)) else (some (0, 0, (⟨#[]⟩ : ByteArray), 14))) else (if x262001 < 0 then (some (2, wrap64 (x262001 - x263001), (⟨#[]⟩ : ByteArray), 0)) else (some (0, 0, (⟨#[]⟩ : ByteArray), 14)))))) else (if x2 = 2 then ((corollaryref01_Times.f k x262001 x263001).bind fun bt272 => (if bt272.2 = true then (some (2, bt272.1, (⟨#[]⟩ : ByteArray), 0)) else (some (0, 0, (⟨#[]⟩ : ByteArray), 14)))) else (some (0, 0, (⟨#[]⟩ : ByteArray), 14)))))
end
def corollaryref01_Do.f (k : Nat) (a0_0 : Int) (a0_1 : Int) (a0_2 : ByteArray) (a1_0 : Int) (a1_1 : Int) (a1_2 : ByteArray) (a2 : Int) : Option (Int × Int × ByteArray × Int) := (corollaryref01_Right.f k a0_0 a0_1 a0_2).bind fun t264 => (if t264 = true then ((corollaryref01_Right.f k a1_0 a1_1 a1_2).bind fun t265 => (corollaryref01_Do.j0 k a2 (!t265) a0_0 a0_1 a0_2 a1_0 a1_1 a1_2)) else (corollaryref01_Do.j0 k a2 true a0_0 a0_1 a0_2 a1_0 a1_1 a1_2))
theorem corollaryref01_Do.mono_l : ∀ k, (∀ y0 y1 y2 y3 y4 y5 y6 y7, LeO (corollaryref01_Do.j0 k y0 y1 y2 y3 y4 y5 y6 y7) (corollaryref01_Do.j0 (k + 1) y0 y1 y2 y3 y4 y5 y6 y7)) ∧ (∀ y0 y1 y2 y3 y4 y5 y6 y7, LeO (corollaryref01_Do.j1 k y0 y1 y2 y3 y4 y5 y6 y7) (corollaryref01_Do.j1 (k + 1) y0 y1 y2 y3 y4 y5 y6 y7)) ∧ (∀ y0 y1 y2 y3 y4 y5 y6 y7, LeO (corollaryref01_Do.j2 k y0 y1 y2 y3 y4 y5 y6 y7) (corollaryref01_Do.j2 (k + 1) y0 y1 y2 y3 y4 y5 y6 y7))
  | 0 => ⟨fun _ _ _ _ _ _ _ _ r h => by simp [corollaryref01_Do.j0] at h, fun _ _ _ _ _ _ _ _ r h => by simp [corollaryref01_Do.j1] at h, fun _ _ _ _ _ _ _ _ r h => by simp [corollaryref01_Do.j2] at h⟩
  | k + 1 => by
    obtain ⟨ih0, ih1, ih2⟩ := corollaryref01_Do.mono_l k
    refine ⟨?_, ?_, ?_⟩
    all_goals intros
    all_goals first
      | unfold corollaryref01_Do.j0
      | unfold corollaryref01_Do.j1
      | unfold corollaryref01_Do.j2
    all_goals repeat' first
      | (with_reducible exact ih0 _ _ _ _ _ _ _ _)
      | (with_reducible exact ih1 _ _ _ _ _ _ _ _)
      | (with_reducible exact ih2 _ _ _ _ _ _ _ _)
      | (with_reducible exact corollaryref01_Right.mono _ _ _ _)
      | (with_reducible exact corollaryref01_Times.mono _ _ _)
      | (with_reducible exact LeO.refl _)
      | (with_reducible exact LeO.none _)
      | (with_reducible refine LeO.ite ?_ ?_)
      | (with_reducible refine LeO.bind ?_ (fun _ => ?_))
      | exact ih0 _ _ _ _ _ _ _ _
      | exact ih1 _ _ _ _ _ _ _ _
      | exact ih2 _ _ _ _ _ _ _ _
      | exact corollaryref01_Right.mono _ _ _ _
      | exact corollaryref01_Times.mono _ _ _
      | exact LeO.none _
      | refine LeO.ite ?_ ?_
      | refine LeO.bind ?_ (fun _ => ?_)
theorem corollaryref01_Do.mono : ∀ a0 a1 a2 a3 a4 a5 a6 k, LeO (corollaryref01_Do.f k a0 a1 a2 a3 a4 a5 a6) (corollaryref01_Do.f (k + 1) a0 a1 a2 a3 a4 a5 a6) := by
  intro a0 a1 a2 a3 a4 a5 a6 k
  obtain ⟨ih0, ih1, ih2⟩ := corollaryref01_Do.mono_l k
  unfold corollaryref01_Do.f
  repeat' first
      | (with_reducible exact ih0 _ _ _ _ _ _ _ _)
      | (with_reducible exact ih1 _ _ _ _ _ _ _ _)
      | (with_reducible exact ih2 _ _ _ _ _ _ _ _)
      | (with_reducible exact corollaryref01_Right.mono _ _ _ _)
      | (with_reducible exact corollaryref01_Times.mono _ _ _)
      | (with_reducible exact LeO.refl _)
      | (with_reducible exact LeO.none _)
      | (with_reducible refine LeO.ite ?_ ?_)
      | (with_reducible refine LeO.bind ?_ (fun _ => ?_))
      | exact ih0 _ _ _ _ _ _ _ _
      | exact ih1 _ _ _ _ _ _ _ _
      | exact ih2 _ _ _ _ _ _ _ _
      | exact corollaryref01_Right.mono _ _ _ _
      | exact corollaryref01_Times.mono _ _ _
      | exact LeO.none _
      | refine LeO.ite ?_ ?_
      | refine LeO.bind ?_ (fun _ => ?_)
set_option maxHeartbeats 8000000 in
set_option maxRecDepth 100000 in
theorem corollaryref01_Do.calls (k : Nat) (a0_0 : Int) (a0_1 : Int) (a0_2 : ByteArray) (a1_0 : Int) (a1_1 : Int) (a1_2 : ByteArray) (a2 : Int) (r1 : Int) (r2 : Int) (r3 : ByteArray) (r4 : Int) (w : World) (h : corollaryref01_Do.f k a0_0 a0_1 a0_2 a1_0 a1_1 a1_2 a2 = some (r1, r2, r3, r4)) :
    Calls Tryd.prog 20 #[.agg #[.int .i64 a0_0, .int .i64 a0_1, .string a0_2], .agg #[.int .i64 a1_0, .int .i64 a1_1, .string a1_2], .int .i64 a2] w fun e w' => e = .returned (.tuple #[.agg #[.int .i64 r1, .int .i64 r2, .string r3], .int .i64 r4]) ∧ Below w.heap.size w w' := by
  have hu23 := Tryd.underlying23
  have HB := Aside0.mk (Below.refl w.heap.size w)
  have H : ((corollaryref01_Right.f k a0_0 a0_1 a0_2).bind fun t264 => (if t264 = true then ((corollaryref01_Right.f k a1_0 a1_1 a1_2).bind fun t265 => (corollaryref01_Do.j0 k a2 (!t265) a0_0 a0_1 a0_2 a1_0 a1_1 a1_2)) else (corollaryref01_Do.j0 k a2 true a0_0 a0_1 a0_2 a1_0 a1_1 a1_2))) = some (r1, r2, r3, r4) := h
  clear h
  have HC4 := Aside0.mk H
  clear H
  go_enter Tryd.func20, Tryd.ntmps20
  go_upto_region 1 with (first | ((with_reducible refine gate_dst (N := 3) rfl ?_); refine box_event ?hg (N := 3) ?hd (cs := #[.int .i64 a0_0, .int .i64 a0_1, .string a0_2]) (t := 23) ?hr ?_; (case hd => rfl); (case hg => rfl); (case hr => first | (go_simp; done) | (go_simp; rfl)); intro gb261 hg w5 hbox hb; have n0_ := Aside0.mk (below_step q0_ hb); have n1_ := Aside0.mk (hbox); have n2_ := Aside0.mk ((q1_ : w.heap.size ≤ gb261)); have n3_ := Aside0.mk ((q1_ : w.heap.size ≤ gb261)); clear HB; have HB := n0_; have BK261 := n1_; have GW261 := n2_; have GE261 := n3_; clear n0_ n1_ n2_ n3_; clear hb hbox hg) | ((with_reducible refine gate_dst (N := 4) rfl ?_); refine box_event ?hg (N := 4) ?hd (cs := #[.int .i64 a1_0, .int .i64 a1_1, .string a1_2]) (t := 23) ?hr ?_; (case hd => rfl); (case hg => rfl); (case hr => first | (go_simp; done) | (go_simp; rfl)); intro gb262 hg w6 hbox hb; have n0_ := Aside0.mk (blk_below (g := gb261) (o := .cells #[.int .i64 a0_0, .int .i64 a0_1, .string a0_2] 23 (0, 0)) q88_ hb); have n1_ := Aside0.mk (below_step q0_ hb); have n2_ := Aside0.mk (hbox); have n3_ := Aside0.mk ((q1_ : w.heap.size ≤ gb262)); have n4_ := Aside0.mk ((q1_ : w.heap.size ≤ gb262)); have n5_ := Aside0.mk ((q141_ : gb261 ≠ gb262)); have n6_ := Aside0.mk ((q145_ : gb262 ≠ gb261)); clear BK261; clear HB; have BK261 := n0_; have HB := n1_; have BK262 := n2_; have GW262 := n3_; have GE262 := n4_; have NB261_262 := n5_; have NB262_261 := n6_; clear n0_ n1_ n2_ n3_ n4_ n5_ n6_; clear hb hbox hg) | ((with_reducible refine gate_dst (N := 6) rfl ?_); refine box_event ?hg (N := 6) ?hd (cs := #[.int .i64 0, .int .i64 0, .string (⟨#[]⟩ : ByteArray)]) (t := 23) ?hr ?_; (case hd => rfl); (case hg => rfl); (case hr => first | (go_simp; done) | (go_simp; rfl)); intro gb263 hg w7 hbox hb; have n0_ := Aside0.mk (blk_below (g := gb261) (o := .cells #[.int .i64 a0_0, .int .i64 a0_1, .string a0_2] 23 (0, 0)) q88_ hb); have n1_ := Aside0.mk (blk_below (g := gb262) (o := .cells #[.int .i64 a1_0, .int .i64 a1_1, .string a1_2] 23 (0, 0)) q101_ hb); have n2_ := Aside0.mk (below_step q0_ hb); have n3_ := Aside0.mk (hbox); have n4_ := Aside0.mk ((q1_ : w.heap.size ≤ gb263)); have n5_ := Aside0.mk ((q1_ : w.heap.size ≤ gb263)); have n6_ := Aside0.mk ((q141_ : gb261 ≠ gb263)); have n7_ := Aside0.mk ((q145_ : gb263 ≠ gb261)); have n8_ := Aside0.mk ((q170_ : gb262 ≠ gb263)); have n9_ := Aside0.mk ((q175_ : gb263 ≠ gb262)); clear BK261; clear BK262; clear HB; have BK261 := n0_; have BK262 := n1_; have HB := n2_; have BK263 := n3_; have GW263 := n4_; have GE263 := n5_; have NB261_263 := n6_; have NB263_261 := n7_; have NB262_263 := n8_; have NB263_262 := n9_; clear n0_ n1_ n2_ n3_ n4_ n5_ n6_ n7_ n8_ n9_; clear hb hbox hg))
  repeat (go_quiet (first | ((with_reducible refine gate_dst (N := 3) rfl ?_); refine box_event ?hg (N := 3) ?hd (cs := #[.int .i64 a0_0, .int .i64 a0_1, .string a0_2]) (t := 23) ?hr ?_; (case hd => rfl); (case hg => rfl); (case hr => first | (go_simp; done) | (go_simp; rfl)); intro gb261 hg w5 hbox hb; have n0_ := Aside0.mk (below_step q0_ hb); have n1_ := Aside0.mk (hbox); have n2_ := Aside0.mk ((q1_ : w.heap.size ≤ gb261)); have n3_ := Aside0.mk ((q1_ : w.heap.size ≤ gb261)); clear HB; have HB := n0_; have BK261 := n1_; have GW261 := n2_; have GE261 := n3_; clear n0_ n1_ n2_ n3_; clear hb hbox hg) | ((with_reducible refine gate_dst (N := 4) rfl ?_); refine box_event ?hg (N := 4) ?hd (cs := #[.int .i64 a1_0, .int .i64 a1_1, .string a1_2]) (t := 23) ?hr ?_; (case hd => rfl); (case hg => rfl); (case hr => first | (go_simp; done) | (go_simp; rfl)); intro gb262 hg w6 hbox hb; have n0_ := Aside0.mk (blk_below (g := gb261) (o := .cells #[.int .i64 a0_0, .int .i64 a0_1, .string a0_2] 23 (0, 0)) q88_ hb); have n1_ := Aside0.mk (below_step q0_ hb); have n2_ := Aside0.mk (hbox); have n3_ := Aside0.mk ((q1_ : w.heap.size ≤ gb262)); have n4_ := Aside0.mk ((q1_ : w.heap.size ≤ gb262)); have n5_ := Aside0.mk ((q141_ : gb261 ≠ gb262)); have n6_ := Aside0.mk ((q145_ : gb262 ≠ gb261)); clear BK261; clear HB; have BK261 := n0_; have HB := n1_; have BK262 := n2_; have GW262 := n3_; have GE262 := n4_; have NB261_262 := n5_; have NB262_261 := n6_; clear n0_ n1_ n2_ n3_ n4_ n5_ n6_; clear hb hbox hg) | ((with_reducible refine gate_dst (N := 6) rfl ?_); refine box_event ?hg (N := 6) ?hd (cs := #[.int .i64 0, .int .i64 0, .string (⟨#[]⟩ : ByteArray)]) (t := 23) ?hr ?_; (case hd => rfl); (case hg => rfl); (case hr => first | (go_simp; done) | (go_simp; rfl)); intro gb263 hg w7 hbox hb; have n0_ := Aside0.mk (blk_below (g := gb261) (o := .cells #[.int .i64 a0_0, .int .i64 a0_1, .string a0_2] 23 (0, 0)) q88_ hb); have n1_ := Aside0.mk (blk_below (g := gb262) (o := .cells #[.int .i64 a1_0, .int .i64 a1_1, .string a1_2] 23 (0, 0)) q101_ hb); have n2_ := Aside0.mk (below_step q0_ hb); have n3_ := Aside0.mk (hbox); have n4_ := Aside0.mk ((q1_ : w.heap.size ≤ gb263)); have n5_ := Aside0.mk ((q1_ : w.heap.size ≤ gb263)); have n6_ := Aside0.mk ((q141_ : gb261 ≠ gb263)); have n7_ := Aside0.mk ((q145_ : gb263 ≠ gb261)); have n8_ := Aside0.mk ((q170_ : gb262 ≠ gb263)); have n9_ := Aside0.mk ((q175_ : gb263 ≠ gb262)); clear BK261; clear BK262; clear HB; have BK261 := n0_; have BK262 := n1_; have HB := n2_; have BK263 := n3_; have GW263 := n4_; have GE263 := n5_; have NB261_263 := n6_; have NB263_261 := n7_; have NB262_263 := n8_; have NB263_262 := n9_; clear n0_ n1_ n2_ n3_ n4_ n5_ n6_ n7_ n8_ n9_; clear hb hbox hg)); go_upto_region 1 with (first | ((with_reducible refine gate_dst (N := 3) rfl ?_); refine box_event ?hg (N := 3) ?hd (cs := #[.int .i64 a0_0, .int .i64 a0_1, .string a0_2]) (t := 23) ?hr ?_; (case hd => rfl); (case hg => rfl); (case hr => first | (go_simp; done) | (go_simp; rfl)); intro gb261 hg w5 hbox hb; have n0_ := Aside0.mk (below_step q0_ hb); have n1_ := Aside0.mk (hbox); have n2_ := Aside0.mk ((q1_ : w.heap.size ≤ gb261)); have n3_ := Aside0.mk ((q1_ : w.heap.size ≤ gb261)); clear HB; have HB := n0_; have BK261 := n1_; have GW261 := n2_; have GE261 := n3_; clear n0_ n1_ n2_ n3_; clear hb hbox hg) | ((with_reducible refine gate_dst (N := 4) rfl ?_); refine box_event ?hg (N := 4) ?hd (cs := #[.int .i64 a1_0, .int .i64 a1_1, .string a1_2]) (t := 23) ?hr ?_; (case hd => rfl); (case hg => rfl); (case hr => first | (go_simp; done) | (go_simp; rfl)); intro gb262 hg w6 hbox hb; have n0_ := Aside0.mk (blk_below (g := gb261) (o := .cells #[.int .i64 a0_0, .int .i64 a0_1, .string a0_2] 23 (0, 0)) q88_ hb); have n1_ := Aside0.mk (below_step q0_ hb); have n2_ := Aside0.mk (hbox); have n3_ := Aside0.mk ((q1_ : w.heap.size ≤ gb262)); have n4_ := Aside0.mk ((q1_ : w.heap.size ≤ gb262)); have n5_ := Aside0.mk ((q141_ : gb261 ≠ gb262)); have n6_ := Aside0.mk ((q145_ : gb262 ≠ gb261)); clear BK261; clear HB; have BK261 := n0_; have HB := n1_; have BK262 := n2_; have GW262 := n3_; have GE262 := n4_; have NB261_262 := n5_; have NB262_261 := n6_; clear n0_ n1_ n2_ n3_ n4_ n5_ n6_; clear hb hbox hg) | ((with_reducible refine gate_dst (N := 6) rfl ?_); refine box_event ?hg (N := 6) ?hd (cs := #[.int .i64 0, .int .i64 0, .string (⟨#[]⟩ : ByteArray)]) (t := 23) ?hr ?_; (case hd => rfl); (case hg => rfl); (case hr => first | (go_simp; done) | (go_simp; rfl)); intro gb263 hg w7 hbox hb; have n0_ := Aside0.mk (blk_below (g := gb261) (o := .cells #[.int .i64 a0_0, .int .i64 a0_1, .string a0_2] 23 (0, 0)) q88_ hb); have n1_ := Aside0.mk (blk_below (g := gb262) (o := .cells #[.int .i64 a1_0, .int .i64 a1_1, .string a1_2] 23 (0, 0)) q101_ hb); have n2_ := Aside0.mk (below_step q0_ hb); have n3_ := Aside0.mk (hbox); have n4_ := Aside0.mk ((q1_ : w.heap.size ≤ gb263)); have n5_ := Aside0.mk ((q1_ : w.heap.size ≤ gb263)); have n6_ := Aside0.mk ((q141_ : gb261 ≠ gb263)); have n7_ := Aside0.mk ((q145_ : gb263 ≠ gb261)); have n8_ := Aside0.mk ((q170_ : gb262 ≠ gb263)); have n9_ := Aside0.mk ((q175_ : gb263 ≠ gb262)); clear BK261; clear BK262; clear HB; have BK261 := n0_; have BK262 := n1_; have HB := n2_; have BK263 := n3_; have GW263 := n4_; have GE263 := n5_; have NB261_263 := n6_; have NB263_261 := n7_; have NB262_263 := n8_; have NB263_262 := n9_; clear n0_ n1_ n2_ n3_ n4_ n5_ n6_ n7_ n8_ n9_; clear hb hbox hg)))
  (try simp only [Act.put, List.setIfInBounds_toArray, List.set_cons_zero, List.set_cons_succ])
  go_cut [19] (fun v19 wc => ∃ (kq : Nat) (x19_3 : Bool), v19 = .bool x19_3 ∧ Aside0 (corollaryref01_Do.j0 kq a2 x19_3 a0_0 a0_1 a0_2 a1_0 a1_1 a1_2 = some (r1, r2, r3, r4)) ∧ Aside0 (kq ≤ k) ∧ Aside0 (wc.heap[gb261]? = some (.cells #[.int .i64 a0_0, .int .i64 a0_1, .string a0_2] 23 (0, 0))) ∧ Aside0 (wc.heap[gb262]? = some (.cells #[.int .i64 a1_0, .int .i64 a1_1, .string a1_2] 23 (0, 0))) ∧ Aside0 (wc.heap[gb263]? = some (.cells #[.int .i64 0, .int .i64 0, .string (⟨#[]⟩ : ByteArray)] 23 (0, 0))) ∧ Aside0 (Below w.heap.size w wc))
  case first =>
    have H := HC4.out
    clear HC4
    replace H := Option.bind_eq_some_iff.mp H
    obtain ⟨t264, A80, H⟩ := H
    replace H : (if t264 = true then ((corollaryref01_Right.f k a1_0 a1_1 a1_2).bind fun t265 => (corollaryref01_Do.j0 k a2 (!t265) a0_0 a0_1 a0_2 a1_0 a1_1 a1_2)) else (corollaryref01_Do.j0 k a2 true a0_0 a0_1 a0_2 a1_0 a1_1 a1_2)) = some (r1, r2, r3, r4) := H
    have A8 := Aside0.mk A80
    clear A80
    by_cases c9 : t264 = true
    · subst c9
      replace H := ifT_ H
      replace H := Option.bind_eq_some_iff.mp H
      obtain ⟨t265, A100, H⟩ := H
      replace H : (corollaryref01_Do.j0 k a2 (!t265) a0_0 a0_1 a0_2 a1_0 a1_1 a1_2) = some (r1, r2, r3, r4) := H
      have A10 := Aside0.mk A100
      clear A100
      have H' := Aside0.mk H
      clear H
      have hnb11 := NB261_262.out
      have hnc11 := NB262_261.out
      have hnb12 := NB261_263.out
      have hnc12 := NB263_261.out
      have hcz13_0 : w7.cell? ⟨gb261, 0, none⟩ = some (.int .i64 a0_0) := (blk_cell BK261.out 0).trans rfl
      have hcz13_1 : w7.cell? ⟨gb261, 1, none⟩ = some (.int .i64 a0_1) := (blk_cell BK261.out 1).trans rfl
      have hcz13_2 : w7.cell? ⟨gb261, 2, none⟩ = some (.string a0_2) := (blk_cell BK261.out 2).trans rfl
      have hfz13_0 := blk_frozen BK261.out 0
      have hfz13_1 := blk_frozen BK261.out 1
      have hfz13_2 := blk_frozen BK261.out 2
      go_wp2_with (first | (go_at_call 22; (with_reducible refine (corollaryref01_Right.calls k a0_0 a0_1 a0_2 true _ A8.out).mono ?_); rintro e w14 ⟨rfl, hb⟩; have n0_ := Aside0.mk (blk_below (g := gb261) (o := .cells #[.int .i64 a0_0, .int .i64 a0_1, .string a0_2] 23 (0, 0)) q88_ hb); have n1_ := Aside0.mk (blk_below (g := gb262) (o := .cells #[.int .i64 a1_0, .int .i64 a1_1, .string a1_2] 23 (0, 0)) q101_ hb); have n2_ := Aside0.mk (blk_below (g := gb263) (o := .cells #[.int .i64 0, .int .i64 0, .string (⟨#[]⟩ : ByteArray)] 23 (0, 0)) q135_ hb); have n3_ := Aside0.mk (below_step q0_ hb); clear BK261; clear BK262; clear BK263; clear HB; have BK261 := n0_; have BK262 := n1_; have BK263 := n2_; have HB := n3_; clear n0_ n1_ n2_ n3_; (try clear hb); (try clear hb2); (try clear hk); (try clear hi); have hnb15 := NB262_263.out; have hnc15 := NB263_262.out; have hcz16_0 : w14.cell? ⟨gb262, 0, none⟩ = some (.int .i64 a1_0) := (blk_cell BK262.out 0).trans rfl; have hcz16_1 : w14.cell? ⟨gb262, 1, none⟩ = some (.int .i64 a1_1) := (blk_cell BK262.out 1).trans rfl; have hcz16_2 : w14.cell? ⟨gb262, 2, none⟩ = some (.string a1_2) := (blk_cell BK262.out 2).trans rfl; have hfz16_0 := blk_frozen BK262.out 0; have hfz16_1 := blk_frozen BK262.out 1; have hfz16_2 := blk_frozen BK262.out 2) | (go_at_call 22; (with_reducible refine (corollaryref01_Right.calls k a1_0 a1_1 a1_2 t265 _ A10.out).mono ?_); rintro e w17 ⟨rfl, hb⟩; have n0_ := Aside0.mk (blk_below (g := gb261) (o := .cells #[.int .i64 a0_0, .int .i64 a0_1, .string a0_2] 23 (0, 0)) q88_ hb); have n1_ := Aside0.mk (blk_below (g := gb262) (o := .cells #[.int .i64 a1_0, .int .i64 a1_1, .string a1_2] 23 (0, 0)) q101_ hb); have n2_ := Aside0.mk (blk_below (g := gb263) (o := .cells #[.int .i64 0, .int .i64 0, .string (⟨#[]⟩ : ByteArray)] 23 (0, 0)) q135_ hb); have n3_ := Aside0.mk (below_step q0_ hb); clear BK261; clear BK262; clear BK263; clear HB; have BK261 := n0_; have BK262 := n1_; have BK263 := n2_; have HB := n3_; clear n0_ n1_ n2_ n3_; (try clear hb); (try clear hb2); (try clear hk); (try clear hi)))
      repeat (go_quiet (first | (go_at_call 22; (with_reducible refine (corollaryref01_Right.calls k a0_0 a0_1 a0_2 true _ A8.out).mono ?_); rintro e w14 ⟨rfl, hb⟩; have n0_ := Aside0.mk (blk_below (g := gb261) (o := .cells #[.int .i64 a0_0, .int .i64 a0_1, .string a0_2] 23 (0, 0)) q88_ hb); have n1_ := Aside0.mk (blk_below (g := gb262) (o := .cells #[.int .i64 a1_0, .int .i64 a1_1, .string a1_2] 23 (0, 0)) q101_ hb); have n2_ := Aside0.mk (blk_below (g := gb263) (o := .cells #[.int .i64 0, .int .i64 0, .string (⟨#[]⟩ : ByteArray)] 23 (0, 0)) q135_ hb); have n3_ := Aside0.mk (below_step q0_ hb); clear BK261; clear BK262; clear BK263; clear HB; have BK261 := n0_; have BK262 := n1_; have BK263 := n2_; have HB := n3_; clear n0_ n1_ n2_ n3_; (try clear hb); (try clear hb2); (try clear hk); (try clear hi); have hnb15 := NB262_263.out; have hnc15 := NB263_262.out; have hcz16_0 : w14.cell? ⟨gb262, 0, none⟩ = some (.int .i64 a1_0) := (blk_cell BK262.out 0).trans rfl; have hcz16_1 : w14.cell? ⟨gb262, 1, none⟩ = some (.int .i64 a1_1) := (blk_cell BK262.out 1).trans rfl; have hcz16_2 : w14.cell? ⟨gb262, 2, none⟩ = some (.string a1_2) := (blk_cell BK262.out 2).trans rfl; have hfz16_0 := blk_frozen BK262.out 0; have hfz16_1 := blk_frozen BK262.out 1; have hfz16_2 := blk_frozen BK262.out 2) | (go_at_call 22; (with_reducible refine (corollaryref01_Right.calls k a1_0 a1_1 a1_2 t265 _ A10.out).mono ?_); rintro e w17 ⟨rfl, hb⟩; have n0_ := Aside0.mk (blk_below (g := gb261) (o := .cells #[.int .i64 a0_0, .int .i64 a0_1, .string a0_2] 23 (0, 0)) q88_ hb); have n1_ := Aside0.mk (blk_below (g := gb262) (o := .cells #[.int .i64 a1_0, .int .i64 a1_1, .string a1_2] 23 (0, 0)) q101_ hb); have n2_ := Aside0.mk (blk_below (g := gb263) (o := .cells #[.int .i64 0, .int .i64 0, .string (⟨#[]⟩ : ByteArray)] 23 (0, 0)) q135_ hb); have n3_ := Aside0.mk (below_step q0_ hb); clear BK261; clear BK262; clear BK263; clear HB; have BK261 := n0_; have BK262 := n1_; have BK263 := n2_; have HB := n3_; clear n0_ n1_ n2_ n3_; (try clear hb); (try clear hb2); (try clear hk); (try clear hi))); try go_wp2_with (first | (go_at_call 22; (with_reducible refine (corollaryref01_Right.calls k a0_0 a0_1 a0_2 true _ A8.out).mono ?_); rintro e w14 ⟨rfl, hb⟩; have n0_ := Aside0.mk (blk_below (g := gb261) (o := .cells #[.int .i64 a0_0, .int .i64 a0_1, .string a0_2] 23 (0, 0)) q88_ hb); have n1_ := Aside0.mk (blk_below (g := gb262) (o := .cells #[.int .i64 a1_0, .int .i64 a1_1, .string a1_2] 23 (0, 0)) q101_ hb); have n2_ := Aside0.mk (blk_below (g := gb263) (o := .cells #[.int .i64 0, .int .i64 0, .string (⟨#[]⟩ : ByteArray)] 23 (0, 0)) q135_ hb); have n3_ := Aside0.mk (below_step q0_ hb); clear BK261; clear BK262; clear BK263; clear HB; have BK261 := n0_; have BK262 := n1_; have BK263 := n2_; have HB := n3_; clear n0_ n1_ n2_ n3_; (try clear hb); (try clear hb2); (try clear hk); (try clear hi); have hnb15 := NB262_263.out; have hnc15 := NB263_262.out; have hcz16_0 : w14.cell? ⟨gb262, 0, none⟩ = some (.int .i64 a1_0) := (blk_cell BK262.out 0).trans rfl; have hcz16_1 : w14.cell? ⟨gb262, 1, none⟩ = some (.int .i64 a1_1) := (blk_cell BK262.out 1).trans rfl; have hcz16_2 : w14.cell? ⟨gb262, 2, none⟩ = some (.string a1_2) := (blk_cell BK262.out 2).trans rfl; have hfz16_0 := blk_frozen BK262.out 0; have hfz16_1 := blk_frozen BK262.out 1; have hfz16_2 := blk_frozen BK262.out 2) | (go_at_call 22; (with_reducible refine (corollaryref01_Right.calls k a1_0 a1_1 a1_2 t265 _ A10.out).mono ?_); rintro e w17 ⟨rfl, hb⟩; have n0_ := Aside0.mk (blk_below (g := gb261) (o := .cells #[.int .i64 a0_0, .int .i64 a0_1, .string a0_2] 23 (0, 0)) q88_ hb); have n1_ := Aside0.mk (blk_below (g := gb262) (o := .cells #[.int .i64 a1_0, .int .i64 a1_1, .string a1_2] 23 (0, 0)) q101_ hb); have n2_ := Aside0.mk (blk_below (g := gb263) (o := .cells #[.int .i64 0, .int .i64 0, .string (⟨#[]⟩ : ByteArray)] 23 (0, 0)) q135_ hb); have n3_ := Aside0.mk (below_step q0_ hb); clear BK261; clear BK262; clear BK263; clear HB; have BK261 := n0_; have BK262 := n1_; have BK263 := n2_; have HB := n3_; clear n0_ n1_ n2_ n3_; (try clear hb); (try clear hb2); (try clear hk); (try clear hi))))
      go_meet
      case rel => exact ⟨_, (!t265), q20_, H', ⟨by first | omega | exact Nat.le_refl _⟩, ⟨q88_⟩, ⟨q101_⟩, ⟨q135_⟩, ⟨q0_⟩⟩
    · replace c9 := Bool.eq_false_iff.mpr c9
      subst c9
      replace H := ifF_ H
      have H' := Aside0.mk H
      clear H
      have hnb18 := NB261_262.out
      have hnc18 := NB262_261.out
      have hnb19 := NB261_263.out
      have hnc19 := NB263_261.out
      have hcz20_0 : w7.cell? ⟨gb261, 0, none⟩ = some (.int .i64 a0_0) := (blk_cell BK261.out 0).trans rfl
      have hcz20_1 : w7.cell? ⟨gb261, 1, none⟩ = some (.int .i64 a0_1) := (blk_cell BK261.out 1).trans rfl
      have hcz20_2 : w7.cell? ⟨gb261, 2, none⟩ = some (.string a0_2) := (blk_cell BK261.out 2).trans rfl
      have hfz20_0 := blk_frozen BK261.out 0
      have hfz20_1 := blk_frozen BK261.out 1
      have hfz20_2 := blk_frozen BK261.out 2
      go_wp2_with (first | (go_at_call 22; (with_reducible refine (corollaryref01_Right.calls k a0_0 a0_1 a0_2 false _ A8.out).mono ?_); rintro e w21 ⟨rfl, hb⟩; have n0_ := Aside0.mk (blk_below (g := gb261) (o := .cells #[.int .i64 a0_0, .int .i64 a0_1, .string a0_2] 23 (0, 0)) q88_ hb); have n1_ := Aside0.mk (blk_below (g := gb262) (o := .cells #[.int .i64 a1_0, .int .i64 a1_1, .string a1_2] 23 (0, 0)) q101_ hb); have n2_ := Aside0.mk (blk_below (g := gb263) (o := .cells #[.int .i64 0, .int .i64 0, .string (⟨#[]⟩ : ByteArray)] 23 (0, 0)) q135_ hb); have n3_ := Aside0.mk (below_step q0_ hb); clear BK261; clear BK262; clear BK263; clear HB; have BK261 := n0_; have BK262 := n1_; have BK263 := n2_; have HB := n3_; clear n0_ n1_ n2_ n3_; (try clear hb); (try clear hb2); (try clear hk); (try clear hi)))
      repeat (go_quiet (first | (go_at_call 22; (with_reducible refine (corollaryref01_Right.calls k a0_0 a0_1 a0_2 false _ A8.out).mono ?_); rintro e w21 ⟨rfl, hb⟩; have n0_ := Aside0.mk (blk_below (g := gb261) (o := .cells #[.int .i64 a0_0, .int .i64 a0_1, .string a0_2] 23 (0, 0)) q88_ hb); have n1_ := Aside0.mk (blk_below (g := gb262) (o := .cells #[.int .i64 a1_0, .int .i64 a1_1, .string a1_2] 23 (0, 0)) q101_ hb); have n2_ := Aside0.mk (blk_below (g := gb263) (o := .cells #[.int .i64 0, .int .i64 0, .string (⟨#[]⟩ : ByteArray)] 23 (0, 0)) q135_ hb); have n3_ := Aside0.mk (below_step q0_ hb); clear BK261; clear BK262; clear BK263; clear HB; have BK261 := n0_; have BK262 := n1_; have BK263 := n2_; have HB := n3_; clear n0_ n1_ n2_ n3_; (try clear hb); (try clear hb2); (try clear hk); (try clear hi))); try go_wp2_with (first | (go_at_call 22; (with_reducible refine (corollaryref01_Right.calls k a0_0 a0_1 a0_2 false _ A8.out).mono ?_); rintro e w21 ⟨rfl, hb⟩; have n0_ := Aside0.mk (blk_below (g := gb261) (o := .cells #[.int .i64 a0_0, .int .i64 a0_1, .string a0_2] 23 (0, 0)) q88_ hb); have n1_ := Aside0.mk (blk_below (g := gb262) (o := .cells #[.int .i64 a1_0, .int .i64 a1_1, .string a1_2] 23 (0, 0)) q101_ hb); have n2_ := Aside0.mk (blk_below (g := gb263) (o := .cells #[.int .i64 0, .int .i64 0, .string (⟨#[]⟩ : ByteArray)] 23 (0, 0)) q135_ hb); have n3_ := Aside0.mk (below_step q0_ hb); clear BK261; clear BK262; clear BK263; clear HB; have BK261 := n0_; have BK262 := n1_; have BK263 := n2_; have HB := n3_; clear n0_ n1_ n2_ n3_; (try clear hb); (try clear hb2); (try clear hk); (try clear hi))))
      go_meet
      case rel => exact ⟨_, (true), q20_, H', ⟨by first | omega | exact Nat.le_refl _⟩, ⟨q88_⟩, ⟨q101_⟩, ⟨q135_⟩, ⟨q0_⟩⟩
  case rest =>
    clear HC4
    try clear c1
    try clear c2
    try clear p2
    try clear c9
    try clear c11
    try clear c12
    try clear c15
    try clear c18
    try clear c19
    try clear c20
    try clear hcz13_0
    try clear hcz13_1
    try clear hcz13_2
    try clear hcz16_0
    try clear hcz16_1
    try clear hcz16_2
    try clear hcz20_0
    try clear hcz20_1
    try clear hcz20_2
    try clear hfz13_0
    try clear hfz13_1
    try clear hfz13_2
    try clear hfz16_0
    try clear hfz16_1
    try clear hfz16_2
    try clear hfz20_0
    try clear hfz20_1
    try clear hfz20_2
    obtain ⟨kq, x19_3, rfl, HA, HJ3, BK261, BK262, BK263, HB⟩ := hcut
    cases kq with
    | zero => exact absurd HA.out (by simp [corollaryref01_Do.j0])
    | succ kj3 =>
      have H := HA.out
      clear HA
      simp only [corollaryref01_Do.j0] at H
      by_cases c22 : x19_3 = true
      · subst c22
        replace H := ifT_ H
        simp only [Option.some.injEq, Prod.mk.injEq] at H
        obtain ⟨rfl, rfl, rfl, rfl⟩ := H
        have hnb23 := NB263_261.out
        have hnc23 := NB261_263.out
        have hnb24 := NB263_262.out
        have hnc24 := NB262_263.out
        have hcz25_0 : wc.cell? ⟨gb263, 0, none⟩ = some (.int .i64 0) := (blk_cell BK263.out 0).trans rfl
        have hcz25_1 : wc.cell? ⟨gb263, 1, none⟩ = some (.int .i64 0) := (blk_cell BK263.out 1).trans rfl
        have hcz25_2 : wc.cell? ⟨gb263, 2, none⟩ = some (.string (⟨#[]⟩ : ByteArray)) := (blk_cell BK263.out 2).trans rfl
        have hfz25_0 := blk_frozen BK263.out 0
        have hfz25_1 := blk_frozen BK263.out 1
        have hfz25_2 := blk_frozen BK263.out 2
        go_wp2
        repeat (go_quiet (fail); try go_wp2)
        refine bodyPost_ret (results_ct rfl _ _ gb263 23 #[.int .i64 0, .int .i64 0, .string (⟨#[]⟩ : ByteArray)] (0, 0) _ rfl q39_ Tryd.underlying23 rfl (by kernel_rfl)) rfl ?_
        exact ⟨q13_, q0_⟩
      · replace c22 := Bool.eq_false_iff.mpr c22
        subst c22
        replace H := ifF_ H
        have HC26 := Aside0.mk H
        clear H
        go_upto_region 3 with (fail)
        repeat (go_quiet (fail); go_upto_region 3 with (fail))
        go_cut [28] (fun v28 wc => ∃ (kq : Nat) (x28_25 : Bool), v28 = .bool x28_25 ∧ Aside0 (corollaryref01_Do.j1 kq a2 x28_25 a0_0 a0_1 a0_2 a1_0 a1_1 a1_2 = some (r1, r2, r3, r4)) ∧ Aside0 (kq ≤ kj3) ∧ Aside0 (wc.heap[gb261]? = some (.cells #[.int .i64 a0_0, .int .i64 a0_1, .string a0_2] 23 (0, 0))) ∧ Aside0 (wc.heap[gb262]? = some (.cells #[.int .i64 a1_0, .int .i64 a1_1, .string a1_2] 23 (0, 0))) ∧ Aside0 (wc.heap[gb263]? = some (.cells #[.int .i64 0, .int .i64 0, .string (⟨#[]⟩ : ByteArray)] 23 (0, 0))) ∧ Aside0 (Below w.heap.size w wc))
        case first =>
          have H := HC26.out
          clear HC26
          by_cases c27 : a0_0 = 0
          · rw [if_pos c27] at H
            have c27b0 : (a0_0 == 0) = true := beq_iff_eq.mpr c27
            have c27b1 : (a0_0 != 0) = false := bne_eq_false_iff_eq.mpr c27
            clear c27
            (first | rw [c27b0] | (simp only [i64_w, i32_w]; rw [c27b0]) | skip)
            have H' := Aside0.mk H
            clear H
            have hnb28 := NB261_262.out
            have hnc28 := NB262_261.out
            have hnb29 := NB261_263.out
            have hnc29 := NB263_261.out
            have hcz30_0 : wc.cell? ⟨gb261, 0, none⟩ = some (.int .i64 a0_0) := (blk_cell BK261.out 0).trans rfl
            have hcz30_1 : wc.cell? ⟨gb261, 1, none⟩ = some (.int .i64 a0_1) := (blk_cell BK261.out 1).trans rfl
            have hcz30_2 : wc.cell? ⟨gb261, 2, none⟩ = some (.string a0_2) := (blk_cell BK261.out 2).trans rfl
            have hfz30_0 := blk_frozen BK261.out 0
            have hfz30_1 := blk_frozen BK261.out 1
            have hfz30_2 := blk_frozen BK261.out 2
            go_wp2
            repeat (go_quiet (fail); try go_wp2)
            go_meet
            case rel => exact ⟨_, (true), q20_, H', ⟨by have := HJ3.out; first | omega | exact Nat.le_refl _⟩, ⟨q88_⟩, ⟨q101_⟩, ⟨q135_⟩, ⟨q0_⟩⟩
          · rw [if_neg c27] at H
            have c27b0 : (a0_0 == 0) = false := beq_eq_false_iff_ne.mpr c27
            have c27b1 : (a0_0 != 0) = true := bne_iff_ne.mpr c27
            (first | rw [c27b0] | (simp only [i64_w, i32_w]; rw [c27b0]) | skip)
            have H' := Aside0.mk H
            clear H
            have hnb31 := NB261_262.out
            have hnc31 := NB262_261.out
            have hnb32 := NB261_263.out
            have hnc32 := NB263_261.out
            have hcz33_0 : wc.cell? ⟨gb261, 0, none⟩ = some (.int .i64 a0_0) := (blk_cell BK261.out 0).trans rfl
            have hcz33_1 : wc.cell? ⟨gb261, 1, none⟩ = some (.int .i64 a0_1) := (blk_cell BK261.out 1).trans rfl
            have hcz33_2 : wc.cell? ⟨gb261, 2, none⟩ = some (.string a0_2) := (blk_cell BK261.out 2).trans rfl
            have hfz33_0 := blk_frozen BK261.out 0
            have hfz33_1 := blk_frozen BK261.out 1
            have hfz33_2 := blk_frozen BK261.out 2
            have hnb34 := NB262_263.out
            have hnc34 := NB263_262.out
            have hcz35_0 : wc.cell? ⟨gb262, 0, none⟩ = some (.int .i64 a1_0) := (blk_cell BK262.out 0).trans rfl
            have hcz35_1 : wc.cell? ⟨gb262, 1, none⟩ = some (.int .i64 a1_1) := (blk_cell BK262.out 1).trans rfl
            have hcz35_2 : wc.cell? ⟨gb262, 2, none⟩ = some (.string a1_2) := (blk_cell BK262.out 2).trans rfl
            have hfz35_0 := blk_frozen BK262.out 0
            have hfz35_1 := blk_frozen BK262.out 1
            have hfz35_2 := blk_frozen BK262.out 2
            go_wp2
            repeat (go_quiet (fail); try go_wp2)
            go_meet
            case rel => exact ⟨_, ((a1_0 == 0)), q20_, H', ⟨by have := HJ3.out; first | omega | exact Nat.le_refl _⟩, ⟨q88_⟩, ⟨q101_⟩, ⟨q135_⟩, ⟨q0_⟩⟩
        case rest =>
          clear HC26
          try clear c1
          try clear c2
          try clear p2
          try clear c3
          try clear c9
          try clear c11
          try clear c12
          try clear c15
          try clear c18
          try clear c19
          try clear c20
          try clear c22
          try clear c23
          try clear c24
          try clear c27
          try clear c27b0
          try clear c27b1
          try clear c28
          try clear c29
          try clear c31
          try clear c32
          try clear c34
          try clear hcz13_0
          try clear hcz13_1
          try clear hcz13_2
          try clear hcz16_0
          try clear hcz16_1
          try clear hcz16_2
          try clear hcz20_0
          try clear hcz20_1
          try clear hcz20_2
          try clear hcz25_0
          try clear hcz25_1
          try clear hcz25_2
          try clear hcz30_0
          try clear hcz30_1
          try clear hcz30_2
          try clear hcz33_0
          try clear hcz33_1
          try clear hcz33_2
          try clear hcz35_0
          try clear hcz35_1
          try clear hcz35_2
          try clear hfz13_0
          try clear hfz13_1
          try clear hfz13_2
          try clear hfz16_0
          try clear hfz16_1
          try clear hfz16_2
          try clear hfz20_0
          try clear hfz20_1
          try clear hfz20_2
          try clear hfz25_0
          try clear hfz25_1
          try clear hfz25_2
          try clear hfz30_0
          try clear hfz30_1
          try clear hfz30_2
          try clear hfz33_0
          try clear hfz33_1
          try clear hfz33_2
          try clear hfz35_0
          try clear hfz35_1
          try clear hfz35_2
          try clear p2
          obtain ⟨kq, x28_25, rfl, HA, HJ25, BK261, BK262, BK263, HB⟩ := hcut
          cases kq with
          | zero => exact absurd HA.out (by simp [corollaryref01_Do.j1])
          | succ kj25 =>
            have H := HA.out
            clear HA
            simp only [corollaryref01_Do.j1] at H
            by_cases c36 : x28_25 = true
            · subst c36
              replace H := ifT_ H
              simp only [Option.some.injEq, Prod.mk.injEq] at H
              obtain ⟨rfl, rfl, rfl, rfl⟩ := H
              have hnb37 := NB263_261.out
              have hnc37 := NB261_263.out
              have hnb38 := NB263_262.out
              have hnc38 := NB262_263.out
              have hcz39_0 : wc.cell? ⟨gb263, 0, none⟩ = some (.int .i64 0) := (blk_cell BK263.out 0).trans rfl
              have hcz39_1 : wc.cell? ⟨gb263, 1, none⟩ = some (.int .i64 0) := (blk_cell BK263.out 1).trans rfl
              have hcz39_2 : wc.cell? ⟨gb263, 2, none⟩ = some (.string (⟨#[]⟩ : ByteArray)) := (blk_cell BK263.out 2).trans rfl
              have hfz39_0 := blk_frozen BK263.out 0
              have hfz39_1 := blk_frozen BK263.out 1
              have hfz39_2 := blk_frozen BK263.out 2
              go_wp2
              repeat (go_quiet (fail); try go_wp2)
              refine bodyPost_ret (results_ct rfl _ _ gb263 23 #[.int .i64 0, .int .i64 0, .string (⟨#[]⟩ : ByteArray)] (0, 0) _ rfl q39_ Tryd.underlying23 rfl (by kernel_rfl)) rfl ?_
              exact ⟨q13_, q0_⟩
            · replace c36 := Bool.eq_false_iff.mpr c36
              subst c36
              replace H := ifF_ H
              have HC40 := Aside0.mk H
              clear H
              go_upto_region 5 with (fail)
              repeat (go_quiet (fail); go_upto_region 5 with (fail))
              go_cut [37] (fun v37 wc => ∃ (kq : Nat) (x37_39 : Bool), v37 = .bool x37_39 ∧ Aside0 (corollaryref01_Do.j2 kq a2 x37_39 a0_0 a0_1 a0_2 a1_0 a1_1 a1_2 = some (r1, r2, r3, r4)) ∧ Aside0 (kq ≤ kj25) ∧ Aside0 (wc.heap[gb261]? = some (.cells #[.int .i64 a0_0, .int .i64 a0_1, .string a0_2] 23 (0, 0))) ∧ Aside0 (wc.heap[gb262]? = some (.cells #[.int .i64 a1_0, .int .i64 a1_1, .string a1_2] 23 (0, 0))) ∧ Aside0 (wc.heap[gb263]? = some (.cells #[.int .i64 0, .int .i64 0, .string (⟨#[]⟩ : ByteArray)] 23 (0, 0))) ∧ Aside0 (Below w.heap.size w wc))
              case first =>
                have H := HC40.out
                clear HC40
                by_cases c41 : a0_0 = 2
                · rw [if_pos c41] at H
                  have c41b0 : (a0_0 == 2) = true := beq_iff_eq.mpr c41
                  have c41b1 : (a0_0 != 2) = false := bne_eq_false_iff_eq.mpr c41
                  clear c41
                  (first | rw [c41b0] | (simp only [i64_w, i32_w]; rw [c41b0]) | skip)
                  have H' := Aside0.mk H
                  clear H
                  have hnb42 := NB261_262.out
                  have hnc42 := NB262_261.out
                  have hnb43 := NB261_263.out
                  have hnc43 := NB263_261.out
                  have hcz44_0 : wc.cell? ⟨gb261, 0, none⟩ = some (.int .i64 a0_0) := (blk_cell BK261.out 0).trans rfl
                  have hcz44_1 : wc.cell? ⟨gb261, 1, none⟩ = some (.int .i64 a0_1) := (blk_cell BK261.out 1).trans rfl
                  have hcz44_2 : wc.cell? ⟨gb261, 2, none⟩ = some (.string a0_2) := (blk_cell BK261.out 2).trans rfl
                  have hfz44_0 := blk_frozen BK261.out 0
                  have hfz44_1 := blk_frozen BK261.out 1
                  have hfz44_2 := blk_frozen BK261.out 2
                  have hnb45 := NB262_263.out
                  have hnc45 := NB263_262.out
                  have hcz46_0 : wc.cell? ⟨gb262, 0, none⟩ = some (.int .i64 a1_0) := (blk_cell BK262.out 0).trans rfl
                  have hcz46_1 : wc.cell? ⟨gb262, 1, none⟩ = some (.int .i64 a1_1) := (blk_cell BK262.out 1).trans rfl
                  have hcz46_2 : wc.cell? ⟨gb262, 2, none⟩ = some (.string a1_2) := (blk_cell BK262.out 2).trans rfl
                  have hfz46_0 := blk_frozen BK262.out 0
                  have hfz46_1 := blk_frozen BK262.out 1
                  have hfz46_2 := blk_frozen BK262.out 2
                  go_wp2
                  repeat (go_quiet (fail); try go_wp2)
                  go_meet
                  case rel => exact ⟨_, ((a1_0 != 2)), q20_, H', ⟨by have := HJ3.out; have := HJ25.out; first | omega | exact Nat.le_refl _⟩, ⟨q88_⟩, ⟨q101_⟩, ⟨q135_⟩, ⟨q0_⟩⟩
                · rw [if_neg c41] at H
                  have c41b0 : (a0_0 == 2) = false := beq_eq_false_iff_ne.mpr c41
                  have c41b1 : (a0_0 != 2) = true := bne_iff_ne.mpr c41
                  (first | rw [c41b0] | (simp only [i64_w, i32_w]; rw [c41b0]) | skip)
                  have H' := Aside0.mk H
                  clear H
                  have hnb47 := NB261_262.out
                  have hnc47 := NB262_261.out
                  have hnb48 := NB261_263.out
                  have hnc48 := NB263_261.out
                  have hcz49_0 : wc.cell? ⟨gb261, 0, none⟩ = some (.int .i64 a0_0) := (blk_cell BK261.out 0).trans rfl
                  have hcz49_1 : wc.cell? ⟨gb261, 1, none⟩ = some (.int .i64 a0_1) := (blk_cell BK261.out 1).trans rfl
                  have hcz49_2 : wc.cell? ⟨gb261, 2, none⟩ = some (.string a0_2) := (blk_cell BK261.out 2).trans rfl
                  have hfz49_0 := blk_frozen BK261.out 0
                  have hfz49_1 := blk_frozen BK261.out 1
                  have hfz49_2 := blk_frozen BK261.out 2
                  go_wp2
                  repeat (go_quiet (fail); try go_wp2)
                  go_meet
                  case rel => exact ⟨_, (true), q20_, H', ⟨by have := HJ3.out; have := HJ25.out; first | omega | exact Nat.le_refl _⟩, ⟨q88_⟩, ⟨q101_⟩, ⟨q135_⟩, ⟨q0_⟩⟩
              case rest =>
                clear HC40
                try clear c1
                try clear c2
                try clear p2
                try clear c3
                try clear c4
                try clear c9
                try clear c11
                try clear c12
                try clear c15
                try clear c18
                try clear c19
                try clear c20
                try clear c22
                try clear c23
                try clear c24
                try clear c27
                try clear c27b0
                try clear c27b1
                try clear c28
                try clear c29
                try clear c31
                try clear c32
                try clear c34
                try clear c36
                try clear c37
                try clear c38
                try clear c41
                try clear c41b0
                try clear c41b1
                try clear c42
                try clear c43
                try clear c45
                try clear c47
                try clear c48
                try clear hcz13_0
                try clear hcz13_1
                try clear hcz13_2
                try clear hcz16_0
                try clear hcz16_1
                try clear hcz16_2
                try clear hcz20_0
                try clear hcz20_1
                try clear hcz20_2
                try clear hcz25_0
                try clear hcz25_1
                try clear hcz25_2
                try clear hcz30_0
                try clear hcz30_1
                try clear hcz30_2
                try clear hcz33_0
                try clear hcz33_1
                try clear hcz33_2
                try clear hcz35_0
                try clear hcz35_1
                try clear hcz35_2
                try clear hcz39_0
                try clear hcz39_1
                try clear hcz39_2
                try clear hcz44_0
                try clear hcz44_1
                try clear hcz44_2
                try clear hcz46_0
                try clear hcz46_1
                try clear hcz46_2
                try clear hcz49_0
                try clear hcz49_1
                try clear hcz49_2
                try clear hfz13_0
                try clear hfz13_1
                try clear hfz13_2
                try clear hfz16_0
                try clear hfz16_1
                try clear hfz16_2
                try clear hfz20_0
                try clear hfz20_1
                try clear hfz20_2
                try clear hfz25_0
                try clear hfz25_1
                try clear hfz25_2
                try clear hfz30_0
                try clear hfz30_1
                try clear hfz30_2
                try clear hfz33_0
                try clear hfz33_1
                try clear hfz33_2
                try clear hfz35_0
                try clear hfz35_1
                try clear hfz35_2
                try clear hfz39_0
                try clear hfz39_1
                try clear hfz39_2
                try clear hfz44_0
                try clear hfz44_1
                try clear hfz44_2
                try clear hfz46_0
                try clear hfz46_1
                try clear hfz46_2
                try clear hfz49_0
                try clear hfz49_1
                try clear hfz49_2
                try clear p2
                obtain ⟨kq, x37_39, rfl, HA, HJ39, BK261, BK262, BK263, HB⟩ := hcut
                cases kq with
                | zero => exact absurd HA.out (by simp [corollaryref01_Do.j2])
                | succ kj39 =>
                  have H := HA.out
                  clear HA
                  simp only [corollaryref01_Do.j2] at H
                  by_cases c50 : x37_39 = true
                  · subst c50
                    replace H := ifT_ H
                    simp only [Option.some.injEq, Prod.mk.injEq] at H
                    obtain ⟨rfl, rfl, rfl, rfl⟩ := H
                    have hnb51 := NB263_261.out
                    have hnc51 := NB261_263.out
                    have hnb52 := NB263_262.out
                    have hnc52 := NB262_263.out
                    have hcz53_0 : wc.cell? ⟨gb263, 0, none⟩ = some (.int .i64 0) := (blk_cell BK263.out 0).trans rfl
                    have hcz53_1 : wc.cell? ⟨gb263, 1, none⟩ = some (.int .i64 0) := (blk_cell BK263.out 1).trans rfl
                    have hcz53_2 : wc.cell? ⟨gb263, 2, none⟩ = some (.string (⟨#[]⟩ : ByteArray)) := (blk_cell BK263.out 2).trans rfl
                    have hfz53_0 := blk_frozen BK263.out 0
                    have hfz53_1 := blk_frozen BK263.out 1
                    have hfz53_2 := blk_frozen BK263.out 2
                    go_wp2
                    repeat (go_quiet (fail); try go_wp2)
                    refine bodyPost_ret (results_ct rfl _ _ gb263 23 #[.int .i64 0, .int .i64 0, .string (⟨#[]⟩ : ByteArray)] (0, 0) _ rfl q39_ Tryd.underlying23 rfl (by kernel_rfl)) rfl ?_
                    exact ⟨q13_, q0_⟩
                  · replace c50 := Bool.eq_false_iff.mpr c50
                    subst c50
                    replace H := ifF_ H
                    by_cases c54 : a2 = 0
                    · rw [if_pos c54] at H
                      have c54b0 : (a2 == 0) = true := beq_iff_eq.mpr c54
                      have c54b1 : (a2 != 0) = false := bne_eq_false_iff_eq.mpr c54
                      clear c54
                      replace H := Option.bind_eq_some_iff.mp H
                      obtain ⟨⟨t266, t267⟩, A550, H⟩ := H
                      replace H : (if t267 = true then (some (2, t266, (⟨#[]⟩ : ByteArray), 0)) else (some (0, 0, (⟨#[]⟩ : ByteArray), 14))) = some (r1, r2, r3, r4) := H
                      have A55 := Aside0.mk A550
                      clear A550
                      by_cases c56 : t267 = true
                      · subst c56
                        replace H := ifT_ H
                        simp only [Option.some.injEq, Prod.mk.injEq] at H
                        obtain ⟨rfl, rfl, rfl, rfl⟩ := H
                        have hnb57 := NB261_262.out
                        have hnc57 := NB262_261.out
                        have hnb58 := NB261_263.out
                        have hnc58 := NB263_261.out
                        have hcz59_0 : wc.cell? ⟨gb261, 0, none⟩ = some (.int .i64 a0_0) := (blk_cell BK261.out 0).trans rfl
                        have hcz59_1 : wc.cell? ⟨gb261, 1, none⟩ = some (.int .i64 a0_1) := (blk_cell BK261.out 1).trans rfl
                        have hcz59_2 : wc.cell? ⟨gb261, 2, none⟩ = some (.string a0_2) := (blk_cell BK261.out 2).trans rfl
                        have hfz59_0 := blk_frozen BK261.out 0
                        have hfz59_1 := blk_frozen BK261.out 1
                        have hfz59_2 := blk_frozen BK261.out 2
                        have hnb60 := NB262_263.out
                        have hnc60 := NB263_262.out
                        have hcz61_0 : wc.cell? ⟨gb262, 0, none⟩ = some (.int .i64 a1_0) := (blk_cell BK262.out 0).trans rfl
                        have hcz61_1 : wc.cell? ⟨gb262, 1, none⟩ = some (.int .i64 a1_1) := (blk_cell BK262.out 1).trans rfl
                        have hcz61_2 : wc.cell? ⟨gb262, 2, none⟩ = some (.string a1_2) := (blk_cell BK262.out 2).trans rfl
                        have hfz61_0 := blk_frozen BK262.out 0
                        have hfz61_1 := blk_frozen BK262.out 1
                        have hfz61_2 := blk_frozen BK262.out 2
                        go_wp2_with (first | (go_at_call 37; (with_reducible refine (corollaryref01_Sum.calls a0_1 a1_1 t266 true _ A55.out).mono ?_); rintro e w' ⟨rfl, ⟨nd, rfl⟩⟩; (try first | exact ⟨rfl, _, World.drewN_drewN _ _ _⟩ | exact ⟨rfl, _, Eq.trans (World.drewN_drewN _ _ _) (congrArg (World.drewN _) (Nat.add_assoc _ _ _))⟩); have hcz62_0 : wc.cell? ⟨gb263, 0, none⟩ = some (.int .i64 0) := (blk_cell BK263.out 0).trans rfl; have hcz62_1 : wc.cell? ⟨gb263, 1, none⟩ = some (.int .i64 0) := (blk_cell BK263.out 1).trans rfl; have hcz62_2 : wc.cell? ⟨gb263, 2, none⟩ = some (.string (⟨#[]⟩ : ByteArray)) := (blk_cell BK263.out 2).trans rfl; have hfz62_0 := blk_frozen BK263.out 0; have hfz62_1 := blk_frozen BK263.out 1; have hfz62_2 := blk_frozen BK263.out 2))
                        repeat (go_quiet (first | (go_at_call 37; (with_reducible refine (corollaryref01_Sum.calls a0_1 a1_1 t266 true _ A55.out).mono ?_); rintro e w' ⟨rfl, ⟨nd, rfl⟩⟩; (try first | exact ⟨rfl, _, World.drewN_drewN _ _ _⟩ | exact ⟨rfl, _, Eq.trans (World.drewN_drewN _ _ _) (congrArg (World.drewN _) (Nat.add_assoc _ _ _))⟩); have hcz62_0 : wc.cell? ⟨gb263, 0, none⟩ = some (.int .i64 0) := (blk_cell BK263.out 0).trans rfl; have hcz62_1 : wc.cell? ⟨gb263, 1, none⟩ = some (.int .i64 0) := (blk_cell BK263.out 1).trans rfl; have hcz62_2 : wc.cell? ⟨gb263, 2, none⟩ = some (.string (⟨#[]⟩ : ByteArray)) := (blk_cell BK263.out 2).trans rfl; have hfz62_0 := blk_frozen BK263.out 0; have hfz62_1 := blk_frozen BK263.out 1; have hfz62_2 := blk_frozen BK263.out 2)); try go_wp2_with (first | (go_at_call 37; (with_reducible refine (corollaryref01_Sum.calls a0_1 a1_1 t266 true _ A55.out).mono ?_); rintro e w' ⟨rfl, ⟨nd, rfl⟩⟩; (try first | exact ⟨rfl, _, World.drewN_drewN _ _ _⟩ | exact ⟨rfl, _, Eq.trans (World.drewN_drewN _ _ _) (congrArg (World.drewN _) (Nat.add_assoc _ _ _))⟩); have hcz62_0 : wc.cell? ⟨gb263, 0, none⟩ = some (.int .i64 0) := (blk_cell BK263.out 0).trans rfl; have hcz62_1 : wc.cell? ⟨gb263, 1, none⟩ = some (.int .i64 0) := (blk_cell BK263.out 1).trans rfl; have hcz62_2 : wc.cell? ⟨gb263, 2, none⟩ = some (.string (⟨#[]⟩ : ByteArray)) := (blk_cell BK263.out 2).trans rfl; have hfz62_0 := blk_frozen BK263.out 0; have hfz62_1 := blk_frozen BK263.out 1; have hfz62_2 := blk_frozen BK263.out 2)))
                        refine bodyPost_ret (results_ct rfl _ _ gb263 23 #[.int .i64 2, .int .i64 t266, .string (⟨#[]⟩ : ByteArray)] (0, 0) _ rfl (by (with_reducible repeat first | apply bN_ | apply bD_ | apply bA_); refine blk_put (cs := #[.int .i64 2, .int .i64 t266, .string (⟨#[]⟩ : ByteArray)]) ?_ 2 _ rfl; (with_reducible repeat first | apply bN_ | apply bD_ | apply bA_); refine blk_put (cs := #[.int .i64 2, .int .i64 0, .string (⟨#[]⟩ : ByteArray)]) ?_ 1 _ rfl; (with_reducible repeat first | apply bN_ | apply bD_ | apply bA_); refine blk_put (cs := #[.int .i64 0, .int .i64 0, .string (⟨#[]⟩ : ByteArray)]) ?_ 0 _ rfl; (with_reducible repeat first | apply bN_ | apply bD_ | apply bA_); exact BK263.out) Tryd.underlying23 rfl (by kernel_rfl)) rfl ?_
                        exact ⟨q13_, q0_⟩
                      · replace c56 := Bool.eq_false_iff.mpr c56
                        subst c56
                        replace H := ifF_ H
                        simp only [Option.some.injEq, Prod.mk.injEq] at H
                        obtain ⟨rfl, rfl, rfl, rfl⟩ := H
                        have hnb63 := NB261_262.out
                        have hnc63 := NB262_261.out
                        have hnb64 := NB261_263.out
                        have hnc64 := NB263_261.out
                        have hcz65_0 : wc.cell? ⟨gb261, 0, none⟩ = some (.int .i64 a0_0) := (blk_cell BK261.out 0).trans rfl
                        have hcz65_1 : wc.cell? ⟨gb261, 1, none⟩ = some (.int .i64 a0_1) := (blk_cell BK261.out 1).trans rfl
                        have hcz65_2 : wc.cell? ⟨gb261, 2, none⟩ = some (.string a0_2) := (blk_cell BK261.out 2).trans rfl
                        have hfz65_0 := blk_frozen BK261.out 0
                        have hfz65_1 := blk_frozen BK261.out 1
                        have hfz65_2 := blk_frozen BK261.out 2
                        have hnb66 := NB262_263.out
                        have hnc66 := NB263_262.out
                        have hcz67_0 : wc.cell? ⟨gb262, 0, none⟩ = some (.int .i64 a1_0) := (blk_cell BK262.out 0).trans rfl
                        have hcz67_1 : wc.cell? ⟨gb262, 1, none⟩ = some (.int .i64 a1_1) := (blk_cell BK262.out 1).trans rfl
                        have hcz67_2 : wc.cell? ⟨gb262, 2, none⟩ = some (.string a1_2) := (blk_cell BK262.out 2).trans rfl
                        have hfz67_0 := blk_frozen BK262.out 0
                        have hfz67_1 := blk_frozen BK262.out 1
                        have hfz67_2 := blk_frozen BK262.out 2
                        go_wp2_with (first | (go_at_call 37; (with_reducible refine (corollaryref01_Sum.calls a0_1 a1_1 t266 false _ A55.out).mono ?_); rintro e w' ⟨rfl, ⟨nd, rfl⟩⟩; (try first | exact ⟨rfl, _, World.drewN_drewN _ _ _⟩ | exact ⟨rfl, _, Eq.trans (World.drewN_drewN _ _ _) (congrArg (World.drewN _) (Nat.add_assoc _ _ _))⟩); have hcz68_0 : wc.cell? ⟨gb263, 0, none⟩ = some (.int .i64 0) := (blk_cell BK263.out 0).trans rfl; have hcz68_1 : wc.cell? ⟨gb263, 1, none⟩ = some (.int .i64 0) := (blk_cell BK263.out 1).trans rfl; have hcz68_2 : wc.cell? ⟨gb263, 2, none⟩ = some (.string (⟨#[]⟩ : ByteArray)) := (blk_cell BK263.out 2).trans rfl; have hfz68_0 := blk_frozen BK263.out 0; have hfz68_1 := blk_frozen BK263.out 1; have hfz68_2 := blk_frozen BK263.out 2))
                        repeat (go_quiet (first | (go_at_call 37; (with_reducible refine (corollaryref01_Sum.calls a0_1 a1_1 t266 false _ A55.out).mono ?_); rintro e w' ⟨rfl, ⟨nd, rfl⟩⟩; (try first | exact ⟨rfl, _, World.drewN_drewN _ _ _⟩ | exact ⟨rfl, _, Eq.trans (World.drewN_drewN _ _ _) (congrArg (World.drewN _) (Nat.add_assoc _ _ _))⟩); have hcz68_0 : wc.cell? ⟨gb263, 0, none⟩ = some (.int .i64 0) := (blk_cell BK263.out 0).trans rfl; have hcz68_1 : wc.cell? ⟨gb263, 1, none⟩ = some (.int .i64 0) := (blk_cell BK263.out 1).trans rfl; have hcz68_2 : wc.cell? ⟨gb263, 2, none⟩ = some (.string (⟨#[]⟩ : ByteArray)) := (blk_cell BK263.out 2).trans rfl; have hfz68_0 := blk_frozen BK263.out 0; have hfz68_1 := blk_frozen BK263.out 1; have hfz68_2 := blk_frozen BK263.out 2)); try go_wp2_with (first | (go_at_call 37; (with_reducible refine (corollaryref01_Sum.calls a0_1 a1_1 t266 false _ A55.out).mono ?_); rintro e w' ⟨rfl, ⟨nd, rfl⟩⟩; (try first | exact ⟨rfl, _, World.drewN_drewN _ _ _⟩ | exact ⟨rfl, _, Eq.trans (World.drewN_drewN _ _ _) (congrArg (World.drewN _) (Nat.add_assoc _ _ _))⟩); have hcz68_0 : wc.cell? ⟨gb263, 0, none⟩ = some (.int .i64 0) := (blk_cell BK263.out 0).trans rfl; have hcz68_1 : wc.cell? ⟨gb263, 1, none⟩ = some (.int .i64 0) := (blk_cell BK263.out 1).trans rfl; have hcz68_2 : wc.cell? ⟨gb263, 2, none⟩ = some (.string (⟨#[]⟩ : ByteArray)) := (blk_cell BK263.out 2).trans rfl; have hfz68_0 := blk_frozen BK263.out 0; have hfz68_1 := blk_frozen BK263.out 1; have hfz68_2 := blk_frozen BK263.out 2)))
                        refine bodyPost_ret (results_ct rfl _ _ gb263 23 #[.int .i64 0, .int .i64 0, .string (⟨#[]⟩ : ByteArray)] (0, 0) _ rfl q39_ Tryd.underlying23 rfl (by kernel_rfl)) rfl ?_
                        exact ⟨q13_, q0_⟩
                    · rw [if_neg c54] at H
                      have c54b0 : (a2 == 0) = false := beq_eq_false_iff_ne.mpr c54
                      have c54b1 : (a2 != 0) = true := bne_iff_ne.mpr c54
                      by_cases c69 : a2 = 1
                      · rw [if_pos c69] at H
                        have c69b0 : (a2 == 1) = true := beq_iff_eq.mpr c69
                        have c69b1 : (a2 != 1) = false := bne_eq_false_iff_eq.mpr c69
                        clear c69
                        replace H := Option.bind_eq_some_iff.mp H
                        obtain ⟨⟨t268, t269⟩, A700, H⟩ := H
                        replace H : ((corollaryref01_Sum.f a0_1 t268).bind fun bt270 => (if t269 = true then (if bt270.2 = true then (some (2, bt270.1, (⟨#[]⟩ : ByteArray), 0)) else (some (0, 0, (⟨#[]⟩ : ByteArray), 14))) else (if a0_1 < 0 then (some (2, wrap64 (a0_1 - a1_1), (⟨#[]⟩ : ByteArray), 0)) else (some (0, 0, (⟨#[]⟩ : ByteArray), 14))))) = some (r1, r2, r3, r4) := H
                        have A70 := Aside0.mk A700
                        clear A700
                        replace H := Option.bind_eq_some_iff.mp H
                        obtain ⟨⟨t270, t271⟩, A710, H⟩ := H
                        replace H : (if t269 = true then (if t271 = true then (some (2, t270, (⟨#[]⟩ : ByteArray), 0)) else (some (0, 0, (⟨#[]⟩ : ByteArray), 14))) else (if a0_1 < 0 then (some (2, wrap64 (a0_1 - a1_1), (⟨#[]⟩ : ByteArray), 0)) else (some (0, 0, (⟨#[]⟩ : ByteArray), 14)))) = some (r1, r2, r3, r4) := H
                        have A71 := Aside0.mk A710
                        clear A710
                        by_cases c72 : t269 = true
                        · subst c72
                          replace H := ifT_ H
                          by_cases c73 : t271 = true
                          · subst c73
                            replace H := ifT_ H
                            simp only [Option.some.injEq, Prod.mk.injEq] at H
                            obtain ⟨rfl, rfl, rfl, rfl⟩ := H
                            have hnb74 := NB262_261.out
                            have hnc74 := NB261_262.out
                            have hnb75 := NB262_263.out
                            have hnc75 := NB263_262.out
                            have hcz76_0 : wc.cell? ⟨gb262, 0, none⟩ = some (.int .i64 a1_0) := (blk_cell BK262.out 0).trans rfl
                            have hcz76_1 : wc.cell? ⟨gb262, 1, none⟩ = some (.int .i64 a1_1) := (blk_cell BK262.out 1).trans rfl
                            have hcz76_2 : wc.cell? ⟨gb262, 2, none⟩ = some (.string a1_2) := (blk_cell BK262.out 2).trans rfl
                            have hfz76_0 := blk_frozen BK262.out 0
                            have hfz76_1 := blk_frozen BK262.out 1
                            have hfz76_2 := blk_frozen BK262.out 2
                            go_wp2_with (first | (go_at_call 38; (with_reducible refine (corollaryref01_Turn.calls a1_1 t268 true _ A70.out).mono ?_); rintro e w' ⟨rfl, ⟨nd, rfl⟩⟩; (try first | exact ⟨rfl, _, World.drewN_drewN _ _ _⟩ | exact ⟨rfl, _, Eq.trans (World.drewN_drewN _ _ _) (congrArg (World.drewN _) (Nat.add_assoc _ _ _))⟩); have hnb77 := NB261_263.out; have hnc77 := NB263_261.out; have hcz78_0 : wc.cell? ⟨gb261, 0, none⟩ = some (.int .i64 a0_0) := (blk_cell BK261.out 0).trans rfl; have hcz78_1 : wc.cell? ⟨gb261, 1, none⟩ = some (.int .i64 a0_1) := (blk_cell BK261.out 1).trans rfl; have hcz78_2 : wc.cell? ⟨gb261, 2, none⟩ = some (.string a0_2) := (blk_cell BK261.out 2).trans rfl; have hfz78_0 := blk_frozen BK261.out 0; have hfz78_1 := blk_frozen BK261.out 1; have hfz78_2 := blk_frozen BK261.out 2) | (go_at_call 37; (with_reducible refine (corollaryref01_Sum.calls a0_1 t268 t270 true _ A71.out).mono ?_); rintro e w' ⟨rfl, ⟨nd, rfl⟩⟩; (try first | exact ⟨rfl, _, World.drewN_drewN _ _ _⟩ | exact ⟨rfl, _, Eq.trans (World.drewN_drewN _ _ _) (congrArg (World.drewN _) (Nat.add_assoc _ _ _))⟩); have hcz79_0 : wc.cell? ⟨gb263, 0, none⟩ = some (.int .i64 0) := (blk_cell BK263.out 0).trans rfl; have hcz79_1 : wc.cell? ⟨gb263, 1, none⟩ = some (.int .i64 0) := (blk_cell BK263.out 1).trans rfl; have hcz79_2 : wc.cell? ⟨gb263, 2, none⟩ = some (.string (⟨#[]⟩ : ByteArray)) := (blk_cell BK263.out 2).trans rfl; have hfz79_0 := blk_frozen BK263.out 0; have hfz79_1 := blk_frozen BK263.out 1; have hfz79_2 := blk_frozen BK263.out 2))
                            repeat (go_quiet (first | (go_at_call 38; (with_reducible refine (corollaryref01_Turn.calls a1_1 t268 true _ A70.out).mono ?_); rintro e w' ⟨rfl, ⟨nd, rfl⟩⟩; (try first | exact ⟨rfl, _, World.drewN_drewN _ _ _⟩ | exact ⟨rfl, _, Eq.trans (World.drewN_drewN _ _ _) (congrArg (World.drewN _) (Nat.add_assoc _ _ _))⟩); have hnb77 := NB261_263.out; have hnc77 := NB263_261.out; have hcz78_0 : wc.cell? ⟨gb261, 0, none⟩ = some (.int .i64 a0_0) := (blk_cell BK261.out 0).trans rfl; have hcz78_1 : wc.cell? ⟨gb261, 1, none⟩ = some (.int .i64 a0_1) := (blk_cell BK261.out 1).trans rfl; have hcz78_2 : wc.cell? ⟨gb261, 2, none⟩ = some (.string a0_2) := (blk_cell BK261.out 2).trans rfl; have hfz78_0 := blk_frozen BK261.out 0; have hfz78_1 := blk_frozen BK261.out 1; have hfz78_2 := blk_frozen BK261.out 2) | (go_at_call 37; (with_reducible refine (corollaryref01_Sum.calls a0_1 t268 t270 true _ A71.out).mono ?_); rintro e w' ⟨rfl, ⟨nd, rfl⟩⟩; (try first | exact ⟨rfl, _, World.drewN_drewN _ _ _⟩ | exact ⟨rfl, _, Eq.trans (World.drewN_drewN _ _ _) (congrArg (World.drewN _) (Nat.add_assoc _ _ _))⟩); have hcz79_0 : wc.cell? ⟨gb263, 0, none⟩ = some (.int .i64 0) := (blk_cell BK263.out 0).trans rfl; have hcz79_1 : wc.cell? ⟨gb263, 1, none⟩ = some (.int .i64 0) := (blk_cell BK263.out 1).trans rfl; have hcz79_2 : wc.cell? ⟨gb263, 2, none⟩ = some (.string (⟨#[]⟩ : ByteArray)) := (blk_cell BK263.out 2).trans rfl; have hfz79_0 := blk_frozen BK263.out 0; have hfz79_1 := blk_frozen BK263.out 1; have hfz79_2 := blk_frozen BK263.out 2)); try go_wp2_with (first | (go_at_call 38; (with_reducible refine (corollaryref01_Turn.calls a1_1 t268 true _ A70.out).mono ?_); rintro e w' ⟨rfl, ⟨nd, rfl⟩⟩; (try first | exact ⟨rfl, _, World.drewN_drewN _ _ _⟩ | exact ⟨rfl, _, Eq.trans (World.drewN_drewN _ _ _) (congrArg (World.drewN _) (Nat.add_assoc _ _ _))⟩); have hnb77 := NB261_263.out; have hnc77 := NB263_261.out; have hcz78_0 : wc.cell? ⟨gb261, 0, none⟩ = some (.int .i64 a0_0) := (blk_cell BK261.out 0).trans rfl; have hcz78_1 : wc.cell? ⟨gb261, 1, none⟩ = some (.int .i64 a0_1) := (blk_cell BK261.out 1).trans rfl; have hcz78_2 : wc.cell? ⟨gb261, 2, none⟩ = some (.string a0_2) := (blk_cell BK261.out 2).trans rfl; have hfz78_0 := blk_frozen BK261.out 0; have hfz78_1 := blk_frozen BK261.out 1; have hfz78_2 := blk_frozen BK261.out 2) | (go_at_call 37; (with_reducible refine (corollaryref01_Sum.calls a0_1 t268 t270 true _ A71.out).mono ?_); rintro e w' ⟨rfl, ⟨nd, rfl⟩⟩; (try first | exact ⟨rfl, _, World.drewN_drewN _ _ _⟩ | exact ⟨rfl, _, Eq.trans (World.drewN_drewN _ _ _) (congrArg (World.drewN _) (Nat.add_assoc _ _ _))⟩); have hcz79_0 : wc.cell? ⟨gb263, 0, none⟩ = some (.int .i64 0) := (blk_cell BK263.out 0).trans rfl; have hcz79_1 : wc.cell? ⟨gb263, 1, none⟩ = some (.int .i64 0) := (blk_cell BK263.out 1).trans rfl; have hcz79_2 : wc.cell? ⟨gb263, 2, none⟩ = some (.string (⟨#[]⟩ : ByteArray)) := (blk_cell BK263.out 2).trans rfl; have hfz79_0 := blk_frozen BK263.out 0; have hfz79_1 := blk_frozen BK263.out 1; have hfz79_2 := blk_frozen BK263.out 2)))
                            refine bodyPost_ret (results_ct rfl _ _ gb263 23 #[.int .i64 2, .int .i64 t270, .string (⟨#[]⟩ : ByteArray)] (0, 0) _ rfl (by (with_reducible repeat first | apply bN_ | apply bD_ | apply bA_); refine blk_put (cs := #[.int .i64 2, .int .i64 t270, .string (⟨#[]⟩ : ByteArray)]) ?_ 2 _ rfl; (with_reducible repeat first | apply bN_ | apply bD_ | apply bA_); refine blk_put (cs := #[.int .i64 2, .int .i64 0, .string (⟨#[]⟩ : ByteArray)]) ?_ 1 _ rfl; (with_reducible repeat first | apply bN_ | apply bD_ | apply bA_); refine blk_put (cs := #[.int .i64 0, .int .i64 0, .string (⟨#[]⟩ : ByteArray)]) ?_ 0 _ rfl; (with_reducible repeat first | apply bN_ | apply bD_ | apply bA_); exact BK263.out) Tryd.underlying23 rfl (by kernel_rfl)) rfl ?_
                            exact ⟨q13_, q0_⟩
                          · replace c73 := Bool.eq_false_iff.mpr c73
                            subst c73
                            replace H := ifF_ H
                            simp only [Option.some.injEq, Prod.mk.injEq] at H
                            obtain ⟨rfl, rfl, rfl, rfl⟩ := H
                            have hnb80 := NB262_261.out
                            have hnc80 := NB261_262.out
                            have hnb81 := NB262_263.out
                            have hnc81 := NB263_262.out
                            have hcz82_0 : wc.cell? ⟨gb262, 0, none⟩ = some (.int .i64 a1_0) := (blk_cell BK262.out 0).trans rfl
                            have hcz82_1 : wc.cell? ⟨gb262, 1, none⟩ = some (.int .i64 a1_1) := (blk_cell BK262.out 1).trans rfl
                            have hcz82_2 : wc.cell? ⟨gb262, 2, none⟩ = some (.string a1_2) := (blk_cell BK262.out 2).trans rfl
                            have hfz82_0 := blk_frozen BK262.out 0
                            have hfz82_1 := blk_frozen BK262.out 1
                            have hfz82_2 := blk_frozen BK262.out 2
                            go_wp2_with (first | (go_at_call 38; (with_reducible refine (corollaryref01_Turn.calls a1_1 t268 true _ A70.out).mono ?_); rintro e w' ⟨rfl, ⟨nd, rfl⟩⟩; (try first | exact ⟨rfl, _, World.drewN_drewN _ _ _⟩ | exact ⟨rfl, _, Eq.trans (World.drewN_drewN _ _ _) (congrArg (World.drewN _) (Nat.add_assoc _ _ _))⟩); have hnb83 := NB261_263.out; have hnc83 := NB263_261.out; have hcz84_0 : wc.cell? ⟨gb261, 0, none⟩ = some (.int .i64 a0_0) := (blk_cell BK261.out 0).trans rfl; have hcz84_1 : wc.cell? ⟨gb261, 1, none⟩ = some (.int .i64 a0_1) := (blk_cell BK261.out 1).trans rfl; have hcz84_2 : wc.cell? ⟨gb261, 2, none⟩ = some (.string a0_2) := (blk_cell BK261.out 2).trans rfl; have hfz84_0 := blk_frozen BK261.out 0; have hfz84_1 := blk_frozen BK261.out 1; have hfz84_2 := blk_frozen BK261.out 2) | (go_at_call 37; (with_reducible refine (corollaryref01_Sum.calls a0_1 t268 t270 false _ A71.out).mono ?_); rintro e w' ⟨rfl, ⟨nd, rfl⟩⟩; (try first | exact ⟨rfl, _, World.drewN_drewN _ _ _⟩ | exact ⟨rfl, _, Eq.trans (World.drewN_drewN _ _ _) (congrArg (World.drewN _) (Nat.add_assoc _ _ _))⟩); have hcz85_0 : wc.cell? ⟨gb263, 0, none⟩ = some (.int .i64 0) := (blk_cell BK263.out 0).trans rfl; have hcz85_1 : wc.cell? ⟨gb263, 1, none⟩ = some (.int .i64 0) := (blk_cell BK263.out 1).trans rfl; have hcz85_2 : wc.cell? ⟨gb263, 2, none⟩ = some (.string (⟨#[]⟩ : ByteArray)) := (blk_cell BK263.out 2).trans rfl; have hfz85_0 := blk_frozen BK263.out 0; have hfz85_1 := blk_frozen BK263.out 1; have hfz85_2 := blk_frozen BK263.out 2))
                            repeat (go_quiet (first | (go_at_call 38; (with_reducible refine (corollaryref01_Turn.calls a1_1 t268 true _ A70.out).mono ?_); rintro e w' ⟨rfl, ⟨nd, rfl⟩⟩; (try first | exact ⟨rfl, _, World.drewN_drewN _ _ _⟩ | exact ⟨rfl, _, Eq.trans (World.drewN_drewN _ _ _) (congrArg (World.drewN _) (Nat.add_assoc _ _ _))⟩); have hnb83 := NB261_263.out; have hnc83 := NB263_261.out; have hcz84_0 : wc.cell? ⟨gb261, 0, none⟩ = some (.int .i64 a0_0) := (blk_cell BK261.out 0).trans rfl; have hcz84_1 : wc.cell? ⟨gb261, 1, none⟩ = some (.int .i64 a0_1) := (blk_cell BK261.out 1).trans rfl; have hcz84_2 : wc.cell? ⟨gb261, 2, none⟩ = some (.string a0_2) := (blk_cell BK261.out 2).trans rfl; have hfz84_0 := blk_frozen BK261.out 0; have hfz84_1 := blk_frozen BK261.out 1; have hfz84_2 := blk_frozen BK261.out 2) | (go_at_call 37; (with_reducible refine (corollaryref01_Sum.calls a0_1 t268 t270 false _ A71.out).mono ?_); rintro e w' ⟨rfl, ⟨nd, rfl⟩⟩; (try first | exact ⟨rfl, _, World.drewN_drewN _ _ _⟩ | exact ⟨rfl, _, Eq.trans (World.drewN_drewN _ _ _) (congrArg (World.drewN _) (Nat.add_assoc _ _ _))⟩); have hcz85_0 : wc.cell? ⟨gb263, 0, none⟩ = some (.int .i64 0) := (blk_cell BK263.out 0).trans rfl; have hcz85_1 : wc.cell? ⟨gb263, 1, none⟩ = some (.int .i64 0) := (blk_cell BK263.out 1).trans rfl; have hcz85_2 : wc.cell? ⟨gb263, 2, none⟩ = some (.string (⟨#[]⟩ : ByteArray)) := (blk_cell BK263.out 2).trans rfl; have hfz85_0 := blk_frozen BK263.out 0; have hfz85_1 := blk_frozen BK263.out 1; have hfz85_2 := blk_frozen BK263.out 2)); try go_wp2_with (first | (go_at_call 38; (with_reducible refine (corollaryref01_Turn.calls a1_1 t268 true _ A70.out).mono ?_); rintro e w' ⟨rfl, ⟨nd, rfl⟩⟩; (try first | exact ⟨rfl, _, World.drewN_drewN _ _ _⟩ | exact ⟨rfl, _, Eq.trans (World.drewN_drewN _ _ _) (congrArg (World.drewN _) (Nat.add_assoc _ _ _))⟩); have hnb83 := NB261_263.out; have hnc83 := NB263_261.out; have hcz84_0 : wc.cell? ⟨gb261, 0, none⟩ = some (.int .i64 a0_0) := (blk_cell BK261.out 0).trans rfl; have hcz84_1 : wc.cell? ⟨gb261, 1, none⟩ = some (.int .i64 a0_1) := (blk_cell BK261.out 1).trans rfl; have hcz84_2 : wc.cell? ⟨gb261, 2, none⟩ = some (.string a0_2) := (blk_cell BK261.out 2).trans rfl; have hfz84_0 := blk_frozen BK261.out 0; have hfz84_1 := blk_frozen BK261.out 1; have hfz84_2 := blk_frozen BK261.out 2) | (go_at_call 37; (with_reducible refine (corollaryref01_Sum.calls a0_1 t268 t270 false _ A71.out).mono ?_); rintro e w' ⟨rfl, ⟨nd, rfl⟩⟩; (try first | exact ⟨rfl, _, World.drewN_drewN _ _ _⟩ | exact ⟨rfl, _, Eq.trans (World.drewN_drewN _ _ _) (congrArg (World.drewN _) (Nat.add_assoc _ _ _))⟩); have hcz85_0 : wc.cell? ⟨gb263, 0, none⟩ = some (.int .i64 0) := (blk_cell BK263.out 0).trans rfl; have hcz85_1 : wc.cell? ⟨gb263, 1, none⟩ = some (.int .i64 0) := (blk_cell BK263.out 1).trans rfl; have hcz85_2 : wc.cell? ⟨gb263, 2, none⟩ = some (.string (⟨#[]⟩ : ByteArray)) := (blk_cell BK263.out 2).trans rfl; have hfz85_0 := blk_frozen BK263.out 0; have hfz85_1 := blk_frozen BK263.out 1; have hfz85_2 := blk_frozen BK263.out 2)))
                            refine bodyPost_ret (results_ct rfl _ _ gb263 23 #[.int .i64 0, .int .i64 0, .string (⟨#[]⟩ : ByteArray)] (0, 0) _ rfl q39_ Tryd.underlying23 rfl (by kernel_rfl)) rfl ?_
                            exact ⟨q13_, q0_⟩
                        · replace c72 := Bool.eq_false_iff.mpr c72
                          subst c72
                          replace H := ifF_ H
                          by_cases c86 : a0_1 < 0
                          · rw [if_pos c86] at H
                            have c86b0 : decide (a0_1 < 0) = true := decide_eq_true c86
                            clear c86
                            simp only [Option.some.injEq, Prod.mk.injEq] at H
                            obtain ⟨rfl, rfl, rfl, rfl⟩ := H
                            have hnb87 := NB262_261.out
                            have hnc87 := NB261_262.out
                            have hnb88 := NB262_263.out
                            have hnc88 := NB263_262.out
                            have hcz89_0 : wc.cell? ⟨gb262, 0, none⟩ = some (.int .i64 a1_0) := (blk_cell BK262.out 0).trans rfl
                            have hcz89_1 : wc.cell? ⟨gb262, 1, none⟩ = some (.int .i64 a1_1) := (blk_cell BK262.out 1).trans rfl
                            have hcz89_2 : wc.cell? ⟨gb262, 2, none⟩ = some (.string a1_2) := (blk_cell BK262.out 2).trans rfl
                            have hfz89_0 := blk_frozen BK262.out 0
                            have hfz89_1 := blk_frozen BK262.out 1
                            have hfz89_2 := blk_frozen BK262.out 2
                            go_wp2_with (first | (go_at_call 38; (with_reducible refine (corollaryref01_Turn.calls a1_1 t268 false _ A70.out).mono ?_); rintro e w' ⟨rfl, ⟨nd, rfl⟩⟩; (try first | exact ⟨rfl, _, World.drewN_drewN _ _ _⟩ | exact ⟨rfl, _, Eq.trans (World.drewN_drewN _ _ _) (congrArg (World.drewN _) (Nat.add_assoc _ _ _))⟩); have hnb90 := NB261_263.out; have hnc90 := NB263_261.out; have hcz91_0 : wc.cell? ⟨gb261, 0, none⟩ = some (.int .i64 a0_0) := (blk_cell BK261.out 0).trans rfl; have hcz91_1 : wc.cell? ⟨gb261, 1, none⟩ = some (.int .i64 a0_1) := (blk_cell BK261.out 1).trans rfl; have hcz91_2 : wc.cell? ⟨gb261, 2, none⟩ = some (.string a0_2) := (blk_cell BK261.out 2).trans rfl; have hfz91_0 := blk_frozen BK261.out 0; have hfz91_1 := blk_frozen BK261.out 1; have hfz91_2 := blk_frozen BK261.out 2) | (go_at_call 37; (with_reducible refine (corollaryref01_Sum.calls a0_1 t268 t270 t271 _ A71.out).mono ?_); rintro e w' ⟨rfl, ⟨nd, rfl⟩⟩; (try first | exact ⟨rfl, _, World.drewN_drewN _ _ _⟩ | exact ⟨rfl, _, Eq.trans (World.drewN_drewN _ _ _) (congrArg (World.drewN _) (Nat.add_assoc _ _ _))⟩); have hcz92_0 : wc.cell? ⟨gb263, 0, none⟩ = some (.int .i64 0) := (blk_cell BK263.out 0).trans rfl; have hcz92_1 : wc.cell? ⟨gb263, 1, none⟩ = some (.int .i64 0) := (blk_cell BK263.out 1).trans rfl; have hcz92_2 : wc.cell? ⟨gb263, 2, none⟩ = some (.string (⟨#[]⟩ : ByteArray)) := (blk_cell BK263.out 2).trans rfl; have hfz92_0 := blk_frozen BK263.out 0; have hfz92_1 := blk_frozen BK263.out 1; have hfz92_2 := blk_frozen BK263.out 2))
                            repeat (go_quiet (first | (go_at_call 38; (with_reducible refine (corollaryref01_Turn.calls a1_1 t268 false _ A70.out).mono ?_); rintro e w' ⟨rfl, ⟨nd, rfl⟩⟩; (try first | exact ⟨rfl, _, World.drewN_drewN _ _ _⟩ | exact ⟨rfl, _, Eq.trans (World.drewN_drewN _ _ _) (congrArg (World.drewN _) (Nat.add_assoc _ _ _))⟩); have hnb90 := NB261_263.out; have hnc90 := NB263_261.out; have hcz91_0 : wc.cell? ⟨gb261, 0, none⟩ = some (.int .i64 a0_0) := (blk_cell BK261.out 0).trans rfl; have hcz91_1 : wc.cell? ⟨gb261, 1, none⟩ = some (.int .i64 a0_1) := (blk_cell BK261.out 1).trans rfl; have hcz91_2 : wc.cell? ⟨gb261, 2, none⟩ = some (.string a0_2) := (blk_cell BK261.out 2).trans rfl; have hfz91_0 := blk_frozen BK261.out 0; have hfz91_1 := blk_frozen BK261.out 1; have hfz91_2 := blk_frozen BK261.out 2) | (go_at_call 37; (with_reducible refine (corollaryref01_Sum.calls a0_1 t268 t270 t271 _ A71.out).mono ?_); rintro e w' ⟨rfl, ⟨nd, rfl⟩⟩; (try first | exact ⟨rfl, _, World.drewN_drewN _ _ _⟩ | exact ⟨rfl, _, Eq.trans (World.drewN_drewN _ _ _) (congrArg (World.drewN _) (Nat.add_assoc _ _ _))⟩); have hcz92_0 : wc.cell? ⟨gb263, 0, none⟩ = some (.int .i64 0) := (blk_cell BK263.out 0).trans rfl; have hcz92_1 : wc.cell? ⟨gb263, 1, none⟩ = some (.int .i64 0) := (blk_cell BK263.out 1).trans rfl; have hcz92_2 : wc.cell? ⟨gb263, 2, none⟩ = some (.string (⟨#[]⟩ : ByteArray)) := (blk_cell BK263.out 2).trans rfl; have hfz92_0 := blk_frozen BK263.out 0; have hfz92_1 := blk_frozen BK263.out 1; have hfz92_2 := blk_frozen BK263.out 2)); try go_wp2_with (first | (go_at_call 38; (with_reducible refine (corollaryref01_Turn.calls a1_1 t268 false _ A70.out).mono ?_); rintro e w' ⟨rfl, ⟨nd, rfl⟩⟩; (try first | exact ⟨rfl, _, World.drewN_drewN _ _ _⟩ | exact ⟨rfl, _, Eq.trans (World.drewN_drewN _ _ _) (congrArg (World.drewN _) (Nat.add_assoc _ _ _))⟩); have hnb90 := NB261_263.out; have hnc90 := NB263_261.out; have hcz91_0 : wc.cell? ⟨gb261, 0, none⟩ = some (.int .i64 a0_0) := (blk_cell BK261.out 0).trans rfl; have hcz91_1 : wc.cell? ⟨gb261, 1, none⟩ = some (.int .i64 a0_1) := (blk_cell BK261.out 1).trans rfl; have hcz91_2 : wc.cell? ⟨gb261, 2, none⟩ = some (.string a0_2) := (blk_cell BK261.out 2).trans rfl; have hfz91_0 := blk_frozen BK261.out 0; have hfz91_1 := blk_frozen BK261.out 1; have hfz91_2 := blk_frozen BK261.out 2) | (go_at_call 37; (with_reducible refine (corollaryref01_Sum.calls a0_1 t268 t270 t271 _ A71.out).mono ?_); rintro e w' ⟨rfl, ⟨nd, rfl⟩⟩; (try first | exact ⟨rfl, _, World.drewN_drewN _ _ _⟩ | exact ⟨rfl, _, Eq.trans (World.drewN_drewN _ _ _) (congrArg (World.drewN _) (Nat.add_assoc _ _ _))⟩); have hcz92_0 : wc.cell? ⟨gb263, 0, none⟩ = some (.int .i64 0) := (blk_cell BK263.out 0).trans rfl; have hcz92_1 : wc.cell? ⟨gb263, 1, none⟩ = some (.int .i64 0) := (blk_cell BK263.out 1).trans rfl; have hcz92_2 : wc.cell? ⟨gb263, 2, none⟩ = some (.string (⟨#[]⟩ : ByteArray)) := (blk_cell BK263.out 2).trans rfl; have hfz92_0 := blk_frozen BK263.out 0; have hfz92_1 := blk_frozen BK263.out 1; have hfz92_2 := blk_frozen BK263.out 2)))
                            refine bodyPost_ret (results_ct rfl _ _ gb263 23 #[.int .i64 2, .int .i64 (wrap64 (a0_1 - a1_1)), .string (⟨#[]⟩ : ByteArray)] (0, 0) _ rfl (by (with_reducible repeat first | apply bN_ | apply bD_ | apply bA_); refine blk_put (cs := #[.int .i64 2, .int .i64 (wrap64 (a0_1 - a1_1)), .string (⟨#[]⟩ : ByteArray)]) ?_ 2 _ rfl; (with_reducible repeat first | apply bN_ | apply bD_ | apply bA_); refine blk_put (cs := #[.int .i64 2, .int .i64 0, .string (⟨#[]⟩ : ByteArray)]) ?_ 1 _ rfl; (with_reducible repeat first | apply bN_ | apply bD_ | apply bA_); refine blk_put (cs := #[.int .i64 0, .int .i64 0, .string (⟨#[]⟩ : ByteArray)]) ?_ 0 _ rfl; (with_reducible repeat first | apply bN_ | apply bD_ | apply bA_); exact BK263.out) Tryd.underlying23 rfl (by kernel_rfl)) rfl ?_
                            exact ⟨q13_, q0_⟩
                          · rw [if_neg c86] at H
                            have c86b0 : decide (a0_1 < 0) = false := decide_eq_false c86
                            clear c86
                            simp only [Option.some.injEq, Prod.mk.injEq] at H
                            obtain ⟨rfl, rfl, rfl, rfl⟩ := H
                            have hnb93 := NB262_261.out
                            have hnc93 := NB261_262.out
                            have hnb94 := NB262_263.out
                            have hnc94 := NB263_262.out
                            have hcz95_0 : wc.cell? ⟨gb262, 0, none⟩ = some (.int .i64 a1_0) := (blk_cell BK262.out 0).trans rfl
                            have hcz95_1 : wc.cell? ⟨gb262, 1, none⟩ = some (.int .i64 a1_1) := (blk_cell BK262.out 1).trans rfl
                            have hcz95_2 : wc.cell? ⟨gb262, 2, none⟩ = some (.string a1_2) := (blk_cell BK262.out 2).trans rfl
                            have hfz95_0 := blk_frozen BK262.out 0
                            have hfz95_1 := blk_frozen BK262.out 1
                            have hfz95_2 := blk_frozen BK262.out 2
                            go_wp2_with (first | (go_at_call 38; (with_reducible refine (corollaryref01_Turn.calls a1_1 t268 false _ A70.out).mono ?_); rintro e w' ⟨rfl, ⟨nd, rfl⟩⟩; (try first | exact ⟨rfl, _, World.drewN_drewN _ _ _⟩ | exact ⟨rfl, _, Eq.trans (World.drewN_drewN _ _ _) (congrArg (World.drewN _) (Nat.add_assoc _ _ _))⟩); have hnb96 := NB261_263.out; have hnc96 := NB263_261.out; have hcz97_0 : wc.cell? ⟨gb261, 0, none⟩ = some (.int .i64 a0_0) := (blk_cell BK261.out 0).trans rfl; have hcz97_1 : wc.cell? ⟨gb261, 1, none⟩ = some (.int .i64 a0_1) := (blk_cell BK261.out 1).trans rfl; have hcz97_2 : wc.cell? ⟨gb261, 2, none⟩ = some (.string a0_2) := (blk_cell BK261.out 2).trans rfl; have hfz97_0 := blk_frozen BK261.out 0; have hfz97_1 := blk_frozen BK261.out 1; have hfz97_2 := blk_frozen BK261.out 2) | (go_at_call 37; (with_reducible refine (corollaryref01_Sum.calls a0_1 t268 t270 t271 _ A71.out).mono ?_); rintro e w' ⟨rfl, ⟨nd, rfl⟩⟩; (try first | exact ⟨rfl, _, World.drewN_drewN _ _ _⟩ | exact ⟨rfl, _, Eq.trans (World.drewN_drewN _ _ _) (congrArg (World.drewN _) (Nat.add_assoc _ _ _))⟩); have hcz98_0 : wc.cell? ⟨gb263, 0, none⟩ = some (.int .i64 0) := (blk_cell BK263.out 0).trans rfl; have hcz98_1 : wc.cell? ⟨gb263, 1, none⟩ = some (.int .i64 0) := (blk_cell BK263.out 1).trans rfl; have hcz98_2 : wc.cell? ⟨gb263, 2, none⟩ = some (.string (⟨#[]⟩ : ByteArray)) := (blk_cell BK263.out 2).trans rfl; have hfz98_0 := blk_frozen BK263.out 0; have hfz98_1 := blk_frozen BK263.out 1; have hfz98_2 := blk_frozen BK263.out 2))
                            repeat (go_quiet (first | (go_at_call 38; (with_reducible refine (corollaryref01_Turn.calls a1_1 t268 false _ A70.out).mono ?_); rintro e w' ⟨rfl, ⟨nd, rfl⟩⟩; (try first | exact ⟨rfl, _, World.drewN_drewN _ _ _⟩ | exact ⟨rfl, _, Eq.trans (World.drewN_drewN _ _ _) (congrArg (World.drewN _) (Nat.add_assoc _ _ _))⟩); have hnb96 := NB261_263.out; have hnc96 := NB263_261.out; have hcz97_0 : wc.cell? ⟨gb261, 0, none⟩ = some (.int .i64 a0_0) := (blk_cell BK261.out 0).trans rfl; have hcz97_1 : wc.cell? ⟨gb261, 1, none⟩ = some (.int .i64 a0_1) := (blk_cell BK261.out 1).trans rfl; have hcz97_2 : wc.cell? ⟨gb261, 2, none⟩ = some (.string a0_2) := (blk_cell BK261.out 2).trans rfl; have hfz97_0 := blk_frozen BK261.out 0; have hfz97_1 := blk_frozen BK261.out 1; have hfz97_2 := blk_frozen BK261.out 2) | (go_at_call 37; (with_reducible refine (corollaryref01_Sum.calls a0_1 t268 t270 t271 _ A71.out).mono ?_); rintro e w' ⟨rfl, ⟨nd, rfl⟩⟩; (try first | exact ⟨rfl, _, World.drewN_drewN _ _ _⟩ | exact ⟨rfl, _, Eq.trans (World.drewN_drewN _ _ _) (congrArg (World.drewN _) (Nat.add_assoc _ _ _))⟩); have hcz98_0 : wc.cell? ⟨gb263, 0, none⟩ = some (.int .i64 0) := (blk_cell BK263.out 0).trans rfl; have hcz98_1 : wc.cell? ⟨gb263, 1, none⟩ = some (.int .i64 0) := (blk_cell BK263.out 1).trans rfl; have hcz98_2 : wc.cell? ⟨gb263, 2, none⟩ = some (.string (⟨#[]⟩ : ByteArray)) := (blk_cell BK263.out 2).trans rfl; have hfz98_0 := blk_frozen BK263.out 0; have hfz98_1 := blk_frozen BK263.out 1; have hfz98_2 := blk_frozen BK263.out 2)); try go_wp2_with (first | (go_at_call 38; (with_reducible refine (corollaryref01_Turn.calls a1_1 t268 false _ A70.out).mono ?_); rintro e w' ⟨rfl, ⟨nd, rfl⟩⟩; (try first | exact ⟨rfl, _, World.drewN_drewN _ _ _⟩ | exact ⟨rfl, _, Eq.trans (World.drewN_drewN _ _ _) (congrArg (World.drewN _) (Nat.add_assoc _ _ _))⟩); have hnb96 := NB261_263.out; have hnc96 := NB263_261.out; have hcz97_0 : wc.cell? ⟨gb261, 0, none⟩ = some (.int .i64 a0_0) := (blk_cell BK261.out 0).trans rfl; have hcz97_1 : wc.cell? ⟨gb261, 1, none⟩ = some (.int .i64 a0_1) := (blk_cell BK261.out 1).trans rfl; have hcz97_2 : wc.cell? ⟨gb261, 2, none⟩ = some (.string a0_2) := (blk_cell BK261.out 2).trans rfl; have hfz97_0 := blk_frozen BK261.out 0; have hfz97_1 := blk_frozen BK261.out 1; have hfz97_2 := blk_frozen BK261.out 2) | (go_at_call 37; (with_reducible refine (corollaryref01_Sum.calls a0_1 t268 t270 t271 _ A71.out).mono ?_); rintro e w' ⟨rfl, ⟨nd, rfl⟩⟩; (try first | exact ⟨rfl, _, World.drewN_drewN _ _ _⟩ | exact ⟨rfl, _, Eq.trans (World.drewN_drewN _ _ _) (congrArg (World.drewN _) (Nat.add_assoc _ _ _))⟩); have hcz98_0 : wc.cell? ⟨gb263, 0, none⟩ = some (.int .i64 0) := (blk_cell BK263.out 0).trans rfl; have hcz98_1 : wc.cell? ⟨gb263, 1, none⟩ = some (.int .i64 0) := (blk_cell BK263.out 1).trans rfl; have hcz98_2 : wc.cell? ⟨gb263, 2, none⟩ = some (.string (⟨#[]⟩ : ByteArray)) := (blk_cell BK263.out 2).trans rfl; have hfz98_0 := blk_frozen BK263.out 0; have hfz98_1 := blk_frozen BK263.out 1; have hfz98_2 := blk_frozen BK263.out 2)))
                            refine bodyPost_ret (results_ct rfl _ _ gb263 23 #[.int .i64 0, .int .i64 0, .string (⟨#[]⟩ : ByteArray)] (0, 0) _ rfl q39_ Tryd.underlying23 rfl (by kernel_rfl)) rfl ?_
                            exact ⟨q13_, q0_⟩
                      · rw [if_neg c69] at H
                        have c69b0 : (a2 == 1) = false := beq_eq_false_iff_ne.mpr c69
                        have c69b1 : (a2 != 1) = true := bne_iff_ne.mpr c69
                        by_cases c99 : a2 = 2
                        · rw [if_pos c99] at H
                          have c99b0 : (a2 == 2) = true := beq_iff_eq.mpr c99
                          have c99b1 : (a2 != 2) = false := bne_eq_false_iff_eq.mpr c99
                          clear c99
                          replace H := Option.bind_eq_some_iff.mp H
                          obtain ⟨⟨t272, t273⟩, A1000, H⟩ := H
                          replace H : (if t273 = true then (some (2, t272, (⟨#[]⟩ : ByteArray), 0)) else (some (0, 0, (⟨#[]⟩ : ByteArray), 14))) = some (r1, r2, r3, r4) := H
                          have A100 := Aside0.mk A1000
                          clear A1000
                          by_cases c101 : t273 = true
                          · subst c101
                            replace H := ifT_ H
                            simp only [Option.some.injEq, Prod.mk.injEq] at H
                            obtain ⟨rfl, rfl, rfl, rfl⟩ := H
                            have hnb102 := NB261_262.out
                            have hnc102 := NB262_261.out
                            have hnb103 := NB261_263.out
                            have hnc103 := NB263_261.out
                            have hcz104_0 : wc.cell? ⟨gb261, 0, none⟩ = some (.int .i64 a0_0) := (blk_cell BK261.out 0).trans rfl
                            have hcz104_1 : wc.cell? ⟨gb261, 1, none⟩ = some (.int .i64 a0_1) := (blk_cell BK261.out 1).trans rfl
                            have hcz104_2 : wc.cell? ⟨gb261, 2, none⟩ = some (.string a0_2) := (blk_cell BK261.out 2).trans rfl
                            have hfz104_0 := blk_frozen BK261.out 0
                            have hfz104_1 := blk_frozen BK261.out 1
                            have hfz104_2 := blk_frozen BK261.out 2
                            have hnb105 := NB262_263.out
                            have hnc105 := NB263_262.out
                            have hcz106_0 : wc.cell? ⟨gb262, 0, none⟩ = some (.int .i64 a1_0) := (blk_cell BK262.out 0).trans rfl
                            have hcz106_1 : wc.cell? ⟨gb262, 1, none⟩ = some (.int .i64 a1_1) := (blk_cell BK262.out 1).trans rfl
                            have hcz106_2 : wc.cell? ⟨gb262, 2, none⟩ = some (.string a1_2) := (blk_cell BK262.out 2).trans rfl
                            have hfz106_0 := blk_frozen BK262.out 0
                            have hfz106_1 := blk_frozen BK262.out 1
                            have hfz106_2 := blk_frozen BK262.out 2
                            go_wp2_with (first | (go_at_call 39; (with_reducible refine (corollaryref01_Times.calls kj39 a0_1 a1_1 t272 true _ A100.out).mono ?_); rintro e w' ⟨rfl, ⟨nd, rfl⟩⟩; (try first | exact ⟨rfl, _, World.drewN_drewN _ _ _⟩ | exact ⟨rfl, _, Eq.trans (World.drewN_drewN _ _ _) (congrArg (World.drewN _) (Nat.add_assoc _ _ _))⟩); have hcz107_0 : wc.cell? ⟨gb263, 0, none⟩ = some (.int .i64 0) := (blk_cell BK263.out 0).trans rfl; have hcz107_1 : wc.cell? ⟨gb263, 1, none⟩ = some (.int .i64 0) := (blk_cell BK263.out 1).trans rfl; have hcz107_2 : wc.cell? ⟨gb263, 2, none⟩ = some (.string (⟨#[]⟩ : ByteArray)) := (blk_cell BK263.out 2).trans rfl; have hfz107_0 := blk_frozen BK263.out 0; have hfz107_1 := blk_frozen BK263.out 1; have hfz107_2 := blk_frozen BK263.out 2))
                            repeat (go_quiet (first | (go_at_call 39; (with_reducible refine (corollaryref01_Times.calls kj39 a0_1 a1_1 t272 true _ A100.out).mono ?_); rintro e w' ⟨rfl, ⟨nd, rfl⟩⟩; (try first | exact ⟨rfl, _, World.drewN_drewN _ _ _⟩ | exact ⟨rfl, _, Eq.trans (World.drewN_drewN _ _ _) (congrArg (World.drewN _) (Nat.add_assoc _ _ _))⟩); have hcz107_0 : wc.cell? ⟨gb263, 0, none⟩ = some (.int .i64 0) := (blk_cell BK263.out 0).trans rfl; have hcz107_1 : wc.cell? ⟨gb263, 1, none⟩ = some (.int .i64 0) := (blk_cell BK263.out 1).trans rfl; have hcz107_2 : wc.cell? ⟨gb263, 2, none⟩ = some (.string (⟨#[]⟩ : ByteArray)) := (blk_cell BK263.out 2).trans rfl; have hfz107_0 := blk_frozen BK263.out 0; have hfz107_1 := blk_frozen BK263.out 1; have hfz107_2 := blk_frozen BK263.out 2)); try go_wp2_with (first | (go_at_call 39; (with_reducible refine (corollaryref01_Times.calls kj39 a0_1 a1_1 t272 true _ A100.out).mono ?_); rintro e w' ⟨rfl, ⟨nd, rfl⟩⟩; (try first | exact ⟨rfl, _, World.drewN_drewN _ _ _⟩ | exact ⟨rfl, _, Eq.trans (World.drewN_drewN _ _ _) (congrArg (World.drewN _) (Nat.add_assoc _ _ _))⟩); have hcz107_0 : wc.cell? ⟨gb263, 0, none⟩ = some (.int .i64 0) := (blk_cell BK263.out 0).trans rfl; have hcz107_1 : wc.cell? ⟨gb263, 1, none⟩ = some (.int .i64 0) := (blk_cell BK263.out 1).trans rfl; have hcz107_2 : wc.cell? ⟨gb263, 2, none⟩ = some (.string (⟨#[]⟩ : ByteArray)) := (blk_cell BK263.out 2).trans rfl; have hfz107_0 := blk_frozen BK263.out 0; have hfz107_1 := blk_frozen BK263.out 1; have hfz107_2 := blk_frozen BK263.out 2)))
                            refine bodyPost_ret (results_ct rfl _ _ gb263 23 #[.int .i64 2, .int .i64 t272, .string (⟨#[]⟩ : ByteArray)] (0, 0) _ rfl (by (with_reducible repeat first | apply bN_ | apply bD_ | apply bA_); refine blk_put (cs := #[.int .i64 2, .int .i64 t272, .string (⟨#[]⟩ : ByteArray)]) ?_ 2 _ rfl; (with_reducible repeat first | apply bN_ | apply bD_ | apply bA_); refine blk_put (cs := #[.int .i64 2, .int .i64 0, .string (⟨#[]⟩ : ByteArray)]) ?_ 1 _ rfl; (with_reducible repeat first | apply bN_ | apply bD_ | apply bA_); refine blk_put (cs := #[.int .i64 0, .int .i64 0, .string (⟨#[]⟩ : ByteArray)]) ?_ 0 _ rfl; (with_reducible repeat first | apply bN_ | apply bD_ | apply bA_); exact BK263.out) Tryd.underlying23 rfl (by kernel_rfl)) rfl ?_
                            exact ⟨q13_, q0_⟩
                          · replace c101 := Bool.eq_false_iff.mpr c101
                            subst c101
                            replace H := ifF_ H
                            simp only [Option.some.injEq, Prod.mk.injEq] at H
                            obtain ⟨rfl, rfl, rfl, rfl⟩ := H
                            have hnb108 := NB261_262.out
                            have hnc108 := NB262_261.out
                            have hnb109 := NB261_263.out
                            have hnc109 := NB263_261.out
                            have hcz110_0 : wc.cell? ⟨gb261, 0, none⟩ = some (.int .i64 a0_0) := (blk_cell BK261.out 0).trans rfl
                            have hcz110_1 : wc.cell? ⟨gb261, 1, none⟩ = some (.int .i64 a0_1) := (blk_cell BK261.out 1).trans rfl
                            have hcz110_2 : wc.cell? ⟨gb261, 2, none⟩ = some (.string a0_2) := (blk_cell BK261.out 2).trans rfl
                            have hfz110_0 := blk_frozen BK261.out 0
                            have hfz110_1 := blk_frozen BK261.out 1
                            have hfz110_2 := blk_frozen BK261.out 2
                            have hnb111 := NB262_263.out
                            have hnc111 := NB263_262.out
                            have hcz112_0 : wc.cell? ⟨gb262, 0, none⟩ = some (.int .i64 a1_0) := (blk_cell BK262.out 0).trans rfl
                            have hcz112_1 : wc.cell? ⟨gb262, 1, none⟩ = some (.int .i64 a1_1) := (blk_cell BK262.out 1).trans rfl
                            have hcz112_2 : wc.cell? ⟨gb262, 2, none⟩ = some (.string a1_2) := (blk_cell BK262.out 2).trans rfl
                            have hfz112_0 := blk_frozen BK262.out 0
                            have hfz112_1 := blk_frozen BK262.out 1
                            have hfz112_2 := blk_frozen BK262.out 2
                            go_wp2_with (first | (go_at_call 39; (with_reducible refine (corollaryref01_Times.calls kj39 a0_1 a1_1 t272 false _ A100.out).mono ?_); rintro e w' ⟨rfl, ⟨nd, rfl⟩⟩; (try first | exact ⟨rfl, _, World.drewN_drewN _ _ _⟩ | exact ⟨rfl, _, Eq.trans (World.drewN_drewN _ _ _) (congrArg (World.drewN _) (Nat.add_assoc _ _ _))⟩); have hcz113_0 : wc.cell? ⟨gb263, 0, none⟩ = some (.int .i64 0) := (blk_cell BK263.out 0).trans rfl; have hcz113_1 : wc.cell? ⟨gb263, 1, none⟩ = some (.int .i64 0) := (blk_cell BK263.out 1).trans rfl; have hcz113_2 : wc.cell? ⟨gb263, 2, none⟩ = some (.string (⟨#[]⟩ : ByteArray)) := (blk_cell BK263.out 2).trans rfl; have hfz113_0 := blk_frozen BK263.out 0; have hfz113_1 := blk_frozen BK263.out 1; have hfz113_2 := blk_frozen BK263.out 2))
                            repeat (go_quiet (first | (go_at_call 39; (with_reducible refine (corollaryref01_Times.calls kj39 a0_1 a1_1 t272 false _ A100.out).mono ?_); rintro e w' ⟨rfl, ⟨nd, rfl⟩⟩; (try first | exact ⟨rfl, _, World.drewN_drewN _ _ _⟩ | exact ⟨rfl, _, Eq.trans (World.drewN_drewN _ _ _) (congrArg (World.drewN _) (Nat.add_assoc _ _ _))⟩); have hcz113_0 : wc.cell? ⟨gb263, 0, none⟩ = some (.int .i64 0) := (blk_cell BK263.out 0).trans rfl; have hcz113_1 : wc.cell? ⟨gb263, 1, none⟩ = some (.int .i64 0) := (blk_cell BK263.out 1).trans rfl; have hcz113_2 : wc.cell? ⟨gb263, 2, none⟩ = some (.string (⟨#[]⟩ : ByteArray)) := (blk_cell BK263.out 2).trans rfl; have hfz113_0 := blk_frozen BK263.out 0; have hfz113_1 := blk_frozen BK263.out 1; have hfz113_2 := blk_frozen BK263.out 2)); try go_wp2_with (first | (go_at_call 39; (with_reducible refine (corollaryref01_Times.calls kj39 a0_1 a1_1 t272 false _ A100.out).mono ?_); rintro e w' ⟨rfl, ⟨nd, rfl⟩⟩; (try first | exact ⟨rfl, _, World.drewN_drewN _ _ _⟩ | exact ⟨rfl, _, Eq.trans (World.drewN_drewN _ _ _) (congrArg (World.drewN _) (Nat.add_assoc _ _ _))⟩); have hcz113_0 : wc.cell? ⟨gb263, 0, none⟩ = some (.int .i64 0) := (blk_cell BK263.out 0).trans rfl; have hcz113_1 : wc.cell? ⟨gb263, 1, none⟩ = some (.int .i64 0) := (blk_cell BK263.out 1).trans rfl; have hcz113_2 : wc.cell? ⟨gb263, 2, none⟩ = some (.string (⟨#[]⟩ : ByteArray)) := (blk_cell BK263.out 2).trans rfl; have hfz113_0 := blk_frozen BK263.out 0; have hfz113_1 := blk_frozen BK263.out 1; have hfz113_2 := blk_frozen BK263.out 2)))
                            refine bodyPost_ret (results_ct rfl _ _ gb263 23 #[.int .i64 0, .int .i64 0, .string (⟨#[]⟩ : ByteArray)] (0, 0) _ rfl q39_ Tryd.underlying23 rfl (by kernel_rfl)) rfl ?_
                            exact ⟨q13_, q0_⟩
                        · rw [if_neg c99] at H
                          have c99b0 : (a2 == 2) = false := beq_eq_false_iff_ne.mpr c99
                          have c99b1 : (a2 != 2) = true := bne_iff_ne.mpr c99
                          simp only [Option.some.injEq, Prod.mk.injEq] at H
                          obtain ⟨rfl, rfl, rfl, rfl⟩ := H
                          have hnb114 := NB263_261.out
                          have hnc114 := NB261_263.out
                          have hnb115 := NB263_262.out
                          have hnc115 := NB262_263.out
                          have hcz116_0 : wc.cell? ⟨gb263, 0, none⟩ = some (.int .i64 0) := (blk_cell BK263.out 0).trans rfl
                          have hcz116_1 : wc.cell? ⟨gb263, 1, none⟩ = some (.int .i64 0) := (blk_cell BK263.out 1).trans rfl
                          have hcz116_2 : wc.cell? ⟨gb263, 2, none⟩ = some (.string (⟨#[]⟩ : ByteArray)) := (blk_cell BK263.out 2).trans rfl
                          have hfz116_0 := blk_frozen BK263.out 0
                          have hfz116_1 := blk_frozen BK263.out 1
                          have hfz116_2 := blk_frozen BK263.out 2
                          go_wp2
                          repeat (go_quiet (fail); try go_wp2)
                          refine bodyPost_ret (results_ct rfl _ _ gb263 23 #[.int .i64 0, .int .i64 0, .string (⟨#[]⟩ : ByteArray)] (0, 0) _ rfl q39_ Tryd.underlying23 rfl (by kernel_rfl)) rfl ?_
                          exact ⟨q13_, q0_⟩

end Go.Proofs.YtmdnnpahmoaicaaDoor.P
