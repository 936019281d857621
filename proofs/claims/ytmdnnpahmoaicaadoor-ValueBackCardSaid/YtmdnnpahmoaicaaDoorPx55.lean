-- Written by our own program (wip/xprint) over the seat's translation. Lean checks it.
import Derived.Test.YtmdnnpahmoaicaaDoorPx0
import Derived.Test.YtmdnnpahmoaicaaDoorPx1
import Derived.Test.YtmdnnpahmoaicaaDoorPx48
import Derived.Test.YtmdnnpahmoaicaaDoorPx50
import Derived.Test.YtmdnnpahmoaicaaDoorPx53
namespace Go.Proofs.YtmdnnpahmoaicaaDoor.P
open Go.RowKit Go.Proofs.YtmdnnpahmoaicaaDoorW.PrintWords Go.Proofs.YtmdnnpahmoaicaaDoorW.PrintLast Go.Proofs.YtmdnnpahmoaicaaDoorW.PrintMore
attribute [local go_sem] max2_int min2_mn max_two min_two max_three min_three max_four min_four   -- for this text's walks alone
set_option linter.unusedVariables false
set_option linter.unusedSimpArgs false


attribute [local go_sem high] eqA23
/-! ### corollarylaw01_ValueBack: function 6 -/
mutual
def corollarylaw01_ValueBack.j0 : Nat → Int → Bool → Int → Int → ByteArray → Int → Int → ByteArray → Int → Int → ByteArray → Option (Bool)
  | 0, _, _, _, _, _, _, _, _, _, _, _ => none
  | k + 1, x6, x56, x230000, x230001, x230002, x231000, x231001, x231002, x236000, x236001, x236002 => if x56 = true then (some false) else (if x6 = 0 then (corollarylaw01_ValueBack.j1 k (x236000 == 0) x230000 x230001 x230002 x231000 x231001 x231002 x236000 x236001 x236002) else (corollarylaw01_ValueBack.j1 k true x230000 x230001 x230002 x231000 x231001 x231002 x236000 x236001 x236002))
def corollarylaw01_ValueBack.j1 : Nat → Bool → Int → Int → ByteArray → Int → Int → ByteArray → Int → Int → ByteArray → Option (Bool)
  | 0, _, _, _, _, _, _, _, _, _, _ => none
  | k + 1, x63, x230000, x230001, x230002, x231000, x231001, x231002, x236000, x236001, x236002 => if x63 = true then ((corollarylaw01_awake.f k).bind fun t251 => (some t251)) else ((value_Sub.f k x236000 x236001 x236002 x231000 x231001 x231002).bind fun bt252 => (if (bt252.1 == x230000 && (bt252.2.1 == x230001 && (bt252.2.2.1.toList == x230002.toList))) = true then (if bt252.2.2.2 = 0 then ((corollarylaw01_awake.f k).bind fun t257 => (some t257)) else (some false)) else (some false)))
end
def corollarylaw01_ValueBack.f (k : Nat) (a0_0 : Int) (a0_1 : Int) (a0_2 : ByteArray) (a1_0 : Int) (a1_1 : Int) (a1_2 : ByteArray) : Option (Bool) := (value_Add.f k a0_0 a0_1 a0_2 a1_0 a1_1 a1_2).bind fun bt231 => ((value_Add.f k a1_0 a1_1 a1_2 a0_0 a0_1 a0_2).bind fun bt236 => ((value_Mul.f k a0_0 a0_1 a0_2 a1_0 a1_1 a1_2).bind fun bt241 => ((value_Mul.f k a1_0 a1_1 a1_2 a0_0 a0_1 a0_2).bind fun bt246 => (if (!(bt231.1 == bt236.1) || (!(bt231.2.1 == bt236.2.1) || (!(bt231.2.2.1.toList == bt236.2.2.1.toList)))) = true then (corollarylaw01_ValueBack.j0 k bt231.2.2.2 true a0_0 a0_1 a0_2 a1_0 a1_1 a1_2 bt231.1 bt231.2.1 bt231.2.2.1) else (if bt231.2.2.2 = bt236.2.2.2 then (if (!(bt241.1 == bt246.1) || (!(bt241.2.1 == bt246.2.1) || (!(bt241.2.2.1.toList == bt246.2.2.1.toList)))) = true then (corollarylaw01_ValueBack.j0 k bt231.2.2.2 true a0_0 a0_1 a0_2 a1_0 a1_1 a1_2 bt231.1 bt231.2.1 bt231.2.2.1) else (corollarylaw01_ValueBack.j0 k bt231.2.2.2 (bt241.2.2.2 != bt246.2.2.2) a0_0 a0_1 a0_2 a1_0 a1_1 a1_2 bt231.1 bt231.2.1 bt231.2.2.1)) else (corollarylaw01_ValueBack.j0 k bt231.2.2.2 true a0_0 a0_1 a0_2 a1_0 a1_1 a1_2 bt231.1 bt231.2.1 bt231.2.2.1))))))
theorem corollarylaw01_ValueBack.mono_l : ∀ k, (∀ y0 y1 y2 y3 y4 y5 y6 y7 y8 y9 y10, LeO (corollarylaw01_ValueBack.j0 k y0 y1 y2 y3 y4 y5 y6 y7 y8 y9 y10) (corollarylaw01_ValueBack.j0 (k + 1) y0 y1 y2 y3 y4 y5 y6 y7 y8 y9 y10)) ∧ (∀ y0 y1 y2 y3 y4 y5 y6 y7 y8 y9, LeO (corollarylaw01_ValueBack.j1 k y0 y1 y2 y3 y4 y5 y6 y7 y8 y9) (corollarylaw01_ValueBack.j1 (k + 1) y0 y1 y2 y3 y4 y5 y6 y7 y8 y9))
  | 0 => ⟨fun _ _ _ _ _ _ _ _ _ _ _ r h => by simp [corollarylaw01_ValueBack.j0] at h, fun _ _ _ _ _ _ _ _ _ _ r h => by simp [corollarylaw01_ValueBack.j1] at h⟩
  | k + 1 => by
    obtain ⟨ih0, ih1⟩ := corollarylaw01_ValueBack.mono_l k
    refine ⟨?_, ?_⟩
    all_goals intros
    all_goals first
      | unfold corollarylaw01_ValueBack.j0
      | unfold corollarylaw01_ValueBack.j1
    all_goals repeat' first
      | (with_reducible exact ih0 _ _ _ _ _ _ _ _ _ _ _)
      | (with_reducible exact ih1 _ _ _ _ _ _ _ _ _ _)
      | (with_reducible exact corollarylaw01_awake.mono _)
      | (with_reducible exact value_Add.mono _ _ _ _ _ _ _)
      | (with_reducible exact value_Mul.mono _ _ _ _ _ _ _)
      | (with_reducible exact value_Sub.mono _ _ _ _ _ _ _)
      | (with_reducible exact LeO.refl _)
      | (with_reducible exact LeO.none _)
      | (with_reducible refine LeO.ite ?_ ?_)
      | (with_reducible refine LeO.bind ?_ (fun _ => ?_))
      | exact ih0 _ _ _ _ _ _ _ _ _ _ _
      | exact ih1 _ _ _ _ _ _ _ _ _ _
      | exact corollarylaw01_awake.mono _
      | exact value_Add.mono _ _ _ _ _ _ _
      | exact value_Mul.mono _ _ _ _ _ _ _
      | exact value_Sub.mono _ _ _ _ _ _ _
      | exact LeO.none _
      | refine LeO.ite ?_ ?_
      | refine LeO.bind ?_ (fun _ => ?_)
theorem corollarylaw01_ValueBack.mono : ∀ a0 a1 a2 a3 a4 a5 k, LeO (corollarylaw01_ValueBack.f k a0 a1 a2 a3 a4 a5) (corollarylaw01_ValueBack.f (k + 1) a0 a1 a2 a3 a4 a5) := by
  intro a0 a1 a2 a3 a4 a5 k
  obtain ⟨ih0, ih1⟩ := corollarylaw01_ValueBack.mono_l k
  unfold corollarylaw01_ValueBack.f
  repeat' first
      | (with_reducible exact ih0 _ _ _ _ _ _ _ _ _ _ _)
      | (with_reducible exact ih1 _ _ _ _ _ _ _ _ _ _)
      | (with_reducible exact corollarylaw01_awake.mono _)
      | (with_reducible exact value_Add.mono _ _ _ _ _ _ _)
      | (with_reducible exact value_Mul.mono _ _ _ _ _ _ _)
      | (with_reducible exact value_Sub.mono _ _ _ _ _ _ _)
      | (with_reducible exact LeO.refl _)
      | (with_reducible exact LeO.none _)
      | (with_reducible refine LeO.ite ?_ ?_)
      | (with_reducible refine LeO.bind ?_ (fun _ => ?_))
      | exact ih0 _ _ _ _ _ _ _ _ _ _ _
      | exact ih1 _ _ _ _ _ _ _ _ _ _
      | exact corollarylaw01_awake.mono _
      | exact value_Add.mono _ _ _ _ _ _ _
      | exact value_Mul.mono _ _ _ _ _ _ _
      | exact value_Sub.mono _ _ _ _ _ _ _
      | exact LeO.none _
      | refine LeO.ite ?_ ?_
      | refine LeO.bind ?_ (fun _ => ?_)
set_option maxHeartbeats 8000000 in
set_option maxRecDepth 100000 in
theorem corollarylaw01_ValueBack.calls (k : Nat) (a0_0 : Int) (a0_1 : Int) (a0_2 : ByteArray) (a1_0 : Int) (a1_1 : Int) (a1_2 : ByteArray) (r : Bool) (w : World) (h : corollarylaw01_ValueBack.f k a0_0 a0_1 a0_2 a1_0 a1_1 a1_2 = some r) (hG : Glob w) :
    Calls Tryd.prog 6 #[.agg #[.int .i64 a0_0, .int .i64 a0_1, .string a0_2], .agg #[.int .i64 a1_0, .int .i64 a1_1, .string a1_2]] w fun e w' => e = .returned (.bool r) ∧ Below w.heap.size w w' := by
  have hu23 := Tryd.underlying23
  have HG := Aside0.mk hG
  clear hG
  have HB := Aside0.mk (Below.refl w.heap.size w)
  have H : ((value_Add.f k a0_0 a0_1 a0_2 a1_0 a1_1 a1_2).bind fun bt231 => ((value_Add.f k a1_0 a1_1 a1_2 a0_0 a0_1 a0_2).bind fun bt236 => ((value_Mul.f k a0_0 a0_1 a0_2 a1_0 a1_1 a1_2).bind fun bt241 => ((value_Mul.f k a1_0 a1_1 a1_2 a0_0 a0_1 a0_2).bind fun bt246 => (if (!(bt231.1 == bt236.1) || (!(bt231.2.1 == bt236.2.1) || (!(bt231.2.2.1.toList == bt236.2.2.1.toList)))) = true then (corollarylaw01_ValueBack.j0 k bt231.2.2.2 true a0_0 a0_1 a0_2 a1_0 a1_1 a1_2 bt231.1 bt231.2.1 bt231.2.2.1) else (if bt231.2.2.2 = bt236.2.2.2 then (if (!(bt241.1 == bt246.1) || (!(bt241.2.1 == bt246.2.1) || (!(bt241.2.2.1.toList == bt246.2.2.1.toList)))) = true then (corollarylaw01_ValueBack.j0 k bt231.2.2.2 true a0_0 a0_1 a0_2 a1_0 a1_1 a1_2 bt231.1 bt231.2.1 bt231.2.2.1) else (corollarylaw01_ValueBack.j0 k bt231.2.2.2 (bt241.2.2.2 != bt246.2.2.2) a0_0 a0_1 a0_2 a1_0 a1_1 a1_2 bt231.1 bt231.2.1 bt231.2.2.1)) else (corollarylaw01_ValueBack.j0 k bt231.2.2.2 true a0_0 a0_1 a0_2 a1_0 a1_1 a1_2 bt231.1 bt231.2.1 bt231.2.2.1))))))) = some r := h
  clear h
  replace H := Option.bind_eq_some_iff.mp H
  obtain ⟨⟨t231, t232, t233, t234⟩, A30, H⟩ := H
  replace H : ((value_Add.f k a1_0 a1_1 a1_2 a0_0 a0_1 a0_2).bind fun bt236 => ((value_Mul.f k a0_0 a0_1 a0_2 a1_0 a1_1 a1_2).bind fun bt241 => ((value_Mul.f k a1_0 a1_1 a1_2 a0_0 a0_1 a0_2).bind fun bt246 => (if (!(t231 == bt236.1) || (!(t232 == bt236.2.1) || (!(t233.toList == bt236.2.2.1.toList)))) = true then (corollarylaw01_ValueBack.j0 k t234 true a0_0 a0_1 a0_2 a1_0 a1_1 a1_2 t231 t232 t233) else (if t234 = bt236.2.2.2 then (if (!(bt241.1 == bt246.1) || (!(bt241.2.1 == bt246.2.1) || (!(bt241.2.2.1.toList == bt246.2.2.1.toList)))) = true then (corollarylaw01_ValueBack.j0 k t234 true a0_0 a0_1 a0_2 a1_0 a1_1 a1_2 t231 t232 t233) else (corollarylaw01_ValueBack.j0 k t234 (bt241.2.2.2 != bt246.2.2.2) a0_0 a0_1 a0_2 a1_0 a1_1 a1_2 t231 t232 t233)) else (corollarylaw01_ValueBack.j0 k t234 true a0_0 a0_1 a0_2 a1_0 a1_1 a1_2 t231 t232 t233)))))) = some r := H
  have A3 := Aside0.mk A30
  clear A30
  replace H := Option.bind_eq_some_iff.mp H
  obtain ⟨⟨t236, t237, t238, t239⟩, A40, H⟩ := H
  replace H : ((value_Mul.f k a0_0 a0_1 a0_2 a1_0 a1_1 a1_2).bind fun bt241 => ((value_Mul.f k a1_0 a1_1 a1_2 a0_0 a0_1 a0_2).bind fun bt246 => (if (!(t231 == t236) || (!(t232 == t237) || (!(t233.toList == t238.toList)))) = true then (corollarylaw01_ValueBack.j0 k t234 true a0_0 a0_1 a0_2 a1_0 a1_1 a1_2 t231 t232 t233) else (if t234 = t239 then (if (!(bt241.1 == bt246.1) || (!(bt241.2.1 == bt246.2.1) || (!(bt241.2.2.1.toList == bt246.2.2.1.toList)))) = true then (corollarylaw01_ValueBack.j0 k t234 true a0_0 a0_1 a0_2 a1_0 a1_1 a1_2 t231 t232 t233) else (corollarylaw01_ValueBack.j0 k t234 (bt241.2.2.2 != bt246.2.2.2) a0_0 a0_1 a0_2 a1_0 a1_1 a1_2 t231 t232 t233)) else (corollarylaw01_ValueBack.j0 k t234 true a0_0 a0_1 a0_2 a1_0 a1_1 a1_2 t231 t232 t233))))) = some r := H
  have A4 := Aside0.mk A40
  clear A40
  replace H := Option.bind_eq_some_iff.mp H
  obtain ⟨⟨t241, t242, t243, t244⟩, A50, H⟩ := H
  replace H : ((value_Mul.f k a1_0 a1_1 a1_2 a0_0 a0_1 a0_2).bind fun bt246 => (if (!(t231 == t236) || (!(t232 == t237) || (!(t233.toList == t238.toList)))) = true then (corollarylaw01_ValueBack.j0 k t234 true a0_0 a0_1 a0_2 a1_0 a1_1 a1_2 t231 t232 t233) else (if t234 = t239 then (if (!(t241 == bt246.1) || (!(t242 == bt246.2.1) || (!(t243.toList == bt246.2.2.1.toList)))) = true then (corollarylaw01_ValueBack.j0 k t234 true a0_0 a0_1 a0_2 a1_0 a1_1 a1_2 t231 t232 t233) else (corollarylaw01_ValueBack.j0 k t234 (t244 != bt246.2.2.2) a0_0 a0_1 a0_2 a1_0 a1_1 a1_2 t231 t232 t233)) else (corollarylaw01_ValueBack.j0 k t234 true a0_0 a0_1 a0_2 a1_0 a1_1 a1_2 t231 t232 t233)))) = some r := H
  have A5 := Aside0.mk A50
  clear A50
  replace H := Option.bind_eq_some_iff.mp H
  obtain ⟨⟨t246, t247, t248, t249⟩, A60, H⟩ := H
  replace H : (if (!(t231 == t236) || (!(t232 == t237) || (!(t233.toList == t238.toList)))) = true then (corollarylaw01_ValueBack.j0 k t234 true a0_0 a0_1 a0_2 a1_0 a1_1 a1_2 t231 t232 t233) else (if t234 = t239 then (if (!(t241 == t246) || (!(t242 == t247) || (!(t243.toList == t248.toList)))) = true then (corollarylaw01_ValueBack.j0 k t234 true a0_0 a0_1 a0_2 a1_0 a1_1 a1_2 t231 t232 t233) else (corollarylaw01_ValueBack.j0 k t234 (t244 != t249) a0_0 a0_1 a0_2 a1_0 a1_1 a1_2 t231 t232 t233)) else (corollarylaw01_ValueBack.j0 k t234 true a0_0 a0_1 a0_2 a1_0 a1_1 a1_2 t231 t232 t233))) = some r := H
  have A6 := Aside0.mk A60
  clear A60
  have HC7 := Aside0.mk H
  clear H
  go_enter Tryd.func6, Tryd.ntmps6
  go_upto_region 5 with (first | ((with_reducible refine gate_dst (N := 2) rfl ?_); refine box_event ?hg (N := 2) ?hd (cs := #[.int .i64 a0_0, .int .i64 a0_1, .string a0_2]) (t := 23) ?hr ?_; (case hd => rfl); (case hg => rfl); (case hr => first | (go_simp; done) | (go_simp; rfl)); intro gb229 hg w8 hbox hb; have n0_ := Aside0.mk (below_step q0_ hb); have n1_ := Aside0.mk (hbox); have n2_ := Aside0.mk ((q1_ : w.heap.size ≤ gb229)); have n3_ := Aside0.mk ((q1_ : w.heap.size ≤ gb229)); clear HB; have HB := n0_; have BK229 := n1_; have GW229 := n2_; have GE229 := n3_; clear n0_ n1_ n2_ n3_; clear hb hbox hg) | ((with_reducible refine gate_dst (N := 3) rfl ?_); refine box_event ?hg (N := 3) ?hd (cs := #[.int .i64 a1_0, .int .i64 a1_1, .string a1_2]) (t := 23) ?hr ?_; (case hd => rfl); (case hg => rfl); (case hr => first | (go_simp; done) | (go_simp; rfl)); intro gb230 hg w9 hbox hb; have n0_ := Aside0.mk (blk_below (g := gb229) (o := .cells #[.int .i64 a0_0, .int .i64 a0_1, .string a0_2] 23 (0, 0)) q16_ hb); have n1_ := Aside0.mk (below_step q0_ hb); have n2_ := Aside0.mk (hbox); have n3_ := Aside0.mk ((q1_ : w.heap.size ≤ gb230)); have n4_ := Aside0.mk ((q1_ : w.heap.size ≤ gb230)); have n5_ := Aside0.mk ((q37_ : gb229 ≠ gb230)); have n6_ := Aside0.mk ((q40_ : gb230 ≠ gb229)); clear BK229; clear HB; have BK229 := n0_; have HB := n1_; have BK230 := n2_; have GW230 := n3_; have GE230 := n4_; have NB229_230 := n5_; have NB230_229 := n6_; clear n0_ n1_ n2_ n3_ n4_ n5_ n6_; clear hb hbox hg; have hnb10 := NB229_230.out; have hnc10 := NB230_229.out; have hcz11_0 : w9.cell? ⟨gb229, 0, none⟩ = some (.int .i64 a0_0) := (blk_cell BK229.out 0).trans rfl; have hcz11_1 : w9.cell? ⟨gb229, 1, none⟩ = some (.int .i64 a0_1) := (blk_cell BK229.out 1).trans rfl; have hcz11_2 : w9.cell? ⟨gb229, 2, none⟩ = some (.string a0_2) := (blk_cell BK229.out 2).trans rfl; have hfz11_0 := blk_frozen BK229.out 0; have hfz11_1 := blk_frozen BK229.out 1; have hfz11_2 := blk_frozen BK229.out 2; have hcz12_0 : w9.cell? ⟨gb230, 0, none⟩ = some (.int .i64 a1_0) := (blk_cell BK230.out 0).trans rfl; have hcz12_1 : w9.cell? ⟨gb230, 1, none⟩ = some (.int .i64 a1_1) := (blk_cell BK230.out 1).trans rfl; have hcz12_2 : w9.cell? ⟨gb230, 2, none⟩ = some (.string a1_2) := (blk_cell BK230.out 2).trans rfl; have hfz12_0 := blk_frozen BK230.out 0; have hfz12_1 := blk_frozen BK230.out 1; have hfz12_2 := blk_frozen BK230.out 2) | ((with_reducible refine gate_callee (f := 17) rfl ?_); refine goesL_ (some 18) rfl rfl Tryd.func17 (by kernel_rfl) rfl #[.agg #[.int .i64 a0_0, .int .i64 a0_1, .string a0_2], .agg #[.int .i64 a1_0, .int .i64 a1_1, .string a1_2]] rfl q2_ ?_; (with_reducible refine (value_Add.calls k a0_0 a0_1 a0_2 a1_0 a1_1 a1_2 t231 t232 t233 t234 _ A3.out (by first | exact HG.out | (refine Glob.below HG.out ?_; (repeat (first | (with_reducible first | exact HB.out | apply below_alloc | apply pw_below_drewN | apply below_drew1 | refine below_set ?_ GE229.out | refine below_set ?_ GE230.out) | exact HB.out))) | (repeat (first | exact HG.out | apply Glob.drewN | apply Glob.drew | apply Glob.alloc)))).mono ?_); rintro e w13 ⟨rfl, hb⟩; refine ⟨_, rfl, ?_⟩; have n0_ := Aside0.mk (blk_below (g := gb229) (o := .cells #[.int .i64 a0_0, .int .i64 a0_1, .string a0_2] 23 (0, 0)) q16_ hb); have n1_ := Aside0.mk (blk_below (g := gb230) (o := .cells #[.int .i64 a1_0, .int .i64 a1_1, .string a1_2] 23 (0, 0)) q22_ hb); have n2_ := Aside0.mk (below_step q0_ hb); clear BK229; clear BK230; clear HB; have BK229 := n0_; have BK230 := n1_; have HB := n2_; clear n0_ n1_ n2_; (try clear hb); (try clear hb2); (try clear hk); (try clear hi)) | ((with_reducible refine gate_dst (N := 5) rfl ?_); refine box_event ?hg (N := 5) ?hd (cs := #[.int .i64 0, .int .i64 0, .string (⟨#[]⟩ : ByteArray)]) (t := 23) ?hr ?_; (case hd => rfl); (case hg => rfl); (case hr => first | (go_simp; done) | (go_simp; rfl)); intro gb235 hg w14 hbox hb; have n0_ := Aside0.mk (blk_below (g := gb229) (o := .cells #[.int .i64 a0_0, .int .i64 a0_1, .string a0_2] 23 (0, 0)) q16_ hb); have n1_ := Aside0.mk (blk_below (g := gb230) (o := .cells #[.int .i64 a1_0, .int .i64 a1_1, .string a1_2] 23 (0, 0)) q22_ hb); have n2_ := Aside0.mk (below_step q0_ hb); have n3_ := Aside0.mk (hbox); have n4_ := Aside0.mk ((q1_ : w.heap.size ≤ gb235)); have n5_ := Aside0.mk ((q1_ : w.heap.size ≤ gb235)); have n6_ := Aside0.mk ((q37_ : gb229 ≠ gb235)); have n7_ := Aside0.mk ((q40_ : gb235 ≠ gb229)); have n8_ := Aside0.mk ((q47_ : gb230 ≠ gb235)); have n9_ := Aside0.mk ((q48_ : gb235 ≠ gb230)); clear BK229; clear BK230; clear HB; have BK229 := n0_; have BK230 := n1_; have HB := n2_; have BK235 := n3_; have GW235 := n4_; have GE235 := n5_; have NB229_235 := n6_; have NB235_229 := n7_; have NB230_235 := n8_; have NB235_230 := n9_; clear n0_ n1_ n2_ n3_ n4_ n5_ n6_ n7_ n8_ n9_; clear hb hbox hg; have hnb15 := NB235_229.out; have hnc15 := NB229_235.out; have hnb16 := NB235_230.out; have hnc16 := NB230_235.out; have hcz17_0 : w14.cell? ⟨gb235, 0, none⟩ = some (.int .i64 0) := (blk_cell BK235.out 0).trans rfl; have hcz17_1 : w14.cell? ⟨gb235, 1, none⟩ = some (.int .i64 0) := (blk_cell BK235.out 1).trans rfl; have hcz17_2 : w14.cell? ⟨gb235, 2, none⟩ = some (.string (⟨#[]⟩ : ByteArray)) := (blk_cell BK235.out 2).trans rfl; have hfz17_0 := blk_frozen BK235.out 0; have hfz17_1 := blk_frozen BK235.out 1; have hfz17_2 := blk_frozen BK235.out 2; have hcz18_0 : w14.cell? ⟨gb230, 0, none⟩ = some (.int .i64 a1_0) := (blk_cell BK230.out 0).trans rfl; have hcz18_1 : w14.cell? ⟨gb230, 1, none⟩ = some (.int .i64 a1_1) := (blk_cell BK230.out 1).trans rfl; have hcz18_2 : w14.cell? ⟨gb230, 2, none⟩ = some (.string a1_2) := (blk_cell BK230.out 2).trans rfl; have hfz18_0 := blk_frozen BK230.out 0; have hfz18_1 := blk_frozen BK230.out 1; have hfz18_2 := blk_frozen BK230.out 2; have hcz19_0 : w14.cell? ⟨gb229, 0, none⟩ = some (.int .i64 a0_0) := (blk_cell BK229.out 0).trans rfl; have hcz19_1 : w14.cell? ⟨gb229, 1, none⟩ = some (.int .i64 a0_1) := (blk_cell BK229.out 1).trans rfl; have hcz19_2 : w14.cell? ⟨gb229, 2, none⟩ = some (.string a0_2) := (blk_cell BK229.out 2).trans rfl; have hfz19_0 := blk_frozen BK229.out 0; have hfz19_1 := blk_frozen BK229.out 1; have hfz19_2 := blk_frozen BK229.out 2) | ((with_reducible refine gate_callee (f := 17) rfl ?_); refine goesL_ (some 24) rfl rfl Tryd.func17 (by kernel_rfl) rfl #[.agg #[.int .i64 a1_0, .int .i64 a1_1, .string a1_2], .agg #[.int .i64 a0_0, .int .i64 a0_1, .string a0_2]] rfl q2_ ?_; (with_reducible refine (value_Add.calls k a1_0 a1_1 a1_2 a0_0 a0_1 a0_2 t236 t237 t238 t239 _ A4.out (by first | exact HG.out | (refine Glob.below HG.out ?_; (repeat (first | (with_reducible first | exact HB.out | apply below_alloc | apply pw_below_drewN | apply below_drew1 | refine below_set ?_ GE229.out | refine below_set ?_ GE230.out | refine below_set ?_ GE235.out) | exact HB.out))) | (repeat (first | exact HG.out | apply Glob.drewN | apply Glob.drew | apply Glob.alloc)))).mono ?_); rintro e w20 ⟨rfl, hb⟩; refine ⟨_, rfl, ?_⟩; have n0_ := Aside0.mk (blk_below (g := gb229) (o := .cells #[.int .i64 a0_0, .int .i64 a0_1, .string a0_2] 23 (0, 0)) (by (with_reducible repeat first | apply bN_ | apply bD_ | apply bA_); refine blk_far ?_ NB229_235.out _; (with_reducible repeat first | apply bN_ | apply bD_ | apply bA_); refine blk_far ?_ NB229_235.out _; (with_reducible repeat first | apply bN_ | apply bD_ | apply bA_); refine blk_far ?_ NB229_235.out _; (with_reducible repeat first | apply bN_ | apply bD_ | apply bA_); exact BK229.out) hb); have n1_ := Aside0.mk (blk_below (g := gb230) (o := .cells #[.int .i64 a1_0, .int .i64 a1_1, .string a1_2] 23 (0, 0)) (by (with_reducible repeat first | apply bN_ | apply bD_ | apply bA_); refine blk_far ?_ NB230_235.out _; (with_reducible repeat first | apply bN_ | apply bD_ | apply bA_); refine blk_far ?_ NB230_235.out _; (with_reducible repeat first | apply bN_ | apply bD_ | apply bA_); refine blk_far ?_ NB230_235.out _; (with_reducible repeat first | apply bN_ | apply bD_ | apply bA_); exact BK230.out) hb); have n2_ := Aside0.mk (blk_below (g := gb235) (o := .cells #[.int .i64 t231, .int .i64 t232, .string t233] 23 (0, 0)) (by (with_reducible repeat first | apply bN_ | apply bD_ | apply bA_); refine blk_put (cs := #[.int .i64 t231, .int .i64 t232, .string (⟨#[]⟩ : ByteArray)]) ?_ 2 _ rfl; (with_reducible repeat first | apply bN_ | apply bD_ | apply bA_); refine blk_put (cs := #[.int .i64 t231, .int .i64 0, .string (⟨#[]⟩ : ByteArray)]) ?_ 1 _ rfl; (with_reducible repeat first | apply bN_ | apply bD_ | apply bA_); refine blk_put (cs := #[.int .i64 0, .int .i64 0, .string (⟨#[]⟩ : ByteArray)]) ?_ 0 _ rfl; (with_reducible repeat first | apply bN_ | apply bD_ | apply bA_); exact BK235.out) hb); have n3_ := Aside0.mk (below_step q0_ hb); clear BK229; clear BK230; clear BK235; clear HB; have BK229 := n0_; have BK230 := n1_; have BK235 := n2_; have HB := n3_; clear n0_ n1_ n2_ n3_; (try clear hb); (try clear hb2); (try clear hk); (try clear hi)) | ((with_reducible refine gate_dst (N := 7) rfl ?_); refine box_event ?hg (N := 7) ?hd (cs := #[.int .i64 0, .int .i64 0, .string (⟨#[]⟩ : ByteArray)]) (t := 23) ?hr ?_; (case hd => rfl); (case hg => rfl); (case hr => first | (go_simp; done) | (go_simp; rfl)); intro gb240 hg w21 hbox hb; have n0_ := Aside0.mk (blk_below (g := gb229) (o := .cells #[.int .i64 a0_0, .int .i64 a0_1, .string a0_2] 23 (0, 0)) q16_ hb); have n1_ := Aside0.mk (blk_below (g := gb230) (o := .cells #[.int .i64 a1_0, .int .i64 a1_1, .string a1_2] 23 (0, 0)) q22_ hb); have n2_ := Aside0.mk (blk_below (g := gb235) (o := .cells #[.int .i64 t231, .int .i64 t232, .string t233] 23 (0, 0)) q27_ hb); have n3_ := Aside0.mk (below_step q0_ hb); have n4_ := Aside0.mk (hbox); have n5_ := Aside0.mk ((q1_ : w.heap.size ≤ gb240)); have n6_ := Aside0.mk ((q1_ : w.heap.size ≤ gb240)); have n7_ := Aside0.mk ((q37_ : gb229 ≠ gb240)); have n8_ := Aside0.mk ((q40_ : gb240 ≠ gb229)); have n9_ := Aside0.mk ((q47_ : gb230 ≠ gb240)); have n10_ := Aside0.mk ((q48_ : gb240 ≠ gb230)); have n11_ := Aside0.mk ((q63_ : gb235 ≠ gb240)); have n12_ := Aside0.mk ((q66_ : gb240 ≠ gb235)); clear BK229; clear BK230; clear BK235; clear HB; have BK229 := n0_; have BK230 := n1_; have BK235 := n2_; have HB := n3_; have BK240 := n4_; have GW240 := n5_; have GE240 := n6_; have NB229_240 := n7_; have NB240_229 := n8_; have NB230_240 := n9_; have NB240_230 := n10_; have NB235_240 := n11_; have NB240_235 := n12_; clear n0_ n1_ n2_ n3_ n4_ n5_ n6_ n7_ n8_ n9_ n10_ n11_ n12_; clear hb hbox hg; have hnb22 := NB240_229.out; have hnc22 := NB229_240.out; have hnb23 := NB240_230.out; have hnc23 := NB230_240.out; have hnb24 := NB240_235.out; have hnc24 := NB235_240.out; have hcz25_0 : w21.cell? ⟨gb240, 0, none⟩ = some (.int .i64 0) := (blk_cell BK240.out 0).trans rfl; have hcz25_1 : w21.cell? ⟨gb240, 1, none⟩ = some (.int .i64 0) := (blk_cell BK240.out 1).trans rfl; have hcz25_2 : w21.cell? ⟨gb240, 2, none⟩ = some (.string (⟨#[]⟩ : ByteArray)) := (blk_cell BK240.out 2).trans rfl; have hfz25_0 := blk_frozen BK240.out 0; have hfz25_1 := blk_frozen BK240.out 1; have hfz25_2 := blk_frozen BK240.out 2; have hcz26_0 : w21.cell? ⟨gb229, 0, none⟩ = some (.int .i64 a0_0) := (blk_cell BK229.out 0).trans rfl; have hcz26_1 : w21.cell? ⟨gb229, 1, none⟩ = some (.int .i64 a0_1) := (blk_cell BK229.out 1).trans rfl; have hcz26_2 : w21.cell? ⟨gb229, 2, none⟩ = some (.string a0_2) := (blk_cell BK229.out 2).trans rfl; have hfz26_0 := blk_frozen BK229.out 0; have hfz26_1 := blk_frozen BK229.out 1; have hfz26_2 := blk_frozen BK229.out 2; have hcz27_0 : w21.cell? ⟨gb230, 0, none⟩ = some (.int .i64 a1_0) := (blk_cell BK230.out 0).trans rfl; have hcz27_1 : w21.cell? ⟨gb230, 1, none⟩ = some (.int .i64 a1_1) := (blk_cell BK230.out 1).trans rfl; have hcz27_2 : w21.cell? ⟨gb230, 2, none⟩ = some (.string a1_2) := (blk_cell BK230.out 2).trans rfl; have hfz27_0 := blk_frozen BK230.out 0; have hfz27_1 := blk_frozen BK230.out 1; have hfz27_2 := blk_frozen BK230.out 2) | ((with_reducible refine gate_callee (f := 18) rfl ?_); refine goesL_ (some 30) rfl rfl Tryd.func18 (by kernel_rfl) rfl #[.agg #[.int .i64 a0_0, .int .i64 a0_1, .string a0_2], .agg #[.int .i64 a1_0, .int .i64 a1_1, .string a1_2]] rfl q2_ ?_; (with_reducible refine (value_Mul.calls k a0_0 a0_1 a0_2 a1_0 a1_1 a1_2 t241 t242 t243 t244 _ A5.out (by first | exact HG.out | (refine Glob.below HG.out ?_; (repeat (first | (with_reducible first | exact HB.out | apply below_alloc | apply pw_below_drewN | apply below_drew1 | refine below_set ?_ GE229.out | refine below_set ?_ GE230.out | refine below_set ?_ GE235.out | refine below_set ?_ GE240.out) | exact HB.out))) | (repeat (first | exact HG.out | apply Glob.drewN | apply Glob.drew | apply Glob.alloc)))).mono ?_); rintro e w28 ⟨rfl, hb⟩; refine ⟨_, rfl, ?_⟩; have n0_ := Aside0.mk (blk_below (g := gb229) (o := .cells #[.int .i64 a0_0, .int .i64 a0_1, .string a0_2] 23 (0, 0)) (by (with_reducible repeat first | apply bN_ | apply bD_ | apply bA_); refine blk_far ?_ NB229_240.out _; (with_reducible repeat first | apply bN_ | apply bD_ | apply bA_); refine blk_far ?_ NB229_240.out _; (with_reducible repeat first | apply bN_ | apply bD_ | apply bA_); refine blk_far ?_ NB229_240.out _; (with_reducible repeat first | apply bN_ | apply bD_ | apply bA_); exact BK229.out) hb); have n1_ := Aside0.mk (blk_below (g := gb230) (o := .cells #[.int .i64 a1_0, .int .i64 a1_1, .string a1_2] 23 (0, 0)) (by (with_reducible repeat first | apply bN_ | apply bD_ | apply bA_); refine blk_far ?_ NB230_240.out _; (with_reducible repeat first | apply bN_ | apply bD_ | apply bA_); refine blk_far ?_ NB230_240.out _; (with_reducible repeat first | apply bN_ | apply bD_ | apply bA_); refine blk_far ?_ NB230_240.out _; (with_reducible repeat first | apply bN_ | apply bD_ | apply bA_); exact BK230.out) hb); have n2_ := Aside0.mk (blk_below (g := gb235) (o := .cells #[.int .i64 t231, .int .i64 t232, .string t233] 23 (0, 0)) (by (with_reducible repeat first | apply bN_ | apply bD_ | apply bA_); refine blk_far ?_ NB235_240.out _; (with_reducible repeat first | apply bN_ | apply bD_ | apply bA_); refine blk_far ?_ NB235_240.out _; (with_reducible repeat first | apply bN_ | apply bD_ | apply bA_); refine blk_far ?_ NB235_240.out _; (with_reducible repeat first | apply bN_ | apply bD_ | apply bA_); exact BK235.out) hb); have n3_ := Aside0.mk (blk_below (g := gb240) (o := .cells #[.int .i64 t236, .int .i64 t237, .string t238] 23 (0, 0)) (by (with_reducible repeat first | apply bN_ | apply bD_ | apply bA_); refine blk_put (cs := #[.int .i64 t236, .int .i64 t237, .string (⟨#[]⟩ : ByteArray)]) ?_ 2 _ rfl; (with_reducible repeat first | apply bN_ | apply bD_ | apply bA_); refine blk_put (cs := #[.int .i64 t236, .int .i64 0, .string (⟨#[]⟩ : ByteArray)]) ?_ 1 _ rfl; (with_reducible repeat first | apply bN_ | apply bD_ | apply bA_); refine blk_put (cs := #[.int .i64 0, .int .i64 0, .string (⟨#[]⟩ : ByteArray)]) ?_ 0 _ rfl; (with_reducible repeat first | apply bN_ | apply bD_ | apply bA_); exact BK240.out) hb); have n4_ := Aside0.mk (below_step q0_ hb); clear BK229; clear BK230; clear BK235; clear BK240; clear HB; have BK229 := n0_; have BK230 := n1_; have BK235 := n2_; have BK240 := n3_; have HB := n4_; clear n0_ n1_ n2_ n3_ n4_; (try clear hb); (try clear hb2); (try clear hk); (try clear hi)) | ((with_reducible refine gate_dst (N := 9) rfl ?_); refine box_event ?hg (N := 9) ?hd (cs := #[.int .i64 0, .int .i64 0, .string (⟨#[]⟩ : ByteArray)]) (t := 23) ?hr ?_; (case hd => rfl); (case hg => rfl); (case hr => first | (go_simp; done) | (go_simp; rfl)); intro gb245 hg w29 hbox hb; have n0_ := Aside0.mk (blk_below (g := gb229) (o := .cells #[.int .i64 a0_0, .int .i64 a0_1, .string a0_2] 23 (0, 0)) q16_ hb); have n1_ := Aside0.mk (blk_below (g := gb230) (o := .cells #[.int .i64 a1_0, .int .i64 a1_1, .string a1_2] 23 (0, 0)) q22_ hb); have n2_ := Aside0.mk (blk_below (g := gb235) (o := .cells #[.int .i64 t231, .int .i64 t232, .string t233] 23 (0, 0)) q27_ hb); have n3_ := Aside0.mk (blk_below (g := gb240) (o := .cells #[.int .i64 t236, .int .i64 t237, .string t238] 23 (0, 0)) q36_ hb); have n4_ := Aside0.mk (below_step q0_ hb); have n5_ := Aside0.mk (hbox); have n6_ := Aside0.mk ((q1_ : w.heap.size ≤ gb245)); have n7_ := Aside0.mk ((q1_ : w.heap.size ≤ gb245)); have n8_ := Aside0.mk ((q37_ : gb229 ≠ gb245)); have n9_ := Aside0.mk ((q40_ : gb245 ≠ gb229)); have n10_ := Aside0.mk ((q47_ : gb230 ≠ gb245)); have n11_ := Aside0.mk ((q48_ : gb245 ≠ gb230)); have n12_ := Aside0.mk ((q63_ : gb235 ≠ gb245)); have n13_ := Aside0.mk ((q66_ : gb245 ≠ gb235)); have n14_ := Aside0.mk ((q70_ : gb240 ≠ gb245)); have n15_ := Aside0.mk ((q71_ : gb245 ≠ gb240)); clear BK229; clear BK230; clear BK235; clear BK240; clear HB; have BK229 := n0_; have BK230 := n1_; have BK235 := n2_; have BK240 := n3_; have HB := n4_; have BK245 := n5_; have GW245 := n6_; have GE245 := n7_; have NB229_245 := n8_; have NB245_229 := n9_; have NB230_245 := n10_; have NB245_230 := n11_; have NB235_245 := n12_; have NB245_235 := n13_; have NB240_245 := n14_; have NB245_240 := n15_; clear n0_ n1_ n2_ n3_ n4_ n5_ n6_ n7_ n8_ n9_ n10_ n11_ n12_ n13_ n14_ n15_; clear hb hbox hg; have hnb30 := NB245_229.out; have hnc30 := NB229_245.out; have hnb31 := NB245_230.out; have hnc31 := NB230_245.out; have hnb32 := NB245_235.out; have hnc32 := NB235_245.out; have hnb33 := NB245_240.out; have hnc33 := NB240_245.out; have hcz34_0 : w29.cell? ⟨gb245, 0, none⟩ = some (.int .i64 0) := (blk_cell BK245.out 0).trans rfl; have hcz34_1 : w29.cell? ⟨gb245, 1, none⟩ = some (.int .i64 0) := (blk_cell BK245.out 1).trans rfl; have hcz34_2 : w29.cell? ⟨gb245, 2, none⟩ = some (.string (⟨#[]⟩ : ByteArray)) := (blk_cell BK245.out 2).trans rfl; have hfz34_0 := blk_frozen BK245.out 0; have hfz34_1 := blk_frozen BK245.out 1; have hfz34_2 := blk_frozen BK245.out 2; have hcz35_0 : w29.cell? ⟨gb230, 0, none⟩ = some (.int .i64 a1_0) := (blk_cell BK230.out 0).trans rfl; have hcz35_1 : w29.cell? ⟨gb230, 1, none⟩ = some (.int .i64 a1_1) := (blk_cell BK230.out 1).trans rfl; have hcz35_2 : w29.cell? ⟨gb230, 2, none⟩ = some (.string a1_2) := (blk_cell BK230.out 2).trans rfl; have hfz35_0 := blk_frozen BK230.out 0; have hfz35_1 := blk_frozen BK230.out 1; have hfz35_2 := blk_frozen BK230.out 2; have hcz36_0 : w29.cell? ⟨gb229, 0, none⟩ = some (.int .i64 a0_0) := (blk_cell BK229.out 0).trans rfl; have hcz36_1 : w29.cell? ⟨gb229, 1, none⟩ = some (.int .i64 a0_1) := (blk_cell BK229.out 1).trans rfl; have hcz36_2 : w29.cell? ⟨gb229, 2, none⟩ = some (.string a0_2) := (blk_cell BK229.out 2).trans rfl; have hfz36_0 := blk_frozen BK229.out 0; have hfz36_1 := blk_frozen BK229.out 1; have hfz36_2 := blk_frozen BK229.out 2) | ((with_reducible refine gate_callee (f := 18) rfl ?_); refine goesL_ (some 36) rfl rfl Tryd.func18 (by kernel_rfl) rfl #[.agg #[.int .i64 a1_0, .int .i64 a1_1, .string a1_2], .agg #[.int .i64 a0_0, .int .i64 a0_1, .string a0_2]] rfl q2_ ?_; (with_reducible refine (value_Mul.calls k a1_0 a1_1 a1_2 a0_0 a0_1 a0_2 t246 t247 t248 t249 _ A6.out (by first | exact HG.out | (refine Glob.below HG.out ?_; (repeat (first | (with_reducible first | exact HB.out | apply below_alloc | apply pw_below_drewN | apply below_drew1 | refine below_set ?_ GE229.out | refine below_set ?_ GE230.out | refine below_set ?_ GE235.out | refine below_set ?_ GE240.out | refine below_set ?_ GE245.out) | exact HB.out))) | (repeat (first | exact HG.out | apply Glob.drewN | apply Glob.drew | apply Glob.alloc)))).mono ?_); rintro e w37 ⟨rfl, hb⟩; refine ⟨_, rfl, ?_⟩; have n0_ := Aside0.mk (blk_below (g := gb229) (o := .cells #[.int .i64 a0_0, .int .i64 a0_1, .string a0_2] 23 (0, 0)) (by (with_reducible repeat first | apply bN_ | apply bD_ | apply bA_); refine blk_far ?_ NB229_245.out _; (with_reducible repeat first | apply bN_ | apply bD_ | apply bA_); refine blk_far ?_ NB229_245.out _; (with_reducible repeat first | apply bN_ | apply bD_ | apply bA_); refine blk_far ?_ NB229_245.out _; (with_reducible repeat first | apply bN_ | apply bD_ | apply bA_); exact BK229.out) hb); have n1_ := Aside0.mk (blk_below (g := gb230) (o := .cells #[.int .i64 a1_0, .int .i64 a1_1, .string a1_2] 23 (0, 0)) (by (with_reducible repeat first | apply bN_ | apply bD_ | apply bA_); refine blk_far ?_ NB230_245.out _; (with_reducible repeat first | apply bN_ | apply bD_ | apply bA_); refine blk_far ?_ NB230_245.out _; (with_reducible repeat first | apply bN_ | apply bD_ | apply bA_); refine blk_far ?_ NB230_245.out _; (with_reducible repeat first | apply bN_ | apply bD_ | apply bA_); exact BK230.out) hb); have n2_ := Aside0.mk (blk_below (g := gb235) (o := .cells #[.int .i64 t231, .int .i64 t232, .string t233] 23 (0, 0)) (by (with_reducible repeat first | apply bN_ | apply bD_ | apply bA_); refine blk_far ?_ NB235_245.out _; (with_reducible repeat first | apply bN_ | apply bD_ | apply bA_); refine blk_far ?_ NB235_245.out _; (with_reducible repeat first | apply bN_ | apply bD_ | apply bA_); refine blk_far ?_ NB235_245.out _; (with_reducible repeat first | apply bN_ | apply bD_ | apply bA_); exact BK235.out) hb); have n3_ := Aside0.mk (blk_below (g := gb240) (o := .cells #[.int .i64 t236, .int .i64 t237, .string t238] 23 (0, 0)) (by (with_reducible repeat first | apply bN_ | apply bD_ | apply bA_); refine blk_far ?_ NB240_245.out _; (with_reducible repeat first | apply bN_ | apply bD_ | apply bA_); refine blk_far ?_ NB240_245.out _; (with_reducible repeat first | apply bN_ | apply bD_ | apply bA_); refine blk_far ?_ NB240_245.out _; (with_reducible repeat first | apply bN_ | apply bD_ | apply bA_); exact BK240.out) hb); have n4_ := Aside0.mk (blk_below (g := gb245) (o := .cells #[.int .i64 t241, .int .i64 t242, .string t243] 23 (0, 0)) (by (with_reducible repeat first | apply bN_ | apply bD_ | apply bA_); refine blk_put (cs := #[.int .i64 t241, .int .i64 t242, .string (⟨#[]⟩ : ByteArray)]) ?_ 2 _ rfl; (with_reducible repeat first | apply bN_ | apply bD_ | apply bA_); refine blk_put (cs := #[.int .i64 t241, .int .i64 0, .string (⟨#[]⟩ : ByteArray)]) ?_ 1 _ rfl; (with_reducible repeat first | apply bN_ | apply bD_ | apply bA_); refine blk_put (cs := #[.int .i64 0, .int .i64 0, .string (⟨#[]⟩ : ByteArray)]) ?_ 0 _ rfl; (with_reducible repeat first | apply bN_ | apply bD_ | apply bA_); exact BK245.out) hb); have n5_ := Aside0.mk (below_step q0_ hb); clear BK229; clear BK230; clear BK235; clear BK240; clear BK245; clear HB; have BK229 := n0_; have BK230 := n1_; have BK235 := n2_; have BK240 := n3_; have BK245 := n4_; have HB := n5_; clear n0_ n1_ n2_ n3_ n4_ n5_; (try clear hb); (try clear hb2); (try clear hk); (try clear hi)) | ((with_reducible refine gate_dst (N := 11) rfl ?_); refine box_event ?hg (N := 11) ?hd (cs := #[.int .i64 0, .int .i64 0, .string (⟨#[]⟩ : ByteArray)]) (t := 23) ?hr ?_; (case hd => rfl); (case hg => rfl); (case hr => first | (go_simp; done) | (go_simp; rfl)); intro gb250 hg w38 hbox hb; have n0_ := Aside0.mk (blk_below (g := gb229) (o := .cells #[.int .i64 a0_0, .int .i64 a0_1, .string a0_2] 23 (0, 0)) q16_ hb); have n1_ := Aside0.mk (blk_below (g := gb230) (o := .cells #[.int .i64 a1_0, .int .i64 a1_1, .string a1_2] 23 (0, 0)) q22_ hb); have n2_ := Aside0.mk (blk_below (g := gb235) (o := .cells #[.int .i64 t231, .int .i64 t232, .string t233] 23 (0, 0)) q27_ hb); have n3_ := Aside0.mk (blk_below (g := gb240) (o := .cells #[.int .i64 t236, .int .i64 t237, .string t238] 23 (0, 0)) q36_ hb); have n4_ := Aside0.mk (blk_below (g := gb245) (o := .cells #[.int .i64 t241, .int .i64 t242, .string t243] 23 (0, 0)) q44_ hb); have n5_ := Aside0.mk (below_step q0_ hb); have n6_ := Aside0.mk (hbox); have n7_ := Aside0.mk ((q1_ : w.heap.size ≤ gb250)); have n8_ := Aside0.mk ((q1_ : w.heap.size ≤ gb250)); have n9_ := Aside0.mk ((q37_ : gb229 ≠ gb250)); have n10_ := Aside0.mk ((q40_ : gb250 ≠ gb229)); have n11_ := Aside0.mk ((q47_ : gb230 ≠ gb250)); have n12_ := Aside0.mk ((q48_ : gb250 ≠ gb230)); have n13_ := Aside0.mk ((q63_ : gb235 ≠ gb250)); have n14_ := Aside0.mk ((q66_ : gb250 ≠ gb235)); have n15_ := Aside0.mk ((q70_ : gb240 ≠ gb250)); have n16_ := Aside0.mk ((q71_ : gb250 ≠ gb240)); have n17_ := Aside0.mk ((q81_ : gb245 ≠ gb250)); have n18_ := Aside0.mk ((q83_ : gb250 ≠ gb245)); clear BK229; clear BK230; clear BK235; clear BK240; clear BK245; clear HB; have BK229 := n0_; have BK230 := n1_; have BK235 := n2_; have BK240 := n3_; have BK245 := n4_; have HB := n5_; have BK250 := n6_; have GW250 := n7_; have GE250 := n8_; have NB229_250 := n9_; have NB250_229 := n10_; have NB230_250 := n11_; have NB250_230 := n12_; have NB235_250 := n13_; have NB250_235 := n14_; have NB240_250 := n15_; have NB250_240 := n16_; have NB245_250 := n17_; have NB250_245 := n18_; clear n0_ n1_ n2_ n3_ n4_ n5_ n6_ n7_ n8_ n9_ n10_ n11_ n12_ n13_ n14_ n15_ n16_ n17_ n18_; clear hb hbox hg; have hnb39 := NB250_229.out; have hnc39 := NB229_250.out; have hnb40 := NB250_230.out; have hnc40 := NB230_250.out; have hnb41 := NB250_235.out; have hnc41 := NB235_250.out; have hnb42 := NB250_240.out; have hnc42 := NB240_250.out; have hnb43 := NB250_245.out; have hnc43 := NB245_250.out; have hcz44_0 : w38.cell? ⟨gb250, 0, none⟩ = some (.int .i64 0) := (blk_cell BK250.out 0).trans rfl; have hcz44_1 : w38.cell? ⟨gb250, 1, none⟩ = some (.int .i64 0) := (blk_cell BK250.out 1).trans rfl; have hcz44_2 : w38.cell? ⟨gb250, 2, none⟩ = some (.string (⟨#[]⟩ : ByteArray)) := (blk_cell BK250.out 2).trans rfl; have hfz44_0 := blk_frozen BK250.out 0; have hfz44_1 := blk_frozen BK250.out 1; have hfz44_2 := blk_frozen BK250.out 2))
  (try simp only [Act.put, List.setIfInBounds_toArray, List.set_cons_zero, List.set_cons_succ])
  go_cut [56] (fun v56 wc => ∃ (kq : Nat) (x56_6 : Bool), v56 = .bool x56_6 ∧ Aside0 (corollarylaw01_ValueBack.j0 kq t234 x56_6 a0_0 a0_1 a0_2 a1_0 a1_1 a1_2 t231 t232 t233 = some r) ∧ Aside0 (kq ≤ k) ∧ Aside0 (wc.heap[gb229]? = some (.cells #[.int .i64 a0_0, .int .i64 a0_1, .string a0_2] 23 (0, 0))) ∧ Aside0 (wc.heap[gb230]? = some (.cells #[.int .i64 a1_0, .int .i64 a1_1, .string a1_2] 23 (0, 0))) ∧ Aside0 (wc.heap[gb235]? = some (.cells #[.int .i64 t231, .int .i64 t232, .string t233] 23 (0, 0))) ∧ Aside0 (wc.heap[gb240]? = some (.cells #[.int .i64 t236, .int .i64 t237, .string t238] 23 (0, 0))) ∧ Aside0 (wc.heap[gb245]? = some (.cells #[.int .i64 t241, .int .i64 t242, .string t243] 23 (0, 0))) ∧ Aside0 (wc.heap[gb250]? = some (.cells #[.int .i64 t246, .int .i64 t247, .string t248] 23 (0, 0))) ∧ Aside0 (Below w.heap.size w wc))
  case first =>
    have H := HC7.out
    clear HC7
    by_cases c45 : (!(t231 == t236) || (!(t232 == t237) || (!(t233.toList == t238.toList)))) = true
    · rw [if_pos c45] at H
      have c45b0 : (!(t231 == t236) || (!(t232 == t237) || (!(t233.toList == t238.toList)))) = true := c45
      clear c45
      (first | (rw [c45b0]; try simp only [c45b0] at *) | (simp only [i64_w, i32_w]; rw [c45b0]) | skip)
      have H' := Aside0.mk H
      clear H
      have hnb46 := NB235_229.out
      have hnc46 := NB229_235.out
      have hnb47 := NB235_230.out
      have hnc47 := NB230_235.out
      have hnb48 := NB235_240.out
      have hnc48 := NB240_235.out
      have hnb49 := NB235_245.out
      have hnc49 := NB245_235.out
      have hnb50 := NB235_250.out
      have hnc50 := NB250_235.out
      have hcz51_0 : w38.cell? ⟨gb235, 0, none⟩ = some (.int .i64 t231) := (blk_cell BK235.out 0).trans rfl
      have hcz51_1 : w38.cell? ⟨gb235, 1, none⟩ = some (.int .i64 t232) := (blk_cell BK235.out 1).trans rfl
      have hcz51_2 : w38.cell? ⟨gb235, 2, none⟩ = some (.string t233) := (blk_cell BK235.out 2).trans rfl
      have hfz51_0 := blk_frozen BK235.out 0
      have hfz51_1 := blk_frozen BK235.out 1
      have hfz51_2 := blk_frozen BK235.out 2
      have hnb52 := NB240_229.out
      have hnc52 := NB229_240.out
      have hnb53 := NB240_230.out
      have hnc53 := NB230_240.out
      have hnb54 := NB240_245.out
      have hnc54 := NB245_240.out
      have hnb55 := NB240_250.out
      have hnc55 := NB250_240.out
      have hcz56_0 : w38.cell? ⟨gb240, 0, none⟩ = some (.int .i64 t236) := (blk_cell BK240.out 0).trans rfl
      have hcz56_1 : w38.cell? ⟨gb240, 1, none⟩ = some (.int .i64 t237) := (blk_cell BK240.out 1).trans rfl
      have hcz56_2 : w38.cell? ⟨gb240, 2, none⟩ = some (.string t238) := (blk_cell BK240.out 2).trans rfl
      have hfz56_0 := blk_frozen BK240.out 0
      have hfz56_1 := blk_frozen BK240.out 1
      have hfz56_2 := blk_frozen BK240.out 2
      go_wp2
      go_meet
      case rel => exact ⟨_, (true), q5_, H', ⟨by first | omega | exact Nat.le_refl _⟩, ⟨q56_⟩, ⟨q55_⟩, ⟨q54_⟩, ⟨q53_⟩, ⟨q52_⟩, ⟨q30_⟩, ⟨q0_⟩⟩
    · rw [if_neg c45] at H
      have c45b0 : (!(t231 == t236) || (!(t232 == t237) || (!(t233.toList == t238.toList)))) = false := by simpa using c45
      clear c45
      (first | (rw [c45b0]; try simp only [c45b0] at *) | (simp only [i64_w, i32_w]; rw [c45b0]) | skip)
      by_cases c57 : t234 = t239
      · rw [if_pos c57] at H
        have c57b0 : (t234 == t239) = true := beq_iff_eq.mpr c57
        have c57b1 : (t234 != t239) = false := bne_eq_false_iff_eq.mpr c57
        clear c57
        by_cases c58 : (!(t241 == t246) || (!(t242 == t247) || (!(t243.toList == t248.toList)))) = true
        · rw [if_pos c58] at H
          have c58b0 : (!(t241 == t246) || (!(t242 == t247) || (!(t243.toList == t248.toList)))) = true := c58
          clear c58
          have H' := Aside0.mk H
          clear H
          have hnb59 := NB235_229.out
          have hnc59 := NB229_235.out
          have hnb60 := NB235_230.out
          have hnc60 := NB230_235.out
          have hnb61 := NB235_240.out
          have hnc61 := NB240_235.out
          have hnb62 := NB235_245.out
          have hnc62 := NB245_235.out
          have hnb63 := NB235_250.out
          have hnc63 := NB250_235.out
          have hcz64_0 : w38.cell? ⟨gb235, 0, none⟩ = some (.int .i64 t231) := (blk_cell BK235.out 0).trans rfl
          have hcz64_1 : w38.cell? ⟨gb235, 1, none⟩ = some (.int .i64 t232) := (blk_cell BK235.out 1).trans rfl
          have hcz64_2 : w38.cell? ⟨gb235, 2, none⟩ = some (.string t233) := (blk_cell BK235.out 2).trans rfl
          have hfz64_0 := blk_frozen BK235.out 0
          have hfz64_1 := blk_frozen BK235.out 1
          have hfz64_2 := blk_frozen BK235.out 2
          have hnb65 := NB240_229.out
          have hnc65 := NB229_240.out
          have hnb66 := NB240_230.out
          have hnc66 := NB230_240.out
          have hnb67 := NB240_245.out
          have hnc67 := NB245_240.out
          have hnb68 := NB240_250.out
          have hnc68 := NB250_240.out
          have hcz69_0 : w38.cell? ⟨gb240, 0, none⟩ = some (.int .i64 t236) := (blk_cell BK240.out 0).trans rfl
          have hcz69_1 : w38.cell? ⟨gb240, 1, none⟩ = some (.int .i64 t237) := (blk_cell BK240.out 1).trans rfl
          have hcz69_2 : w38.cell? ⟨gb240, 2, none⟩ = some (.string t238) := (blk_cell BK240.out 2).trans rfl
          have hfz69_0 := blk_frozen BK240.out 0
          have hfz69_1 := blk_frozen BK240.out 1
          have hfz69_2 := blk_frozen BK240.out 2
          have hnb70 := NB245_229.out
          have hnc70 := NB229_245.out
          have hnb71 := NB245_230.out
          have hnc71 := NB230_245.out
          have hnb72 := NB245_250.out
          have hnc72 := NB250_245.out
          have hcz73_0 : w38.cell? ⟨gb245, 0, none⟩ = some (.int .i64 t241) := (blk_cell BK245.out 0).trans rfl
          have hcz73_1 : w38.cell? ⟨gb245, 1, none⟩ = some (.int .i64 t242) := (blk_cell BK245.out 1).trans rfl
          have hcz73_2 : w38.cell? ⟨gb245, 2, none⟩ = some (.string t243) := (blk_cell BK245.out 2).trans rfl
          have hfz73_0 := blk_frozen BK245.out 0
          have hfz73_1 := blk_frozen BK245.out 1
          have hfz73_2 := blk_frozen BK245.out 2
          have hnb74 := NB250_229.out
          have hnc74 := NB229_250.out
          have hnb75 := NB250_230.out
          have hnc75 := NB230_250.out
          have hcz76_0 : w38.cell? ⟨gb250, 0, none⟩ = some (.int .i64 0) := (blk_cell BK250.out 0).trans rfl
          have hcz76_1 : w38.cell? ⟨gb250, 1, none⟩ = some (.int .i64 0) := (blk_cell BK250.out 1).trans rfl
          have hcz76_2 : w38.cell? ⟨gb250, 2, none⟩ = some (.string (⟨#[]⟩ : ByteArray)) := (blk_cell BK250.out 2).trans rfl
          have hfz76_0 := blk_frozen BK250.out 0
          have hfz76_1 := blk_frozen BK250.out 1
          have hfz76_2 := blk_frozen BK250.out 2
          go_wp2
          go_meet
          case rel => exact ⟨_, (true), q5_, H', ⟨by first | omega | exact Nat.le_refl _⟩, ⟨q56_⟩, ⟨q55_⟩, ⟨q54_⟩, ⟨q53_⟩, ⟨q52_⟩, ⟨q30_⟩, ⟨q0_⟩⟩
        · rw [if_neg c58] at H
          have c58b0 : (!(t241 == t246) || (!(t242 == t247) || (!(t243.toList == t248.toList)))) = false := by simpa using c58
          clear c58
          have H' := Aside0.mk H
          clear H
          have hnb77 := NB235_229.out
          have hnc77 := NB229_235.out
          have hnb78 := NB235_230.out
          have hnc78 := NB230_235.out
          have hnb79 := NB235_240.out
          have hnc79 := NB240_235.out
          have hnb80 := NB235_245.out
          have hnc80 := NB245_235.out
          have hnb81 := NB235_250.out
          have hnc81 := NB250_235.out
          have hcz82_0 : w38.cell? ⟨gb235, 0, none⟩ = some (.int .i64 t231) := (blk_cell BK235.out 0).trans rfl
          have hcz82_1 : w38.cell? ⟨gb235, 1, none⟩ = some (.int .i64 t232) := (blk_cell BK235.out 1).trans rfl
          have hcz82_2 : w38.cell? ⟨gb235, 2, none⟩ = some (.string t233) := (blk_cell BK235.out 2).trans rfl
          have hfz82_0 := blk_frozen BK235.out 0
          have hfz82_1 := blk_frozen BK235.out 1
          have hfz82_2 := blk_frozen BK235.out 2
          have hnb83 := NB240_229.out
          have hnc83 := NB229_240.out
          have hnb84 := NB240_230.out
          have hnc84 := NB230_240.out
          have hnb85 := NB240_245.out
          have hnc85 := NB245_240.out
          have hnb86 := NB240_250.out
          have hnc86 := NB250_240.out
          have hcz87_0 : w38.cell? ⟨gb240, 0, none⟩ = some (.int .i64 t236) := (blk_cell BK240.out 0).trans rfl
          have hcz87_1 : w38.cell? ⟨gb240, 1, none⟩ = some (.int .i64 t237) := (blk_cell BK240.out 1).trans rfl
          have hcz87_2 : w38.cell? ⟨gb240, 2, none⟩ = some (.string t238) := (blk_cell BK240.out 2).trans rfl
          have hfz87_0 := blk_frozen BK240.out 0
          have hfz87_1 := blk_frozen BK240.out 1
          have hfz87_2 := blk_frozen BK240.out 2
          have hnb88 := NB245_229.out
          have hnc88 := NB229_245.out
          have hnb89 := NB245_230.out
          have hnc89 := NB230_245.out
          have hnb90 := NB245_250.out
          have hnc90 := NB250_245.out
          have hcz91_0 : w38.cell? ⟨gb245, 0, none⟩ = some (.int .i64 t241) := (blk_cell BK245.out 0).trans rfl
          have hcz91_1 : w38.cell? ⟨gb245, 1, none⟩ = some (.int .i64 t242) := (blk_cell BK245.out 1).trans rfl
          have hcz91_2 : w38.cell? ⟨gb245, 2, none⟩ = some (.string t243) := (blk_cell BK245.out 2).trans rfl
          have hfz91_0 := blk_frozen BK245.out 0
          have hfz91_1 := blk_frozen BK245.out 1
          have hfz91_2 := blk_frozen BK245.out 2
          have hnb92 := NB250_229.out
          have hnc92 := NB229_250.out
          have hnb93 := NB250_230.out
          have hnc93 := NB230_250.out
          have hcz94_0 : w38.cell? ⟨gb250, 0, none⟩ = some (.int .i64 0) := (blk_cell BK250.out 0).trans rfl
          have hcz94_1 : w38.cell? ⟨gb250, 1, none⟩ = some (.int .i64 0) := (blk_cell BK250.out 1).trans rfl
          have hcz94_2 : w38.cell? ⟨gb250, 2, none⟩ = some (.string (⟨#[]⟩ : ByteArray)) := (blk_cell BK250.out 2).trans rfl
          have hfz94_0 := blk_frozen BK250.out 0
          have hfz94_1 := blk_frozen BK250.out 1
          have hfz94_2 := blk_frozen BK250.out 2
          go_wp2
          go_meet
          case rel => exact ⟨_, ((t244 != t249)), q5_, H', ⟨by first | omega | exact Nat.le_refl _⟩, ⟨q56_⟩, ⟨q55_⟩, ⟨q54_⟩, ⟨q53_⟩, ⟨q52_⟩, ⟨q30_⟩, ⟨q0_⟩⟩
      · rw [if_neg c57] at H
        have c57b0 : (t234 == t239) = false := beq_eq_false_iff_ne.mpr c57
        have c57b1 : (t234 != t239) = true := bne_iff_ne.mpr c57
        have H' := Aside0.mk H
        clear H
        have hnb95 := NB235_229.out
        have hnc95 := NB229_235.out
        have hnb96 := NB235_230.out
        have hnc96 := NB230_235.out
        have hnb97 := NB235_240.out
        have hnc97 := NB240_235.out
        have hnb98 := NB235_245.out
        have hnc98 := NB245_235.out
        have hnb99 := NB235_250.out
        have hnc99 := NB250_235.out
        have hcz100_0 : w38.cell? ⟨gb235, 0, none⟩ = some (.int .i64 t231) := (blk_cell BK235.out 0).trans rfl
        have hcz100_1 : w38.cell? ⟨gb235, 1, none⟩ = some (.int .i64 t232) := (blk_cell BK235.out 1).trans rfl
        have hcz100_2 : w38.cell? ⟨gb235, 2, none⟩ = some (.string t233) := (blk_cell BK235.out 2).trans rfl
        have hfz100_0 := blk_frozen BK235.out 0
        have hfz100_1 := blk_frozen BK235.out 1
        have hfz100_2 := blk_frozen BK235.out 2
        have hnb101 := NB240_229.out
        have hnc101 := NB229_240.out
        have hnb102 := NB240_230.out
        have hnc102 := NB230_240.out
        have hnb103 := NB240_245.out
        have hnc103 := NB245_240.out
        have hnb104 := NB240_250.out
        have hnc104 := NB250_240.out
        have hcz105_0 : w38.cell? ⟨gb240, 0, none⟩ = some (.int .i64 t236) := (blk_cell BK240.out 0).trans rfl
        have hcz105_1 : w38.cell? ⟨gb240, 1, none⟩ = some (.int .i64 t237) := (blk_cell BK240.out 1).trans rfl
        have hcz105_2 : w38.cell? ⟨gb240, 2, none⟩ = some (.string t238) := (blk_cell BK240.out 2).trans rfl
        have hfz105_0 := blk_frozen BK240.out 0
        have hfz105_1 := blk_frozen BK240.out 1
        have hfz105_2 := blk_frozen BK240.out 2
        go_wp2
        go_meet
        case rel => exact ⟨_, (true), q5_, H', ⟨by first | omega | exact Nat.le_refl _⟩, ⟨q56_⟩, ⟨q55_⟩, ⟨q54_⟩, ⟨q53_⟩, ⟨q52_⟩, ⟨q30_⟩, ⟨q0_⟩⟩
  case rest =>
    clear HC7
    try clear c1
    try clear c2
    try clear p2
    try clear c3
    try clear c4
    try clear c5
    try clear c6
    try clear c7
    try clear c8
    try clear c9
    try clear c10
    try clear c15
    try clear c16
    try clear c17
    try clear c18
    try clear c22
    try clear c23
    try clear c24
    try clear c30
    try clear c31
    try clear c32
    try clear c33
    try clear c39
    try clear c40
    try clear c41
    try clear c42
    try clear c43
    try clear c45
    try clear c45b0
    try clear c46
    try clear c47
    try clear c48
    try clear c49
    try clear c50
    try clear c52
    try clear c53
    try clear c54
    try clear c55
    try clear c57
    try clear c57b0
    try clear c57b1
    try clear c58
    try clear c58b0
    try clear c59
    try clear c60
    try clear c61
    try clear c62
    try clear c63
    try clear c65
    try clear c66
    try clear c67
    try clear c68
    try clear c70
    try clear c71
    try clear c72
    try clear c74
    try clear c75
    try clear c77
    try clear c78
    try clear c79
    try clear c80
    try clear c81
    try clear c83
    try clear c84
    try clear c85
    try clear c86
    try clear c88
    try clear c89
    try clear c90
    try clear c92
    try clear c93
    try clear c95
    try clear c96
    try clear c97
    try clear c98
    try clear c99
    try clear c101
    try clear c102
    try clear c103
    try clear c104
    try clear hcz100_0
    try clear hcz100_1
    try clear hcz100_2
    try clear hcz105_0
    try clear hcz105_1
    try clear hcz105_2
    try clear hcz11_0
    try clear hcz11_1
    try clear hcz11_2
    try clear hcz12_0
    try clear hcz12_1
    try clear hcz12_2
    try clear hcz17_0
    try clear hcz17_1
    try clear hcz17_2
    try clear hcz18_0
    try clear hcz18_1
    try clear hcz18_2
    try clear hcz19_0
    try clear hcz19_1
    try clear hcz19_2
    try clear hcz25_0
    try clear hcz25_1
    try clear hcz25_2
    try clear hcz26_0
    try clear hcz26_1
    try clear hcz26_2
    try clear hcz27_0
    try clear hcz27_1
    try clear hcz27_2
    try clear hcz34_0
    try clear hcz34_1
    try clear hcz34_2
    try clear hcz35_0
    try clear hcz35_1
    try clear hcz35_2
    try clear hcz36_0
    try clear hcz36_1
    try clear hcz36_2
    try clear hcz44_0
    try clear hcz44_1
    try clear hcz44_2
    try clear hcz51_0
    try clear hcz51_1
    try clear hcz51_2
    try clear hcz56_0
    try clear hcz56_1
    try clear hcz56_2
    try clear hcz64_0
    try clear hcz64_1
    try clear hcz64_2
    try clear hcz69_0
    try clear hcz69_1
    try clear hcz69_2
    try clear hcz73_0
    try clear hcz73_1
    try clear hcz73_2
    try clear hcz76_0
    try clear hcz76_1
    try clear hcz76_2
    try clear hcz82_0
    try clear hcz82_1
    try clear hcz82_2
    try clear hcz87_0
    try clear hcz87_1
    try clear hcz87_2
    try clear hcz91_0
    try clear hcz91_1
    try clear hcz91_2
    try clear hcz94_0
    try clear hcz94_1
    try clear hcz94_2
    try clear hfz100_0
    try clear hfz100_1
    try clear hfz100_2
    try clear hfz105_0
    try clear hfz105_1
    try clear hfz105_2
    try clear hfz11_0
    try clear hfz11_1
    try clear hfz11_2
    try clear hfz12_0
    try clear hfz12_1
    try clear hfz12_2
    try clear hfz17_0
    try clear hfz17_1
    try clear hfz17_2
    try clear hfz18_0
    try clear hfz18_1
    try clear hfz18_2
    try clear hfz19_0
    try clear hfz19_1
    try clear hfz19_2
    try clear hfz25_0
    try clear hfz25_1
    try clear hfz25_2
    try clear hfz26_0
    try clear hfz26_1
    try clear hfz26_2
    try clear hfz27_0
    try clear hfz27_1
    try clear hfz27_2
    try clear hfz34_0
    try clear hfz34_1
    try clear hfz34_2
    try clear hfz35_0
    try clear hfz35_1
    try clear hfz35_2
    try clear hfz36_0
    try clear hfz36_1
    try clear hfz36_2
    try clear hfz44_0
    try clear hfz44_1
    try clear hfz44_2
    try clear hfz51_0
    try clear hfz51_1
    try clear hfz51_2
    try clear hfz56_0
    try clear hfz56_1
    try clear hfz56_2
    try clear hfz64_0
    try clear hfz64_1
    try clear hfz64_2
    try clear hfz69_0
    try clear hfz69_1
    try clear hfz69_2
    try clear hfz73_0
    try clear hfz73_1
    try clear hfz73_2
    try clear hfz76_0
    try clear hfz76_1
    try clear hfz76_2
    try clear hfz82_0
    try clear hfz82_1
    try clear hfz82_2
    try clear hfz87_0
    try clear hfz87_1
    try clear hfz87_2
    try clear hfz91_0
    try clear hfz91_1
    try clear hfz91_2
    try clear hfz94_0
    try clear hfz94_1
    try clear hfz94_2
    obtain ⟨kq, x56_6, rfl, HA, HJ6, BK229, BK230, BK235, BK240, BK245, BK250, HB⟩ := hcut
    cases kq with
    | zero => exact absurd HA.out (by simp [corollarylaw01_ValueBack.j0])
    | succ kj6 =>
      have H := HA.out
      clear HA
      simp only [corollarylaw01_ValueBack.j0] at H
      by_cases c106 : x56_6 = true
      · subst c106
        replace H := ifT_ H
        obtain rfl := Option.some.inj H
        go_wp2
        go_ret
        exact ⟨q3_, q0_⟩
      · replace c106 := Bool.eq_false_iff.mpr c106
        subst c106
        replace H := ifF_ H
        have HC107 := Aside0.mk H
        clear H
        go_upto_region 7 with (fail)
        go_cut [63] (fun v63 wc => ∃ (kq : Nat) (x63_106 : Bool), v63 = .bool x63_106 ∧ Aside0 (corollarylaw01_ValueBack.j1 kq x63_106 a0_0 a0_1 a0_2 a1_0 a1_1 a1_2 t231 t232 t233 = some r) ∧ Aside0 (kq ≤ kj6) ∧ Aside0 (wc.heap[gb229]? = some (.cells #[.int .i64 a0_0, .int .i64 a0_1, .string a0_2] 23 (0, 0))) ∧ Aside0 (wc.heap[gb230]? = some (.cells #[.int .i64 a1_0, .int .i64 a1_1, .string a1_2] 23 (0, 0))) ∧ Aside0 (wc.heap[gb235]? = some (.cells #[.int .i64 t231, .int .i64 t232, .string t233] 23 (0, 0))) ∧ Aside0 (wc.heap[gb240]? = some (.cells #[.int .i64 t236, .int .i64 t237, .string t238] 23 (0, 0))) ∧ Aside0 (wc.heap[gb245]? = some (.cells #[.int .i64 t241, .int .i64 t242, .string t243] 23 (0, 0))) ∧ Aside0 (wc.heap[gb250]? = some (.cells #[.int .i64 t246, .int .i64 t247, .string t248] 23 (0, 0))) ∧ Aside0 (Below w.heap.size w wc))
        case first =>
          have H := HC107.out
          clear HC107
          by_cases c108 : t234 = 0
          · rw [if_pos c108] at H
            have c108b0 : (t234 == 0) = true := beq_iff_eq.mpr c108
            have c108b1 : (t234 != 0) = false := bne_eq_false_iff_eq.mpr c108
            clear c108
            (first | rw [c108b0] | (simp only [i64_w, i32_w]; rw [c108b0]) | skip)
            have H' := Aside0.mk H
            clear H
            have hnb109 := NB235_229.out
            have hnc109 := NB229_235.out
            have hnb110 := NB235_230.out
            have hnc110 := NB230_235.out
            have hnb111 := NB235_240.out
            have hnc111 := NB240_235.out
            have hnb112 := NB235_245.out
            have hnc112 := NB245_235.out
            have hnb113 := NB235_250.out
            have hnc113 := NB250_235.out
            have hcz114_0 : wc.cell? ⟨gb235, 0, none⟩ = some (.int .i64 t231) := (blk_cell BK235.out 0).trans rfl
            have hcz114_1 : wc.cell? ⟨gb235, 1, none⟩ = some (.int .i64 t232) := (blk_cell BK235.out 1).trans rfl
            have hcz114_2 : wc.cell? ⟨gb235, 2, none⟩ = some (.string t233) := (blk_cell BK235.out 2).trans rfl
            have hfz114_0 := blk_frozen BK235.out 0
            have hfz114_1 := blk_frozen BK235.out 1
            have hfz114_2 := blk_frozen BK235.out 2
            go_wp2
            go_meet
            case rel => exact ⟨_, ((t231 == 0)), q5_, H', ⟨by have := HJ6.out; first | omega | exact Nat.le_refl _⟩, ⟨q16_⟩, ⟨q22_⟩, ⟨q27_⟩, ⟨q36_⟩, ⟨q44_⟩, ⟨q58_⟩, ⟨q0_⟩⟩
          · rw [if_neg c108] at H
            have c108b0 : (t234 == 0) = false := beq_eq_false_iff_ne.mpr c108
            have c108b1 : (t234 != 0) = true := bne_iff_ne.mpr c108
            (first | rw [c108b0] | (simp only [i64_w, i32_w]; rw [c108b0]) | skip)
            have H' := Aside0.mk H
            clear H
            go_wp2
            go_meet
            case rel => exact ⟨_, (true), q5_, H', ⟨by have := HJ6.out; first | omega | exact Nat.le_refl _⟩, ⟨q16_⟩, ⟨q22_⟩, ⟨q27_⟩, ⟨q36_⟩, ⟨q44_⟩, ⟨q58_⟩, ⟨q0_⟩⟩
        case rest =>
          clear HC107
          try clear c1
          try clear c2
          try clear p2
          try clear c3
          try clear c4
          try clear c5
          try clear c6
          try clear c7
          try clear c8
          try clear c9
          try clear c10
          try clear c11
          try clear c15
          try clear c16
          try clear c17
          try clear c18
          try clear c22
          try clear c23
          try clear c24
          try clear c30
          try clear c31
          try clear c32
          try clear c33
          try clear c39
          try clear c40
          try clear c41
          try clear c42
          try clear c43
          try clear c45
          try clear c45b0
          try clear c46
          try clear c47
          try clear c48
          try clear c49
          try clear c50
          try clear c52
          try clear c53
          try clear c54
          try clear c55
          try clear c57
          try clear c57b0
          try clear c57b1
          try clear c58
          try clear c58b0
          try clear c59
          try clear c60
          try clear c61
          try clear c62
          try clear c63
          try clear c65
          try clear c66
          try clear c67
          try clear c68
          try clear c70
          try clear c71
          try clear c72
          try clear c74
          try clear c75
          try clear c77
          try clear c78
          try clear c79
          try clear c80
          try clear c81
          try clear c83
          try clear c84
          try clear c85
          try clear c86
          try clear c88
          try clear c89
          try clear c90
          try clear c92
          try clear c93
          try clear c95
          try clear c96
          try clear c97
          try clear c98
          try clear c99
          try clear c101
          try clear c102
          try clear c103
          try clear c104
          try clear c106
          try clear c108
          try clear c108b0
          try clear c108b1
          try clear c109
          try clear c110
          try clear c111
          try clear c112
          try clear c113
          try clear hcz100_0
          try clear hcz100_1
          try clear hcz100_2
          try clear hcz105_0
          try clear hcz105_1
          try clear hcz105_2
          try clear hcz114_0
          try clear hcz114_1
          try clear hcz114_2
          try clear hcz11_0
          try clear hcz11_1
          try clear hcz11_2
          try clear hcz12_0
          try clear hcz12_1
          try clear hcz12_2
          try clear hcz17_0
          try clear hcz17_1
          try clear hcz17_2
          try clear hcz18_0
          try clear hcz18_1
          try clear hcz18_2
          try clear hcz19_0
          try clear hcz19_1
          try clear hcz19_2
          try clear hcz25_0
          try clear hcz25_1
          try clear hcz25_2
          try clear hcz26_0
          try clear hcz26_1
          try clear hcz26_2
          try clear hcz27_0
          try clear hcz27_1
          try clear hcz27_2
          try clear hcz34_0
          try clear hcz34_1
          try clear hcz34_2
          try clear hcz35_0
          try clear hcz35_1
          try clear hcz35_2
          try clear hcz36_0
          try clear hcz36_1
          try clear hcz36_2
          try clear hcz44_0
          try clear hcz44_1
          try clear hcz44_2
          try clear hcz51_0
          try clear hcz51_1
          try clear hcz51_2
          try clear hcz56_0
          try clear hcz56_1
          try clear hcz56_2
          try clear hcz64_0
          try clear hcz64_1
          try clear hcz64_2
          try clear hcz69_0
          try clear hcz69_1
          try clear hcz69_2
          try clear hcz73_0
          try clear hcz73_1
          try clear hcz73_2
          try clear hcz76_0
          try clear hcz76_1
          try clear hcz76_2
          try clear hcz82_0
          try clear hcz82_1
          try clear hcz82_2
          try clear hcz87_0
          try clear hcz87_1
          try clear hcz87_2
          try clear hcz91_0
          try clear hcz91_1
          try clear hcz91_2
          try clear hcz94_0
          try clear hcz94_1
          try clear hcz94_2
          try clear hfz100_0
          try clear hfz100_1
          try clear hfz100_2
          try clear hfz105_0
          try clear hfz105_1
          try clear hfz105_2
          try clear hfz114_0
          try clear hfz114_1
          try clear hfz114_2
          try clear hfz11_0
          try clear hfz11_1
          try clear hfz11_2
          try clear hfz12_0
          try clear hfz12_1
          try clear hfz12_2
          try clear hfz17_0
          try clear hfz17_1
          try clear hfz17_2
          try clear hfz18_0
          try clear hfz18_1
          try clear hfz18_2
          try clear hfz19_0
          try clear hfz19_1
          try clear hfz19_2
          try clear hfz25_0
          try clear hfz25_1
          try clear hfz25_2
          try clear hfz26_0
          try clear hfz26_1
          try clear hfz26_2
          try clear hfz27_0
          try clear hfz27_1
          try clear hfz27_2
          try clear hfz34_0
          try clear hfz34_1
          try clear hfz34_2
          try clear hfz35_0
          try clear hfz35_1
          try clear hfz35_2
          try clear hfz36_0
          try clear hfz36_1
          try clear hfz36_2
          try clear hfz44_0
          try clear hfz44_1
          try clear hfz44_2
          try clear hfz51_0
          try clear hfz51_1
          try clear hfz51_2
          try clear hfz56_0
          try clear hfz56_1
          try clear hfz56_2
          try clear hfz64_0
          try clear hfz64_1
          try clear hfz64_2
          try clear hfz69_0
          try clear hfz69_1
          try clear hfz69_2
          try clear hfz73_0
          try clear hfz73_1
          try clear hfz73_2
          try clear hfz76_0
          try clear hfz76_1
          try clear hfz76_2
          try clear hfz82_0
          try clear hfz82_1
          try clear hfz82_2
          try clear hfz87_0
          try clear hfz87_1
          try clear hfz87_2
          try clear hfz91_0
          try clear hfz91_1
          try clear hfz91_2
          try clear hfz94_0
          try clear hfz94_1
          try clear hfz94_2
          try clear p2
          obtain ⟨kq, x63_106, rfl, HA, HJ106, BK229, BK230, BK235, BK240, BK245, BK250, HB⟩ := hcut
          cases kq with
          | zero => exact absurd HA.out (by simp [corollarylaw01_ValueBack.j1])
          | succ kj106 =>
            have H := HA.out
            clear HA
            simp only [corollarylaw01_ValueBack.j1] at H
            by_cases c115 : x63_106 = true
            · subst c115
              replace H := ifT_ H
              replace H := Option.bind_eq_some_iff.mp H
              obtain ⟨t251, A1160, H⟩ := H
              replace H : (some t251) = some r := H
              have A116 := Aside0.mk A1160
              clear A1160
              obtain rfl := Option.some.inj H
              go_wp2_with (first | ((with_reducible refine gate_callee (f := 14) rfl ?_); refine goesL_ (some 64) rfl rfl Tryd.func14 (by kernel_rfl) rfl #[] rfl q2_ ?_; (with_reducible refine (corollarylaw01_awake.calls kj106  t251 _ A116.out q43_).mono ?_); rintro e w117 ⟨rfl, hb⟩; refine ⟨_, rfl, ?_⟩; have n0_ := Aside0.mk (blk_below (g := gb229) (o := .cells #[.int .i64 a0_0, .int .i64 a0_1, .string a0_2] 23 (0, 0)) q16_ hb); have n1_ := Aside0.mk (blk_below (g := gb230) (o := .cells #[.int .i64 a1_0, .int .i64 a1_1, .string a1_2] 23 (0, 0)) q22_ hb); have n2_ := Aside0.mk (blk_below (g := gb235) (o := .cells #[.int .i64 t231, .int .i64 t232, .string t233] 23 (0, 0)) q27_ hb); have n3_ := Aside0.mk (blk_below (g := gb240) (o := .cells #[.int .i64 t236, .int .i64 t237, .string t238] 23 (0, 0)) q36_ hb); have n4_ := Aside0.mk (blk_below (g := gb245) (o := .cells #[.int .i64 t241, .int .i64 t242, .string t243] 23 (0, 0)) q44_ hb); have n5_ := Aside0.mk (blk_below (g := gb250) (o := .cells #[.int .i64 t246, .int .i64 t247, .string t248] 23 (0, 0)) q58_ hb); have n6_ := Aside0.mk (below_step q0_ hb); clear BK229; clear BK230; clear BK235; clear BK240; clear BK245; clear BK250; clear HB; have BK229 := n0_; have BK230 := n1_; have BK235 := n2_; have BK240 := n3_; have BK245 := n4_; have BK250 := n5_; have HB := n6_; clear n0_ n1_ n2_ n3_ n4_ n5_ n6_; (try clear hb); (try clear hb2); (try clear hk); (try clear hi)))
              go_ret
              exact ⟨q3_, q0_⟩
            · replace c115 := Bool.eq_false_iff.mpr c115
              subst c115
              replace H := ifF_ H
              replace H := Option.bind_eq_some_iff.mp H
              obtain ⟨⟨t252, t253, t254, t255⟩, A1180, H⟩ := H
              replace H : (if (t252 == a0_0 && (t253 == a0_1 && (t254.toList == a0_2.toList))) = true then (if t255 = 0 then ((corollarylaw01_awake.f kj106).bind fun t257 => (some t257)) else (some false)) else (some false)) = some r := H
              have A118 := Aside0.mk A1180
              clear A1180
              by_cases c119 : (t252 == a0_0 && (t253 == a0_1 && (t254.toList == a0_2.toList))) = true
              · rw [if_pos c119] at H
                have c119b0 : (t252 == a0_0 && (t253 == a0_1 && (t254.toList == a0_2.toList))) = true := c119
                (try (have c119b1 : decide (t252 = a0_0 && (t253 == a0_1 && (t254.toList == a0_2.toList))) = true := by simpa using c119))
                (try (have c119b2 : (t252 == a0_0 && (t253 == a0_1 && (t254.toList == a0_2.toList))) = true := by simpa using c119))
                clear c119
                by_cases c120 : t255 = 0
                · rw [if_pos c120] at H
                  have c120b0 : (t255 == 0) = true := beq_iff_eq.mpr c120
                  have c120b1 : (t255 != 0) = false := bne_eq_false_iff_eq.mpr c120
                  clear c120
                  replace H := Option.bind_eq_some_iff.mp H
                  obtain ⟨t257, A1210, H⟩ := H
                  replace H : (some t257) = some r := H
                  have A121 := Aside0.mk A1210
                  clear A1210
                  obtain rfl := Option.some.inj H
                  have hnb122 := NB235_229.out
                  have hnc122 := NB229_235.out
                  have hnb123 := NB235_230.out
                  have hnc123 := NB230_235.out
                  have hnb124 := NB235_240.out
                  have hnc124 := NB240_235.out
                  have hnb125 := NB235_245.out
                  have hnc125 := NB245_235.out
                  have hnb126 := NB235_250.out
                  have hnc126 := NB250_235.out
                  have hcz127_0 : wc.cell? ⟨gb235, 0, none⟩ = some (.int .i64 t231) := (blk_cell BK235.out 0).trans rfl
                  have hcz127_1 : wc.cell? ⟨gb235, 1, none⟩ = some (.int .i64 t232) := (blk_cell BK235.out 1).trans rfl
                  have hcz127_2 : wc.cell? ⟨gb235, 2, none⟩ = some (.string t233) := (blk_cell BK235.out 2).trans rfl
                  have hfz127_0 := blk_frozen BK235.out 0
                  have hfz127_1 := blk_frozen BK235.out 1
                  have hfz127_2 := blk_frozen BK235.out 2
                  have hnb128 := NB230_229.out
                  have hnc128 := NB229_230.out
                  have hnb129 := NB230_240.out
                  have hnc129 := NB240_230.out
                  have hnb130 := NB230_245.out
                  have hnc130 := NB245_230.out
                  have hnb131 := NB230_250.out
                  have hnc131 := NB250_230.out
                  have hcz132_0 : wc.cell? ⟨gb230, 0, none⟩ = some (.int .i64 a1_0) := (blk_cell BK230.out 0).trans rfl
                  have hcz132_1 : wc.cell? ⟨gb230, 1, none⟩ = some (.int .i64 a1_1) := (blk_cell BK230.out 1).trans rfl
                  have hcz132_2 : wc.cell? ⟨gb230, 2, none⟩ = some (.string a1_2) := (blk_cell BK230.out 2).trans rfl
                  have hfz132_0 := blk_frozen BK230.out 0
                  have hfz132_1 := blk_frozen BK230.out 1
                  have hfz132_2 := blk_frozen BK230.out 2
                  go_wp2_with (first | ((with_reducible refine gate_callee (f := 19) rfl ?_); refine goesL_ (some 68) rfl rfl Tryd.func19 (by kernel_rfl) rfl #[.agg #[.int .i64 t231, .int .i64 t232, .string t233], .agg #[.int .i64 a1_0, .int .i64 a1_1, .string a1_2]] rfl q2_ ?_; (with_reducible refine (value_Sub.calls kj106 t231 t232 t233 a1_0 a1_1 a1_2 t252 t253 t254 t255 _ A118.out q43_).mono ?_); rintro e w133 ⟨rfl, hb⟩; refine ⟨_, rfl, ?_⟩; have n0_ := Aside0.mk (blk_below (g := gb229) (o := .cells #[.int .i64 a0_0, .int .i64 a0_1, .string a0_2] 23 (0, 0)) q16_ hb); have n1_ := Aside0.mk (blk_below (g := gb230) (o := .cells #[.int .i64 a1_0, .int .i64 a1_1, .string a1_2] 23 (0, 0)) q22_ hb); have n2_ := Aside0.mk (blk_below (g := gb235) (o := .cells #[.int .i64 t231, .int .i64 t232, .string t233] 23 (0, 0)) q27_ hb); have n3_ := Aside0.mk (blk_below (g := gb240) (o := .cells #[.int .i64 t236, .int .i64 t237, .string t238] 23 (0, 0)) q36_ hb); have n4_ := Aside0.mk (blk_below (g := gb245) (o := .cells #[.int .i64 t241, .int .i64 t242, .string t243] 23 (0, 0)) q44_ hb); have n5_ := Aside0.mk (blk_below (g := gb250) (o := .cells #[.int .i64 t246, .int .i64 t247, .string t248] 23 (0, 0)) q58_ hb); have n6_ := Aside0.mk (below_step q0_ hb); clear BK229; clear BK230; clear BK235; clear BK240; clear BK245; clear BK250; clear HB; have BK229 := n0_; have BK230 := n1_; have BK235 := n2_; have BK240 := n3_; have BK245 := n4_; have BK250 := n5_; have HB := n6_; clear n0_ n1_ n2_ n3_ n4_ n5_ n6_; (try clear hb); (try clear hb2); (try clear hk); (try clear hi)) | ((with_reducible refine gate_dst (N := 13) rfl ?_); refine box_event ?hg (N := 13) ?hd (cs := #[.int .i64 0, .int .i64 0, .string (⟨#[]⟩ : ByteArray)]) (t := 23) ?hr ?_; (case hd => rfl); (case hg => rfl); (case hr => first | (go_simp; done) | (go_simp; rfl)); intro gb256 hg w134 hbox hb; have n0_ := Aside0.mk (blk_below (g := gb229) (o := .cells #[.int .i64 a0_0, .int .i64 a0_1, .string a0_2] 23 (0, 0)) q16_ hb); have n1_ := Aside0.mk (blk_below (g := gb230) (o := .cells #[.int .i64 a1_0, .int .i64 a1_1, .string a1_2] 23 (0, 0)) q22_ hb); have n2_ := Aside0.mk (blk_below (g := gb235) (o := .cells #[.int .i64 t231, .int .i64 t232, .string t233] 23 (0, 0)) q27_ hb); have n3_ := Aside0.mk (blk_below (g := gb240) (o := .cells #[.int .i64 t236, .int .i64 t237, .string t238] 23 (0, 0)) q36_ hb); have n4_ := Aside0.mk (blk_below (g := gb245) (o := .cells #[.int .i64 t241, .int .i64 t242, .string t243] 23 (0, 0)) q44_ hb); have n5_ := Aside0.mk (blk_below (g := gb250) (o := .cells #[.int .i64 t246, .int .i64 t247, .string t248] 23 (0, 0)) q58_ hb); have n6_ := Aside0.mk (below_step q0_ hb); have n7_ := Aside0.mk (hbox); have n8_ := Aside0.mk ((q1_ : w.heap.size ≤ gb256)); have n9_ := Aside0.mk ((q1_ : w.heap.size ≤ gb256)); have n10_ := Aside0.mk ((q37_ : gb229 ≠ gb256)); have n11_ := Aside0.mk ((q40_ : gb256 ≠ gb229)); have n12_ := Aside0.mk ((q47_ : gb230 ≠ gb256)); have n13_ := Aside0.mk ((q48_ : gb256 ≠ gb230)); have n14_ := Aside0.mk ((q63_ : gb235 ≠ gb256)); have n15_ := Aside0.mk ((q66_ : gb256 ≠ gb235)); have n16_ := Aside0.mk ((q70_ : gb240 ≠ gb256)); have n17_ := Aside0.mk ((q71_ : gb256 ≠ gb240)); have n18_ := Aside0.mk ((q81_ : gb245 ≠ gb256)); have n19_ := Aside0.mk ((q83_ : gb256 ≠ gb245)); have n20_ := Aside0.mk ((q86_ : gb250 ≠ gb256)); have n21_ := Aside0.mk ((q90_ : gb256 ≠ gb250)); clear BK229; clear BK230; clear BK235; clear BK240; clear BK245; clear BK250; clear HB; have BK229 := n0_; have BK230 := n1_; have BK235 := n2_; have BK240 := n3_; have BK245 := n4_; have BK250 := n5_; have HB := n6_; have BK256 := n7_; have GW256 := n8_; have GE256 := n9_; have NB229_256 := n10_; have NB256_229 := n11_; have NB230_256 := n12_; have NB256_230 := n13_; have NB235_256 := n14_; have NB256_235 := n15_; have NB240_256 := n16_; have NB256_240 := n17_; have NB245_256 := n18_; have NB256_245 := n19_; have NB250_256 := n20_; have NB256_250 := n21_; clear n0_ n1_ n2_ n3_ n4_ n5_ n6_ n7_ n8_ n9_ n10_ n11_ n12_ n13_ n14_ n15_ n16_ n17_ n18_ n19_ n20_ n21_; clear hb hbox hg; have hnb135 := NB256_229.out; have hnc135 := NB229_256.out; have hnb136 := NB256_230.out; have hnc136 := NB230_256.out; have hnb137 := NB256_235.out; have hnc137 := NB235_256.out; have hnb138 := NB256_240.out; have hnc138 := NB240_256.out; have hnb139 := NB256_245.out; have hnc139 := NB245_256.out; have hnb140 := NB256_250.out; have hnc140 := NB250_256.out; have hcz141_0 : w134.cell? ⟨gb256, 0, none⟩ = some (.int .i64 0) := (blk_cell BK256.out 0).trans rfl; have hcz141_1 : w134.cell? ⟨gb256, 1, none⟩ = some (.int .i64 0) := (blk_cell BK256.out 1).trans rfl; have hcz141_2 : w134.cell? ⟨gb256, 2, none⟩ = some (.string (⟨#[]⟩ : ByteArray)) := (blk_cell BK256.out 2).trans rfl; have hfz141_0 := blk_frozen BK256.out 0; have hfz141_1 := blk_frozen BK256.out 1; have hfz141_2 := blk_frozen BK256.out 2; have hnb142 := NB229_240.out; have hnc142 := NB240_229.out; have hnb143 := NB229_245.out; have hnc143 := NB245_229.out; have hnb144 := NB229_250.out; have hnc144 := NB250_229.out; have hcz145_0 : w134.cell? ⟨gb229, 0, none⟩ = some (.int .i64 a0_0) := (blk_cell BK229.out 0).trans rfl; have hcz145_1 : w134.cell? ⟨gb229, 1, none⟩ = some (.int .i64 a0_1) := (blk_cell BK229.out 1).trans rfl; have hcz145_2 : w134.cell? ⟨gb229, 2, none⟩ = some (.string a0_2) := (blk_cell BK229.out 2).trans rfl; have hfz145_0 := blk_frozen BK229.out 0; have hfz145_1 := blk_frozen BK229.out 1; have hfz145_2 := blk_frozen BK229.out 2) | (go_at_call 14; (with_reducible refine (corollarylaw01_awake.calls kj106  t257 _ A121.out (by first | exact HG.out | (refine Glob.below HG.out ?_; (repeat (first | (with_reducible first | exact HB.out | apply below_alloc | apply pw_below_drewN | apply below_drew1 | refine below_set ?_ GE229.out | refine below_set ?_ GE230.out | refine below_set ?_ GE235.out | refine below_set ?_ GE240.out | refine below_set ?_ GE245.out | refine below_set ?_ GE250.out | refine below_set ?_ GE256.out) | exact HB.out))) | (repeat (first | exact HG.out | apply Glob.drewN | apply Glob.drew | apply Glob.alloc)))).mono ?_); rintro e w146 ⟨rfl, hb⟩; have n0_ := Aside0.mk (blk_below (g := gb229) (o := .cells #[.int .i64 a0_0, .int .i64 a0_1, .string a0_2] 23 (0, 0)) (by (with_reducible repeat first | apply bN_ | apply bD_ | apply bA_); refine blk_far ?_ NB229_256.out _; (with_reducible repeat first | apply bN_ | apply bD_ | apply bA_); refine blk_far ?_ NB229_256.out _; (with_reducible repeat first | apply bN_ | apply bD_ | apply bA_); refine blk_far ?_ NB229_256.out _; (with_reducible repeat first | apply bN_ | apply bD_ | apply bA_); exact BK229.out) hb); have n1_ := Aside0.mk (blk_below (g := gb230) (o := .cells #[.int .i64 a1_0, .int .i64 a1_1, .string a1_2] 23 (0, 0)) (by (with_reducible repeat first | apply bN_ | apply bD_ | apply bA_); refine blk_far ?_ NB230_256.out _; (with_reducible repeat first | apply bN_ | apply bD_ | apply bA_); refine blk_far ?_ NB230_256.out _; (with_reducible repeat first | apply bN_ | apply bD_ | apply bA_); refine blk_far ?_ NB230_256.out _; (with_reducible repeat first | apply bN_ | apply bD_ | apply bA_); exact BK230.out) hb); have n2_ := Aside0.mk (blk_below (g := gb235) (o := .cells #[.int .i64 t231, .int .i64 t232, .string t233] 23 (0, 0)) (by (with_reducible repeat first | apply bN_ | apply bD_ | apply bA_); refine blk_far ?_ NB235_256.out _; (with_reducible repeat first | apply bN_ | apply bD_ | apply bA_); refine blk_far ?_ NB235_256.out _; (with_reducible repeat first | apply bN_ | apply bD_ | apply bA_); refine blk_far ?_ NB235_256.out _; (with_reducible repeat first | apply bN_ | apply bD_ | apply bA_); exact BK235.out) hb); have n3_ := Aside0.mk (blk_below (g := gb240) (o := .cells #[.int .i64 t236, .int .i64 t237, .string t238] 23 (0, 0)) (by (with_reducible repeat first | apply bN_ | apply bD_ | apply bA_); refine blk_far ?_ NB240_256.out _; (with_reducible repeat first | apply bN_ | apply bD_ | apply bA_); refine blk_far ?_ NB240_256.out _; (with_reducible repeat first | apply bN_ | apply bD_ | apply bA_); refine blk_far ?_ NB240_256.out _; (with_reducible repeat first | apply bN_ | apply bD_ | apply bA_); exact BK240.out) hb); have n4_ := Aside0.mk (blk_below (g := gb245) (o := .cells #[.int .i64 t241, .int .i64 t242, .string t243] 23 (0, 0)) (by (with_reducible repeat first | apply bN_ | apply bD_ | apply bA_); refine blk_far ?_ NB245_256.out _; (with_reducible repeat first | apply bN_ | apply bD_ | apply bA_); refine blk_far ?_ NB245_256.out _; (with_reducible repeat first | apply bN_ | apply bD_ | apply bA_); refine blk_far ?_ NB245_256.out _; (with_reducible repeat first | apply bN_ | apply bD_ | apply bA_); exact BK245.out) hb); have n5_ := Aside0.mk (blk_below (g := gb250) (o := .cells #[.int .i64 t246, .int .i64 t247, .string t248] 23 (0, 0)) (by (with_reducible repeat first | apply bN_ | apply bD_ | apply bA_); refine blk_far ?_ NB250_256.out _; (with_reducible repeat first | apply bN_ | apply bD_ | apply bA_); refine blk_far ?_ NB250_256.out _; (with_reducible repeat first | apply bN_ | apply bD_ | apply bA_); refine blk_far ?_ NB250_256.out _; (with_reducible repeat first | apply bN_ | apply bD_ | apply bA_); exact BK250.out) hb); have n6_ := Aside0.mk (blk_below (g := gb256) (o := .cells #[.int .i64 t252, .int .i64 t253, .string t254] 23 (0, 0)) (by (with_reducible repeat first | apply bN_ | apply bD_ | apply bA_); refine blk_put (cs := #[.int .i64 t252, .int .i64 t253, .string (⟨#[]⟩ : ByteArray)]) ?_ 2 _ rfl; (with_reducible repeat first | apply bN_ | apply bD_ | apply bA_); refine blk_put (cs := #[.int .i64 t252, .int .i64 0, .string (⟨#[]⟩ : ByteArray)]) ?_ 1 _ rfl; (with_reducible repeat first | apply bN_ | apply bD_ | apply bA_); refine blk_put (cs := #[.int .i64 0, .int .i64 0, .string (⟨#[]⟩ : ByteArray)]) ?_ 0 _ rfl; (with_reducible repeat first | apply bN_ | apply bD_ | apply bA_); exact BK256.out) hb); have n7_ := Aside0.mk (below_step q0_ hb); clear BK229; clear BK230; clear BK235; clear BK240; clear BK245; clear BK250; clear BK256; clear HB; have BK229 := n0_; have BK230 := n1_; have BK235 := n2_; have BK240 := n3_; have BK245 := n4_; have BK250 := n5_; have BK256 := n6_; have HB := n7_; clear n0_ n1_ n2_ n3_ n4_ n5_ n6_ n7_; (try clear hb); (try clear hb2); (try clear hk); (try clear hi)))
                  go_ret
                  exact ⟨q3_, q0_⟩
                · rw [if_neg c120] at H
                  have c120b0 : (t255 == 0) = false := beq_eq_false_iff_ne.mpr c120
                  have c120b1 : (t255 != 0) = true := bne_iff_ne.mpr c120
                  obtain rfl := Option.some.inj H
                  have hnb147 := NB235_229.out
                  have hnc147 := NB229_235.out
                  have hnb148 := NB235_230.out
                  have hnc148 := NB230_235.out
                  have hnb149 := NB235_240.out
                  have hnc149 := NB240_235.out
                  have hnb150 := NB235_245.out
                  have hnc150 := NB245_235.out
                  have hnb151 := NB235_250.out
                  have hnc151 := NB250_235.out
                  have hcz152_0 : wc.cell? ⟨gb235, 0, none⟩ = some (.int .i64 t231) := (blk_cell BK235.out 0).trans rfl
                  have hcz152_1 : wc.cell? ⟨gb235, 1, none⟩ = some (.int .i64 t232) := (blk_cell BK235.out 1).trans rfl
                  have hcz152_2 : wc.cell? ⟨gb235, 2, none⟩ = some (.string t233) := (blk_cell BK235.out 2).trans rfl
                  have hfz152_0 := blk_frozen BK235.out 0
                  have hfz152_1 := blk_frozen BK235.out 1
                  have hfz152_2 := blk_frozen BK235.out 2
                  have hnb153 := NB230_229.out
                  have hnc153 := NB229_230.out
                  have hnb154 := NB230_240.out
                  have hnc154 := NB240_230.out
                  have hnb155 := NB230_245.out
                  have hnc155 := NB245_230.out
                  have hnb156 := NB230_250.out
                  have hnc156 := NB250_230.out
                  have hcz157_0 : wc.cell? ⟨gb230, 0, none⟩ = some (.int .i64 a1_0) := (blk_cell BK230.out 0).trans rfl
                  have hcz157_1 : wc.cell? ⟨gb230, 1, none⟩ = some (.int .i64 a1_1) := (blk_cell BK230.out 1).trans rfl
                  have hcz157_2 : wc.cell? ⟨gb230, 2, none⟩ = some (.string a1_2) := (blk_cell BK230.out 2).trans rfl
                  have hfz157_0 := blk_frozen BK230.out 0
                  have hfz157_1 := blk_frozen BK230.out 1
                  have hfz157_2 := blk_frozen BK230.out 2
                  go_wp2_with (first | ((with_reducible refine gate_callee (f := 19) rfl ?_); refine goesL_ (some 68) rfl rfl Tryd.func19 (by kernel_rfl) rfl #[.agg #[.int .i64 t231, .int .i64 t232, .string t233], .agg #[.int .i64 a1_0, .int .i64 a1_1, .string a1_2]] rfl q2_ ?_; (with_reducible refine (value_Sub.calls kj106 t231 t232 t233 a1_0 a1_1 a1_2 t252 t253 t254 t255 _ A118.out q43_).mono ?_); rintro e w158 ⟨rfl, hb⟩; refine ⟨_, rfl, ?_⟩; have n0_ := Aside0.mk (blk_below (g := gb229) (o := .cells #[.int .i64 a0_0, .int .i64 a0_1, .string a0_2] 23 (0, 0)) q16_ hb); have n1_ := Aside0.mk (blk_below (g := gb230) (o := .cells #[.int .i64 a1_0, .int .i64 a1_1, .string a1_2] 23 (0, 0)) q22_ hb); have n2_ := Aside0.mk (blk_below (g := gb235) (o := .cells #[.int .i64 t231, .int .i64 t232, .string t233] 23 (0, 0)) q27_ hb); have n3_ := Aside0.mk (blk_below (g := gb240) (o := .cells #[.int .i64 t236, .int .i64 t237, .string t238] 23 (0, 0)) q36_ hb); have n4_ := Aside0.mk (blk_below (g := gb245) (o := .cells #[.int .i64 t241, .int .i64 t242, .string t243] 23 (0, 0)) q44_ hb); have n5_ := Aside0.mk (blk_below (g := gb250) (o := .cells #[.int .i64 t246, .int .i64 t247, .string t248] 23 (0, 0)) q58_ hb); have n6_ := Aside0.mk (below_step q0_ hb); clear BK229; clear BK230; clear BK235; clear BK240; clear BK245; clear BK250; clear HB; have BK229 := n0_; have BK230 := n1_; have BK235 := n2_; have BK240 := n3_; have BK245 := n4_; have BK250 := n5_; have HB := n6_; clear n0_ n1_ n2_ n3_ n4_ n5_ n6_; (try clear hb); (try clear hb2); (try clear hk); (try clear hi)) | ((with_reducible refine gate_dst (N := 13) rfl ?_); refine box_event ?hg (N := 13) ?hd (cs := #[.int .i64 0, .int .i64 0, .string (⟨#[]⟩ : ByteArray)]) (t := 23) ?hr ?_; (case hd => rfl); (case hg => rfl); (case hr => first | (go_simp; done) | (go_simp; rfl)); intro gb256 hg w159 hbox hb; have n0_ := Aside0.mk (blk_below (g := gb229) (o := .cells #[.int .i64 a0_0, .int .i64 a0_1, .string a0_2] 23 (0, 0)) q16_ hb); have n1_ := Aside0.mk (blk_below (g := gb230) (o := .cells #[.int .i64 a1_0, .int .i64 a1_1, .string a1_2] 23 (0, 0)) q22_ hb); have n2_ := Aside0.mk (blk_below (g := gb235) (o := .cells #[.int .i64 t231, .int .i64 t232, .string t233] 23 (0, 0)) q27_ hb); have n3_ := Aside0.mk (blk_below (g := gb240) (o := .cells #[.int .i64 t236, .int .i64 t237, .string t238] 23 (0, 0)) q36_ hb); have n4_ := Aside0.mk (blk_below (g := gb245) (o := .cells #[.int .i64 t241, .int .i64 t242, .string t243] 23 (0, 0)) q44_ hb); have n5_ := Aside0.mk (blk_below (g := gb250) (o := .cells #[.int .i64 t246, .int .i64 t247, .string t248] 23 (0, 0)) q58_ hb); have n6_ := Aside0.mk (below_step q0_ hb); have n7_ := Aside0.mk (hbox); have n8_ := Aside0.mk ((q1_ : w.heap.size ≤ gb256)); have n9_ := Aside0.mk ((q1_ : w.heap.size ≤ gb256)); have n10_ := Aside0.mk ((q37_ : gb229 ≠ gb256)); have n11_ := Aside0.mk ((q40_ : gb256 ≠ gb229)); have n12_ := Aside0.mk ((q47_ : gb230 ≠ gb256)); have n13_ := Aside0.mk ((q48_ : gb256 ≠ gb230)); have n14_ := Aside0.mk ((q63_ : gb235 ≠ gb256)); have n15_ := Aside0.mk ((q66_ : gb256 ≠ gb235)); have n16_ := Aside0.mk ((q70_ : gb240 ≠ gb256)); have n17_ := Aside0.mk ((q71_ : gb256 ≠ gb240)); have n18_ := Aside0.mk ((q81_ : gb245 ≠ gb256)); have n19_ := Aside0.mk ((q83_ : gb256 ≠ gb245)); have n20_ := Aside0.mk ((q86_ : gb250 ≠ gb256)); have n21_ := Aside0.mk ((q90_ : gb256 ≠ gb250)); clear BK229; clear BK230; clear BK235; clear BK240; clear BK245; clear BK250; clear HB; have BK229 := n0_; have BK230 := n1_; have BK235 := n2_; have BK240 := n3_; have BK245 := n4_; have BK250 := n5_; have HB := n6_; have BK256 := n7_; have GW256 := n8_; have GE256 := n9_; have NB229_256 := n10_; have NB256_229 := n11_; have NB230_256 := n12_; have NB256_230 := n13_; have NB235_256 := n14_; have NB256_235 := n15_; have NB240_256 := n16_; have NB256_240 := n17_; have NB245_256 := n18_; have NB256_245 := n19_; have NB250_256 := n20_; have NB256_250 := n21_; clear n0_ n1_ n2_ n3_ n4_ n5_ n6_ n7_ n8_ n9_ n10_ n11_ n12_ n13_ n14_ n15_ n16_ n17_ n18_ n19_ n20_ n21_; clear hb hbox hg; have hnb160 := NB256_229.out; have hnc160 := NB229_256.out; have hnb161 := NB256_230.out; have hnc161 := NB230_256.out; have hnb162 := NB256_235.out; have hnc162 := NB235_256.out; have hnb163 := NB256_240.out; have hnc163 := NB240_256.out; have hnb164 := NB256_245.out; have hnc164 := NB245_256.out; have hnb165 := NB256_250.out; have hnc165 := NB250_256.out; have hcz166_0 : w159.cell? ⟨gb256, 0, none⟩ = some (.int .i64 0) := (blk_cell BK256.out 0).trans rfl; have hcz166_1 : w159.cell? ⟨gb256, 1, none⟩ = some (.int .i64 0) := (blk_cell BK256.out 1).trans rfl; have hcz166_2 : w159.cell? ⟨gb256, 2, none⟩ = some (.string (⟨#[]⟩ : ByteArray)) := (blk_cell BK256.out 2).trans rfl; have hfz166_0 := blk_frozen BK256.out 0; have hfz166_1 := blk_frozen BK256.out 1; have hfz166_2 := blk_frozen BK256.out 2; have hnb167 := NB229_240.out; have hnc167 := NB240_229.out; have hnb168 := NB229_245.out; have hnc168 := NB245_229.out; have hnb169 := NB229_250.out; have hnc169 := NB250_229.out; have hcz170_0 : w159.cell? ⟨gb229, 0, none⟩ = some (.int .i64 a0_0) := (blk_cell BK229.out 0).trans rfl; have hcz170_1 : w159.cell? ⟨gb229, 1, none⟩ = some (.int .i64 a0_1) := (blk_cell BK229.out 1).trans rfl; have hcz170_2 : w159.cell? ⟨gb229, 2, none⟩ = some (.string a0_2) := (blk_cell BK229.out 2).trans rfl; have hfz170_0 := blk_frozen BK229.out 0; have hfz170_1 := blk_frozen BK229.out 1; have hfz170_2 := blk_frozen BK229.out 2))
                  go_ret
                  exact ⟨q3_, q0_⟩
              · rw [if_neg c119] at H
                have c119b0 : (t252 == a0_0 && (t253 == a0_1 && (t254.toList == a0_2.toList))) = false := by simpa using c119
                (try (have c119b1 : decide (t252 = a0_0 && (t253 == a0_1 && (t254.toList == a0_2.toList))) = false := by simpa using c119))
                (try (have c119b2 : (t252 == a0_0 && (t253 == a0_1 && (t254.toList == a0_2.toList))) = false := by simpa using c119))
                (try (have c119b3 : ¬ (t252 = a0_0 && (t253 == a0_1 && (t254.toList == a0_2.toList))) := by simpa using c119))
                clear c119
                obtain rfl := Option.some.inj H
                have hnb171 := NB235_229.out
                have hnc171 := NB229_235.out
                have hnb172 := NB235_230.out
                have hnc172 := NB230_235.out
                have hnb173 := NB235_240.out
                have hnc173 := NB240_235.out
                have hnb174 := NB235_245.out
                have hnc174 := NB245_235.out
                have hnb175 := NB235_250.out
                have hnc175 := NB250_235.out
                have hcz176_0 : wc.cell? ⟨gb235, 0, none⟩ = some (.int .i64 t231) := (blk_cell BK235.out 0).trans rfl
                have hcz176_1 : wc.cell? ⟨gb235, 1, none⟩ = some (.int .i64 t232) := (blk_cell BK235.out 1).trans rfl
                have hcz176_2 : wc.cell? ⟨gb235, 2, none⟩ = some (.string t233) := (blk_cell BK235.out 2).trans rfl
                have hfz176_0 := blk_frozen BK235.out 0
                have hfz176_1 := blk_frozen BK235.out 1
                have hfz176_2 := blk_frozen BK235.out 2
                have hnb177 := NB230_229.out
                have hnc177 := NB229_230.out
                have hnb178 := NB230_240.out
                have hnc178 := NB240_230.out
                have hnb179 := NB230_245.out
                have hnc179 := NB245_230.out
                have hnb180 := NB230_250.out
                have hnc180 := NB250_230.out
                have hcz181_0 : wc.cell? ⟨gb230, 0, none⟩ = some (.int .i64 a1_0) := (blk_cell BK230.out 0).trans rfl
                have hcz181_1 : wc.cell? ⟨gb230, 1, none⟩ = some (.int .i64 a1_1) := (blk_cell BK230.out 1).trans rfl
                have hcz181_2 : wc.cell? ⟨gb230, 2, none⟩ = some (.string a1_2) := (blk_cell BK230.out 2).trans rfl
                have hfz181_0 := blk_frozen BK230.out 0
                have hfz181_1 := blk_frozen BK230.out 1
                have hfz181_2 := blk_frozen BK230.out 2
                go_wp2_with (first | ((with_reducible refine gate_callee (f := 19) rfl ?_); refine goesL_ (some 68) rfl rfl Tryd.func19 (by kernel_rfl) rfl #[.agg #[.int .i64 t231, .int .i64 t232, .string t233], .agg #[.int .i64 a1_0, .int .i64 a1_1, .string a1_2]] rfl q2_ ?_; (with_reducible refine (value_Sub.calls kj106 t231 t232 t233 a1_0 a1_1 a1_2 t252 t253 t254 t255 _ A118.out q43_).mono ?_); rintro e w182 ⟨rfl, hb⟩; refine ⟨_, rfl, ?_⟩; have n0_ := Aside0.mk (blk_below (g := gb229) (o := .cells #[.int .i64 a0_0, .int .i64 a0_1, .string a0_2] 23 (0, 0)) q16_ hb); have n1_ := Aside0.mk (blk_below (g := gb230) (o := .cells #[.int .i64 a1_0, .int .i64 a1_1, .string a1_2] 23 (0, 0)) q22_ hb); have n2_ := Aside0.mk (blk_below (g := gb235) (o := .cells #[.int .i64 t231, .int .i64 t232, .string t233] 23 (0, 0)) q27_ hb); have n3_ := Aside0.mk (blk_below (g := gb240) (o := .cells #[.int .i64 t236, .int .i64 t237, .string t238] 23 (0, 0)) q36_ hb); have n4_ := Aside0.mk (blk_below (g := gb245) (o := .cells #[.int .i64 t241, .int .i64 t242, .string t243] 23 (0, 0)) q44_ hb); have n5_ := Aside0.mk (blk_below (g := gb250) (o := .cells #[.int .i64 t246, .int .i64 t247, .string t248] 23 (0, 0)) q58_ hb); have n6_ := Aside0.mk (below_step q0_ hb); clear BK229; clear BK230; clear BK235; clear BK240; clear BK245; clear BK250; clear HB; have BK229 := n0_; have BK230 := n1_; have BK235 := n2_; have BK240 := n3_; have BK245 := n4_; have BK250 := n5_; have HB := n6_; clear n0_ n1_ n2_ n3_ n4_ n5_ n6_; (try clear hb); (try clear hb2); (try clear hk); (try clear hi)) | ((with_reducible refine gate_dst (N := 13) rfl ?_); refine box_event ?hg (N := 13) ?hd (cs := #[.int .i64 0, .int .i64 0, .string (⟨#[]⟩ : ByteArray)]) (t := 23) ?hr ?_; (case hd => rfl); (case hg => rfl); (case hr => first | (go_simp; done) | (go_simp; rfl)); intro gb256 hg w183 hbox hb; have n0_ := Aside0.mk (blk_below (g := gb229) (o := .cells #[.int .i64 a0_0, .int .i64 a0_1, .string a0_2] 23 (0, 0)) q16_ hb); have n1_ := Aside0.mk (blk_below (g := gb230) (o := .cells #[.int .i64 a1_0, .int .i64 a1_1, .string a1_2] 23 (0, 0)) q22_ hb); have n2_ := Aside0.mk (blk_below (g := gb235) (o := .cells #[.int .i64 t231, .int .i64 t232, .string t233] 23 (0, 0)) q27_ hb); have n3_ := Aside0.mk (blk_below (g := gb240) (o := .cells #[.int .i64 t236, .int .i64 t237, .string t238] 23 (0, 0)) q36_ hb); have n4_ := Aside0.mk (blk_below (g := gb245) (o := .cells #[.int .i64 t241, .int .i64 t242, .string t243] 23 (0, 0)) q44_ hb); have n5_ := Aside0.mk (blk_below (g := gb250) (o := .cells #[.int .i64 t246, .int .i64 t247, .string t248] 23 (0, 0)) q58_ hb); have n6_ := Aside0.mk (below_step q0_ hb); have n7_ := Aside0.mk (hbox); have n8_ := Aside0.mk ((q1_ : w.heap.size ≤ gb256)); have n9_ := Aside0.mk ((q1_ : w.heap.size ≤ gb256)); have n10_ := Aside0.mk ((q37_ : gb229 ≠ gb256)); have n11_ := Aside0.mk ((q40_ : gb256 ≠ gb229)); have n12_ := Aside0.mk ((q47_ : gb230 ≠ gb256)); have n13_ := Aside0.mk ((q48_ : gb256 ≠ gb230)); have n14_ := Aside0.mk ((q63_ : gb235 ≠ gb256)); have n15_ := Aside0.mk ((q66_ : gb256 ≠ gb235)); have n16_ := Aside0.mk ((q70_ : gb240 ≠ gb256)); have n17_ := Aside0.mk ((q71_ : gb256 ≠ gb240)); have n18_ := Aside0.mk ((q81_ : gb245 ≠ gb256)); have n19_ := Aside0.mk ((q83_ : gb256 ≠ gb245)); have n20_ := Aside0.mk ((q86_ : gb250 ≠ gb256)); have n21_ := Aside0.mk ((q90_ : gb256 ≠ gb250)); clear BK229; clear BK230; clear BK235; clear BK240; clear BK245; clear BK250; clear HB; have BK229 := n0_; have BK230 := n1_; have BK235 := n2_; have BK240 := n3_; have BK245 := n4_; have BK250 := n5_; have HB := n6_; have BK256 := n7_; have GW256 := n8_; have GE256 := n9_; have NB229_256 := n10_; have NB256_229 := n11_; have NB230_256 := n12_; have NB256_230 := n13_; have NB235_256 := n14_; have NB256_235 := n15_; have NB240_256 := n16_; have NB256_240 := n17_; have NB245_256 := n18_; have NB256_245 := n19_; have NB250_256 := n20_; have NB256_250 := n21_; clear n0_ n1_ n2_ n3_ n4_ n5_ n6_ n7_ n8_ n9_ n10_ n11_ n12_ n13_ n14_ n15_ n16_ n17_ n18_ n19_ n20_ n21_; clear hb hbox hg; have hnb184 := NB256_229.out; have hnc184 := NB229_256.out; have hnb185 := NB256_230.out; have hnc185 := NB230_256.out; have hnb186 := NB256_235.out; have hnc186 := NB235_256.out; have hnb187 := NB256_240.out; have hnc187 := NB240_256.out; have hnb188 := NB256_245.out; have hnc188 := NB245_256.out; have hnb189 := NB256_250.out; have hnc189 := NB250_256.out; have hcz190_0 : w183.cell? ⟨gb256, 0, none⟩ = some (.int .i64 0) := (blk_cell BK256.out 0).trans rfl; have hcz190_1 : w183.cell? ⟨gb256, 1, none⟩ = some (.int .i64 0) := (blk_cell BK256.out 1).trans rfl; have hcz190_2 : w183.cell? ⟨gb256, 2, none⟩ = some (.string (⟨#[]⟩ : ByteArray)) := (blk_cell BK256.out 2).trans rfl; have hfz190_0 := blk_frozen BK256.out 0; have hfz190_1 := blk_frozen BK256.out 1; have hfz190_2 := blk_frozen BK256.out 2; have hnb191 := NB229_240.out; have hnc191 := NB240_229.out; have hnb192 := NB229_245.out; have hnc192 := NB245_229.out; have hnb193 := NB229_250.out; have hnc193 := NB250_229.out; have hcz194_0 : w183.cell? ⟨gb229, 0, none⟩ = some (.int .i64 a0_0) := (blk_cell BK229.out 0).trans rfl; have hcz194_1 : w183.cell? ⟨gb229, 1, none⟩ = some (.int .i64 a0_1) := (blk_cell BK229.out 1).trans rfl; have hcz194_2 : w183.cell? ⟨gb229, 2, none⟩ = some (.string a0_2) := (blk_cell BK229.out 2).trans rfl; have hfz194_0 := blk_frozen BK229.out 0; have hfz194_1 := blk_frozen BK229.out 1; have hfz194_2 := blk_frozen BK229.out 2))
                go_ret
                exact ⟨q3_, q0_⟩

end Go.Proofs.YtmdnnpahmoaicaaDoor.P
