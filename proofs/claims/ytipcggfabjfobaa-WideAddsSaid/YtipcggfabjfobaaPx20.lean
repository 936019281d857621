-- Written by our own program (wip/xprint) over the seat's translation. Lean checks it.
import Derived.Test.YtipcggfabjfobaaPx0
import Derived.Test.YtipcggfabjfobaaPx1
import Derived.Test.YtipcggfabjfobaaPx4
import Derived.Test.YtipcggfabjfobaaPx6
import Derived.Test.YtipcggfabjfobaaPx11
import Derived.Test.YtipcggfabjfobaaPx18
import Derived.Test.YtipcggfabjfobaaPx19
namespace Go.Proofs.Ytipcggfabjfobaa.P
open Go.RowKit Go.Proofs.YtipcggfabjfobaaW.PrintWords Go.Proofs.YtipcggfabjfobaaW.PrintLast Go.Proofs.YtipcggfabjfobaaW.PrintMore
attribute [local go_sem] max2_int min2_int max_two min_two max_three min_three max_four min_four   -- for this text's walks alone
set_option linter.unusedVariables false
set_option linter.unusedSimpArgs false

attribute [local go_sem high] eqA26
/-! ### corollarylaw02_WideAdds: function 5 -/
def corollarylaw02_WideAdds.j0 : Nat → Bool → Int → Int → Int → Int → Int → Int → Int → Int → Option (Bool)
  | 0, _, _, _, _, _, _, _, _, _ => none
  | k + 1, x60, x224000, x224001, x228000, x228001, x232000, x232001, x236000, x236001 => if x60 = true then (some false) else (if (x224000 == x228000 && (x224001 == x228001)) = true then (if (x232000 == x236000 && (x232001 == x236001)) = true then ((corollarylaw02_awake.f k).bind fun t236 => (some t236)) else (some false)) else (some false))
def corollarylaw02_WideAdds.f (k : Nat) (a0_0 : Int) (a0_1 : Int) (a1_0 : Int) (a1_1 : Int) : Option (Bool) := (wide_Add.f a0_0 a0_1 a1_0 a1_1).bind fun bt220 => ((corollaryref02_Add.f k a0_0 a0_1 a1_0 a1_1).bind fun bt224 => ((wide_Neg.f a0_0 a0_1).bind fun bt228 => ((corollaryref02_Neg.f k a0_0 a0_1).bind fun bt232 => (if bt224.2.2 = true then (if bt220.2.2 = 0 then (if bt232.2.2 = true then (if bt228.2.2 = 0 then (corollarylaw02_WideAdds.j0 k false bt220.1 bt220.2.1 bt224.1 bt224.2.1 bt228.1 bt228.2.1 bt232.1 bt232.2.1) else (corollarylaw02_WideAdds.j0 k true bt220.1 bt220.2.1 bt224.1 bt224.2.1 bt228.1 bt228.2.1 bt232.1 bt232.2.1)) else (if bt228.2.2 = 0 then (corollarylaw02_WideAdds.j0 k true bt220.1 bt220.2.1 bt224.1 bt224.2.1 bt228.1 bt228.2.1 bt232.1 bt232.2.1) else (corollarylaw02_WideAdds.j0 k (bt228.2.2 != 14) bt220.1 bt220.2.1 bt224.1 bt224.2.1 bt228.1 bt228.2.1 bt232.1 bt232.2.1))) else (corollarylaw02_WideAdds.j0 k true bt220.1 bt220.2.1 bt224.1 bt224.2.1 bt228.1 bt228.2.1 bt232.1 bt232.2.1)) else (if bt220.2.2 = 0 then (corollarylaw02_WideAdds.j0 k true bt220.1 bt220.2.1 bt224.1 bt224.2.1 bt228.1 bt228.2.1 bt232.1 bt232.2.1) else (if bt232.2.2 = true then (if bt228.2.2 = 0 then (if bt220.2.2 = 14 then (corollarylaw02_WideAdds.j0 k false bt220.1 bt220.2.1 bt224.1 bt224.2.1 bt228.1 bt228.2.1 bt232.1 bt232.2.1) else (corollarylaw02_WideAdds.j0 k true bt220.1 bt220.2.1 bt224.1 bt224.2.1 bt228.1 bt228.2.1 bt232.1 bt232.2.1)) else (corollarylaw02_WideAdds.j0 k true bt220.1 bt220.2.1 bt224.1 bt224.2.1 bt228.1 bt228.2.1 bt232.1 bt232.2.1)) else (if bt228.2.2 = 0 then (corollarylaw02_WideAdds.j0 k true bt220.1 bt220.2.1 bt224.1 bt224.2.1 bt228.1 bt228.2.1 bt232.1 bt232.2.1) else (if bt220.2.2 = 14 then (corollarylaw02_WideAdds.j0 k (bt228.2.2 != 14) bt220.1 bt220.2.1 bt224.1 bt224.2.1 bt228.1 bt228.2.1 bt232.1 bt232.2.1) else (corollarylaw02_WideAdds.j0 k true bt220.1 bt220.2.1 bt224.1 bt224.2.1 bt228.1 bt228.2.1 bt232.1 bt232.2.1)))))))))
theorem corollarylaw02_WideAdds.mono_l : ∀ k, (∀ y0 y1 y2 y3 y4 y5 y6 y7 y8, LeO (corollarylaw02_WideAdds.j0 k y0 y1 y2 y3 y4 y5 y6 y7 y8) (corollarylaw02_WideAdds.j0 (k + 1) y0 y1 y2 y3 y4 y5 y6 y7 y8))
  | 0 => fun _ _ _ _ _ _ _ _ _ r h => by simp [corollarylaw02_WideAdds.j0] at h
  | k + 1 => by
    have ih0 := corollarylaw02_WideAdds.mono_l k
    · intro y0 y1 y2 y3 y4 y5 y6 y7 y8
      unfold corollarylaw02_WideAdds.j0
      repeat' first
      | (with_reducible exact ih0 _ _ _ _ _ _ _ _ _)
      | (with_reducible exact corollarylaw02_awake.mono _)
      | (with_reducible exact corollaryref02_Add.mono _ _ _ _ _)
      | (with_reducible exact corollaryref02_Neg.mono _ _ _)
      | (with_reducible exact LeO.refl _)
      | (with_reducible exact LeO.none _)
      | (with_reducible refine LeO.ite ?_ ?_)
      | (with_reducible refine LeO.bind ?_ (fun _ => ?_))
      | exact ih0 _ _ _ _ _ _ _ _ _
      | exact corollarylaw02_awake.mono _
      | exact corollaryref02_Add.mono _ _ _ _ _
      | exact corollaryref02_Neg.mono _ _ _
      | exact LeO.none _
      | refine LeO.ite ?_ ?_
      | refine LeO.bind ?_ (fun _ => ?_)
theorem corollarylaw02_WideAdds.mono : ∀ a0 a1 a2 a3 k, LeO (corollarylaw02_WideAdds.f k a0 a1 a2 a3) (corollarylaw02_WideAdds.f (k + 1) a0 a1 a2 a3) := by
  intro a0 a1 a2 a3 k
  have ih0 := corollarylaw02_WideAdds.mono_l k
  unfold corollarylaw02_WideAdds.f
  repeat' first
      | (with_reducible exact ih0 _ _ _ _ _ _ _ _ _)
      | (with_reducible exact corollarylaw02_awake.mono _)
      | (with_reducible exact corollaryref02_Add.mono _ _ _ _ _)
      | (with_reducible exact corollaryref02_Neg.mono _ _ _)
      | (with_reducible exact LeO.refl _)
      | (with_reducible exact LeO.none _)
      | (with_reducible refine LeO.ite ?_ ?_)
      | (with_reducible refine LeO.bind ?_ (fun _ => ?_))
      | exact ih0 _ _ _ _ _ _ _ _ _
      | exact corollarylaw02_awake.mono _
      | exact corollaryref02_Add.mono _ _ _ _ _
      | exact corollaryref02_Neg.mono _ _ _
      | exact LeO.none _
      | refine LeO.ite ?_ ?_
      | refine LeO.bind ?_ (fun _ => ?_)
set_option maxHeartbeats 8000000 in
set_option maxRecDepth 100000 in
theorem corollarylaw02_WideAdds.calls (k : Nat) (a0_0 : Int) (a0_1 : Int) (a1_0 : Int) (a1_1 : Int) (r : Bool) (w : World) (h : corollarylaw02_WideAdds.f k a0_0 a0_1 a1_0 a1_1 = some r) :
    Calls Try.prog 5 #[.agg #[.int .i64 a0_0, .int .u64 a0_1], .agg #[.int .i64 a1_0, .int .u64 a1_1]] w fun e w' => e = .returned (.bool r) ∧ Below w.heap.size w w' := by
  have hu26 := Try.underlying26
  have HB := Aside0.mk (Below.refl w.heap.size w)
  have H : ((wide_Add.f a0_0 a0_1 a1_0 a1_1).bind fun bt220 => ((corollaryref02_Add.f k a0_0 a0_1 a1_0 a1_1).bind fun bt224 => ((wide_Neg.f a0_0 a0_1).bind fun bt228 => ((corollaryref02_Neg.f k a0_0 a0_1).bind fun bt232 => (if bt224.2.2 = true then (if bt220.2.2 = 0 then (if bt232.2.2 = true then (if bt228.2.2 = 0 then (corollarylaw02_WideAdds.j0 k false bt220.1 bt220.2.1 bt224.1 bt224.2.1 bt228.1 bt228.2.1 bt232.1 bt232.2.1) else (corollarylaw02_WideAdds.j0 k true bt220.1 bt220.2.1 bt224.1 bt224.2.1 bt228.1 bt228.2.1 bt232.1 bt232.2.1)) else (if bt228.2.2 = 0 then (corollarylaw02_WideAdds.j0 k true bt220.1 bt220.2.1 bt224.1 bt224.2.1 bt228.1 bt228.2.1 bt232.1 bt232.2.1) else (corollarylaw02_WideAdds.j0 k (bt228.2.2 != 14) bt220.1 bt220.2.1 bt224.1 bt224.2.1 bt228.1 bt228.2.1 bt232.1 bt232.2.1))) else (corollarylaw02_WideAdds.j0 k true bt220.1 bt220.2.1 bt224.1 bt224.2.1 bt228.1 bt228.2.1 bt232.1 bt232.2.1)) else (if bt220.2.2 = 0 then (corollarylaw02_WideAdds.j0 k true bt220.1 bt220.2.1 bt224.1 bt224.2.1 bt228.1 bt228.2.1 bt232.1 bt232.2.1) else (if bt232.2.2 = true then (if bt228.2.2 = 0 then (if bt220.2.2 = 14 then (corollarylaw02_WideAdds.j0 k false bt220.1 bt220.2.1 bt224.1 bt224.2.1 bt228.1 bt228.2.1 bt232.1 bt232.2.1) else (corollarylaw02_WideAdds.j0 k true bt220.1 bt220.2.1 bt224.1 bt224.2.1 bt228.1 bt228.2.1 bt232.1 bt232.2.1)) else (corollarylaw02_WideAdds.j0 k true bt220.1 bt220.2.1 bt224.1 bt224.2.1 bt228.1 bt228.2.1 bt232.1 bt232.2.1)) else (if bt228.2.2 = 0 then (corollarylaw02_WideAdds.j0 k true bt220.1 bt220.2.1 bt224.1 bt224.2.1 bt228.1 bt228.2.1 bt232.1 bt232.2.1) else (if bt220.2.2 = 14 then (corollarylaw02_WideAdds.j0 k (bt228.2.2 != 14) bt220.1 bt220.2.1 bt224.1 bt224.2.1 bt228.1 bt228.2.1 bt232.1 bt232.2.1) else (corollarylaw02_WideAdds.j0 k true bt220.1 bt220.2.1 bt224.1 bt224.2.1 bt228.1 bt228.2.1 bt232.1 bt232.2.1)))))))))) = some r := h
  clear h
  replace H := Option.bind_eq_some_iff.mp H
  obtain ⟨⟨t220, t221, t222⟩, A30, H⟩ := H
  replace H : ((corollaryref02_Add.f k a0_0 a0_1 a1_0 a1_1).bind fun bt224 => ((wide_Neg.f a0_0 a0_1).bind fun bt228 => ((corollaryref02_Neg.f k a0_0 a0_1).bind fun bt232 => (if bt224.2.2 = true then (if t222 = 0 then (if bt232.2.2 = true then (if bt228.2.2 = 0 then (corollarylaw02_WideAdds.j0 k false t220 t221 bt224.1 bt224.2.1 bt228.1 bt228.2.1 bt232.1 bt232.2.1) else (corollarylaw02_WideAdds.j0 k true t220 t221 bt224.1 bt224.2.1 bt228.1 bt228.2.1 bt232.1 bt232.2.1)) else (if bt228.2.2 = 0 then (corollarylaw02_WideAdds.j0 k true t220 t221 bt224.1 bt224.2.1 bt228.1 bt228.2.1 bt232.1 bt232.2.1) else (corollarylaw02_WideAdds.j0 k (bt228.2.2 != 14) t220 t221 bt224.1 bt224.2.1 bt228.1 bt228.2.1 bt232.1 bt232.2.1))) else (corollarylaw02_WideAdds.j0 k true t220 t221 bt224.1 bt224.2.1 bt228.1 bt228.2.1 bt232.1 bt232.2.1)) else (if t222 = 0 then (corollarylaw02_WideAdds.j0 k true t220 t221 bt224.1 bt224.2.1 bt228.1 bt228.2.1 bt232.1 bt232.2.1) else (if bt232.2.2 = true then (if bt228.2.2 = 0 then (if t222 = 14 then (corollarylaw02_WideAdds.j0 k false t220 t221 bt224.1 bt224.2.1 bt228.1 bt228.2.1 bt232.1 bt232.2.1) else (corollarylaw02_WideAdds.j0 k true t220 t221 bt224.1 bt224.2.1 bt228.1 bt228.2.1 bt232.1 bt232.2.1)) else (corollarylaw02_WideAdds.j0 k true t220 t221 bt224.1 bt224.2.1 bt228.1 bt228.2.1 bt232.1 bt232.2.1)) else (if bt228.2.2 = 0 then (corollarylaw02_WideAdds.j0 k true t220 t221 bt224.1 bt224.2.1 bt228.1 bt228.2.1 bt232.1 bt232.2.1) else (if t222 = 14 then (corollarylaw02_WideAdds.j0 k (bt228.2.2 != 14) t220 t221 bt224.1 bt224.2.1 bt228.1 bt228.2.1 bt232.1 bt232.2.1) else (corollarylaw02_WideAdds.j0 k true t220 t221 bt224.1 bt224.2.1 bt228.1 bt228.2.1 bt232.1 bt232.2.1))))))))) = some r := H
  have A3 := Aside0.mk A30
  clear A30
  replace H := Option.bind_eq_some_iff.mp H
  obtain ⟨⟨t224, t225, t226⟩, A40, H⟩ := H
  replace H : ((wide_Neg.f a0_0 a0_1).bind fun bt228 => ((corollaryref02_Neg.f k a0_0 a0_1).bind fun bt232 => (if t226 = true then (if t222 = 0 then (if bt232.2.2 = true then (if bt228.2.2 = 0 then (corollarylaw02_WideAdds.j0 k false t220 t221 t224 t225 bt228.1 bt228.2.1 bt232.1 bt232.2.1) else (corollarylaw02_WideAdds.j0 k true t220 t221 t224 t225 bt228.1 bt228.2.1 bt232.1 bt232.2.1)) else (if bt228.2.2 = 0 then (corollarylaw02_WideAdds.j0 k true t220 t221 t224 t225 bt228.1 bt228.2.1 bt232.1 bt232.2.1) else (corollarylaw02_WideAdds.j0 k (bt228.2.2 != 14) t220 t221 t224 t225 bt228.1 bt228.2.1 bt232.1 bt232.2.1))) else (corollarylaw02_WideAdds.j0 k true t220 t221 t224 t225 bt228.1 bt228.2.1 bt232.1 bt232.2.1)) else (if t222 = 0 then (corollarylaw02_WideAdds.j0 k true t220 t221 t224 t225 bt228.1 bt228.2.1 bt232.1 bt232.2.1) else (if bt232.2.2 = true then (if bt228.2.2 = 0 then (if t222 = 14 then (corollarylaw02_WideAdds.j0 k false t220 t221 t224 t225 bt228.1 bt228.2.1 bt232.1 bt232.2.1) else (corollarylaw02_WideAdds.j0 k true t220 t221 t224 t225 bt228.1 bt228.2.1 bt232.1 bt232.2.1)) else (corollarylaw02_WideAdds.j0 k true t220 t221 t224 t225 bt228.1 bt228.2.1 bt232.1 bt232.2.1)) else (if bt228.2.2 = 0 then (corollarylaw02_WideAdds.j0 k true t220 t221 t224 t225 bt228.1 bt228.2.1 bt232.1 bt232.2.1) else (if t222 = 14 then (corollarylaw02_WideAdds.j0 k (bt228.2.2 != 14) t220 t221 t224 t225 bt228.1 bt228.2.1 bt232.1 bt232.2.1) else (corollarylaw02_WideAdds.j0 k true t220 t221 t224 t225 bt228.1 bt228.2.1 bt232.1 bt232.2.1)))))))) = some r := H
  have A4 := Aside0.mk A40
  clear A40
  replace H := Option.bind_eq_some_iff.mp H
  obtain ⟨⟨t228, t229, t230⟩, A50, H⟩ := H
  replace H : ((corollaryref02_Neg.f k a0_0 a0_1).bind fun bt232 => (if t226 = true then (if t222 = 0 then (if bt232.2.2 = true then (if t230 = 0 then (corollarylaw02_WideAdds.j0 k false t220 t221 t224 t225 t228 t229 bt232.1 bt232.2.1) else (corollarylaw02_WideAdds.j0 k true t220 t221 t224 t225 t228 t229 bt232.1 bt232.2.1)) else (if t230 = 0 then (corollarylaw02_WideAdds.j0 k true t220 t221 t224 t225 t228 t229 bt232.1 bt232.2.1) else (corollarylaw02_WideAdds.j0 k (t230 != 14) t220 t221 t224 t225 t228 t229 bt232.1 bt232.2.1))) else (corollarylaw02_WideAdds.j0 k true t220 t221 t224 t225 t228 t229 bt232.1 bt232.2.1)) else (if t222 = 0 then (corollarylaw02_WideAdds.j0 k true t220 t221 t224 t225 t228 t229 bt232.1 bt232.2.1) else (if bt232.2.2 = true then (if t230 = 0 then (if t222 = 14 then (corollarylaw02_WideAdds.j0 k false t220 t221 t224 t225 t228 t229 bt232.1 bt232.2.1) else (corollarylaw02_WideAdds.j0 k true t220 t221 t224 t225 t228 t229 bt232.1 bt232.2.1)) else (corollarylaw02_WideAdds.j0 k true t220 t221 t224 t225 t228 t229 bt232.1 bt232.2.1)) else (if t230 = 0 then (corollarylaw02_WideAdds.j0 k true t220 t221 t224 t225 t228 t229 bt232.1 bt232.2.1) else (if t222 = 14 then (corollarylaw02_WideAdds.j0 k (t230 != 14) t220 t221 t224 t225 t228 t229 bt232.1 bt232.2.1) else (corollarylaw02_WideAdds.j0 k true t220 t221 t224 t225 t228 t229 bt232.1 bt232.2.1))))))) = some r := H
  have A5 := Aside0.mk A50
  clear A50
  replace H := Option.bind_eq_some_iff.mp H
  obtain ⟨⟨t232, t233, t234⟩, A60, H⟩ := H
  replace H : (if t226 = true then (if t222 = 0 then (if t234 = true then (if t230 = 0 then (corollarylaw02_WideAdds.j0 k false t220 t221 t224 t225 t228 t229 t232 t233) else (corollarylaw02_WideAdds.j0 k true t220 t221 t224 t225 t228 t229 t232 t233)) else (if t230 = 0 then (corollarylaw02_WideAdds.j0 k true t220 t221 t224 t225 t228 t229 t232 t233) else (corollarylaw02_WideAdds.j0 k (t230 != 14) t220 t221 t224 t225 t228 t229 t232 t233))) else (corollarylaw02_WideAdds.j0 k true t220 t221 t224 t225 t228 t229 t232 t233)) else (if t222 = 0 then (corollarylaw02_WideAdds.j0 k true t220 t221 t224 t225 t228 t229 t232 t233) else (if t234 = true then (if t230 = 0 then (if t222 = 14 then (corollarylaw02_WideAdds.j0 k false t220 t221 t224 t225 t228 t229 t232 t233) else (corollarylaw02_WideAdds.j0 k true t220 t221 t224 t225 t228 t229 t232 t233)) else (corollarylaw02_WideAdds.j0 k true t220 t221 t224 t225 t228 t229 t232 t233)) else (if t230 = 0 then (corollarylaw02_WideAdds.j0 k true t220 t221 t224 t225 t228 t229 t232 t233) else (if t222 = 14 then (corollarylaw02_WideAdds.j0 k (t230 != 14) t220 t221 t224 t225 t228 t229 t232 t233) else (corollarylaw02_WideAdds.j0 k true t220 t221 t224 t225 t228 t229 t232 t233)))))) = some r := H
  have A6 := Aside0.mk A60
  clear A60
  have HC7 := Aside0.mk H
  clear H
  go_enter Try.func5, Try.ntmps5
  go_upto_region 5 with (first | ((with_reducible refine gate_dst (N := 2) rfl ?_); refine box_event ?hg (N := 2) ?hd (cs := #[.int .i64 a0_0, .int .u64 a0_1]) (t := 26) ?hr ?_; (case hd => rfl); (case hg => rfl); (case hr => first | (go_simp; done) | (go_simp; rfl)); intro gb218 hg w8 hbox hb; have n0_ := Aside0.mk (below_step (by repeat (first | (with_reducible first | exact HB.out | apply below_alloc | apply pw_below_drewN | apply below_drew1) | exact HB.out)) hb); have n1_ := Aside0.mk (hbox); have n2_ := Aside0.mk ((by rw [hg]; exact (below_size (by repeat (first | (with_reducible first | exact HB.out | apply below_alloc | apply pw_below_drewN | apply below_drew1) | exact HB.out))) : w.heap.size ≤ gb218)); have n3_ := Aside0.mk ((by rw [hg]; exact (below_size (by repeat (first | (with_reducible first | exact HB.out | apply below_alloc | apply pw_below_drewN | apply below_drew1) | exact HB.out))) : w.heap.size ≤ gb218)); clear HB; have HB := n0_; have BK218 := n1_; have GW218 := n2_; have GE218 := n3_; clear n0_ n1_ n2_ n3_; clear hb hbox hg) | ((with_reducible refine gate_dst (N := 3) rfl ?_); refine box_event ?hg (N := 3) ?hd (cs := #[.int .i64 a1_0, .int .u64 a1_1]) (t := 26) ?hr ?_; (case hd => rfl); (case hg => rfl); (case hr => first | (go_simp; done) | (go_simp; rfl)); intro gb219 hg w9 hbox hb; have n0_ := Aside0.mk (blk_below (g := gb218) (o := .cells #[.int .i64 a0_0, .int .u64 a0_1] 26 (0, 0)) (by (with_reducible repeat first | apply bN_ | apply bD_ | apply bA_); exact BK218.out) hb); have n1_ := Aside0.mk (below_step (by repeat (first | (with_reducible first | exact HB.out | apply below_alloc | apply pw_below_drewN | apply below_drew1 | refine below_set ?_ GE218.out) | exact HB.out)) hb); have n2_ := Aside0.mk (hbox); have n3_ := Aside0.mk ((by rw [hg]; exact (below_size (by repeat (first | (with_reducible first | exact HB.out | apply below_alloc | apply pw_below_drewN | apply below_drew1 | refine below_set ?_ GE218.out) | exact HB.out))) : w.heap.size ≤ gb219)); have n4_ := Aside0.mk ((by rw [hg]; exact (below_size (by repeat (first | (with_reducible first | exact HB.out | apply below_alloc | apply pw_below_drewN | apply below_drew1 | refine below_set ?_ GE218.out) | exact HB.out))) : w.heap.size ≤ gb219)); have n5_ := Aside0.mk ((by rw [hg]; exact Nat.ne_of_lt (blk_lt (g := gb218) (o := .cells #[.int .i64 a0_0, .int .u64 a0_1] 26 (0, 0)) (by (with_reducible repeat first | apply bN_ | apply bD_ | apply bA_); exact BK218.out)) : gb218 ≠ gb219)); have n6_ := Aside0.mk ((by rw [hg]; exact Nat.ne_of_gt (blk_lt (g := gb218) (o := .cells #[.int .i64 a0_0, .int .u64 a0_1] 26 (0, 0)) (by (with_reducible repeat first | apply bN_ | apply bD_ | apply bA_); exact BK218.out)) : gb219 ≠ gb218)); clear BK218; clear HB; have BK218 := n0_; have HB := n1_; have BK219 := n2_; have GW219 := n3_; have GE219 := n4_; have NB218_219 := n5_; have NB219_218 := n6_; clear n0_ n1_ n2_ n3_ n4_ n5_ n6_; clear hb hbox hg; have hnb10 := NB218_219.out; have hnc10 := NB219_218.out; have hcz11_0 : w9.cell? ⟨gb218, 0, none⟩ = some (.int .i64 a0_0) := (blk_cell BK218.out 0).trans rfl; have hcz11_1 : w9.cell? ⟨gb218, 1, none⟩ = some (.int .u64 a0_1) := (blk_cell BK218.out 1).trans rfl; have hfz11_0 := blk_frozen BK218.out 0; have hfz11_1 := blk_frozen BK218.out 1; have hcz12_0 : w9.cell? ⟨gb219, 0, none⟩ = some (.int .i64 a1_0) := (blk_cell BK219.out 0).trans rfl; have hcz12_1 : w9.cell? ⟨gb219, 1, none⟩ = some (.int .u64 a1_1) := (blk_cell BK219.out 1).trans rfl; have hfz12_0 := blk_frozen BK219.out 0; have hfz12_1 := blk_frozen BK219.out 1) | ((with_reducible refine gate_callee (f := 17) rfl ?_); refine goesL_ (some 16) rfl rfl Try.func17 (by kernel_rfl) rfl #[.agg #[.int .i64 a0_0, .int .u64 a0_1], .agg #[.int .i64 a1_0, .int .u64 a1_1]] rfl (by (try simp only [List.map_toArray, List.map_cons, List.map_nil]); first | done | rfl | (simp only [List.length_drop, List.length_take]; rfl)) ?_; (with_reducible refine (wide_Add.calls a0_0 a0_1 a1_0 a1_1 t220 t221 t222 _ A3.out).mono ?_); rintro e w13 ⟨rfl, hb⟩; refine ⟨_, rfl, ?_⟩; have n0_ := Aside0.mk (blk_below (g := gb218) (o := .cells #[.int .i64 a0_0, .int .u64 a0_1] 26 (0, 0)) (by (with_reducible repeat first | apply bN_ | apply bD_ | apply bA_); exact BK218.out) hb); have n1_ := Aside0.mk (blk_below (g := gb219) (o := .cells #[.int .i64 a1_0, .int .u64 a1_1] 26 (0, 0)) (by (with_reducible repeat first | apply bN_ | apply bD_ | apply bA_); exact BK219.out) hb); have n2_ := Aside0.mk (below_step (by repeat (first | (with_reducible first | exact HB.out | apply below_alloc | apply pw_below_drewN | apply below_drew1 | refine below_set ?_ GE218.out | refine below_set ?_ GE219.out) | exact HB.out)) hb); clear BK218; clear BK219; clear HB; have BK218 := n0_; have BK219 := n1_; have HB := n2_; clear n0_ n1_ n2_; (try clear hb); (try clear hb2); (try clear hk); (try clear hi)) | ((with_reducible refine gate_dst (N := 5) rfl ?_); refine box_event ?hg (N := 5) ?hd (cs := #[.int .i64 0, .int .u64 0]) (t := 26) ?hr ?_; (case hd => rfl); (case hg => rfl); (case hr => first | (go_simp; done) | (go_simp; rfl)); intro gb223 hg w14 hbox hb; have n0_ := Aside0.mk (blk_below (g := gb218) (o := .cells #[.int .i64 a0_0, .int .u64 a0_1] 26 (0, 0)) (by (with_reducible repeat first | apply bN_ | apply bD_ | apply bA_); exact BK218.out) hb); have n1_ := Aside0.mk (blk_below (g := gb219) (o := .cells #[.int .i64 a1_0, .int .u64 a1_1] 26 (0, 0)) (by (with_reducible repeat first | apply bN_ | apply bD_ | apply bA_); exact BK219.out) hb); have n2_ := Aside0.mk (below_step (by repeat (first | (with_reducible first | exact HB.out | apply below_alloc | apply pw_below_drewN | apply below_drew1 | refine below_set ?_ GE218.out | refine below_set ?_ GE219.out) | exact HB.out)) hb); have n3_ := Aside0.mk (hbox); have n4_ := Aside0.mk ((by rw [hg]; exact (below_size (by repeat (first | (with_reducible first | exact HB.out | apply below_alloc | apply pw_below_drewN | apply below_drew1 | refine below_set ?_ GE218.out | refine below_set ?_ GE219.out) | exact HB.out))) : w.heap.size ≤ gb223)); have n5_ := Aside0.mk ((by rw [hg]; exact (below_size (by repeat (first | (with_reducible first | exact HB.out | apply below_alloc | apply pw_below_drewN | apply below_drew1 | refine below_set ?_ GE218.out | refine below_set ?_ GE219.out) | exact HB.out))) : w.heap.size ≤ gb223)); have n6_ := Aside0.mk ((by rw [hg]; exact Nat.ne_of_lt (blk_lt (g := gb218) (o := .cells #[.int .i64 a0_0, .int .u64 a0_1] 26 (0, 0)) (by (with_reducible repeat first | apply bN_ | apply bD_ | apply bA_); exact BK218.out)) : gb218 ≠ gb223)); have n7_ := Aside0.mk ((by rw [hg]; exact Nat.ne_of_gt (blk_lt (g := gb218) (o := .cells #[.int .i64 a0_0, .int .u64 a0_1] 26 (0, 0)) (by (with_reducible repeat first | apply bN_ | apply bD_ | apply bA_); exact BK218.out)) : gb223 ≠ gb218)); have n8_ := Aside0.mk ((by rw [hg]; exact Nat.ne_of_lt (blk_lt (g := gb219) (o := .cells #[.int .i64 a1_0, .int .u64 a1_1] 26 (0, 0)) (by (with_reducible repeat first | apply bN_ | apply bD_ | apply bA_); exact BK219.out)) : gb219 ≠ gb223)); have n9_ := Aside0.mk ((by rw [hg]; exact Nat.ne_of_gt (blk_lt (g := gb219) (o := .cells #[.int .i64 a1_0, .int .u64 a1_1] 26 (0, 0)) (by (with_reducible repeat first | apply bN_ | apply bD_ | apply bA_); exact BK219.out)) : gb223 ≠ gb219)); clear BK218; clear BK219; clear HB; have BK218 := n0_; have BK219 := n1_; have HB := n2_; have BK223 := n3_; have GW223 := n4_; have GE223 := n5_; have NB218_223 := n6_; have NB223_218 := n7_; have NB219_223 := n8_; have NB223_219 := n9_; clear n0_ n1_ n2_ n3_ n4_ n5_ n6_ n7_ n8_ n9_; clear hb hbox hg; have hnb15 := NB223_218.out; have hnc15 := NB218_223.out; have hnb16 := NB223_219.out; have hnc16 := NB219_223.out; have hcz17_0 : w14.cell? ⟨gb223, 0, none⟩ = some (.int .i64 0) := (blk_cell BK223.out 0).trans rfl; have hcz17_1 : w14.cell? ⟨gb223, 1, none⟩ = some (.int .u64 0) := (blk_cell BK223.out 1).trans rfl; have hfz17_0 := blk_frozen BK223.out 0; have hfz17_1 := blk_frozen BK223.out 1; have hcz18_0 : w14.cell? ⟨gb218, 0, none⟩ = some (.int .i64 a0_0) := (blk_cell BK218.out 0).trans rfl; have hcz18_1 : w14.cell? ⟨gb218, 1, none⟩ = some (.int .u64 a0_1) := (blk_cell BK218.out 1).trans rfl; have hfz18_0 := blk_frozen BK218.out 0; have hfz18_1 := blk_frozen BK218.out 1; have hcz19_0 : w14.cell? ⟨gb219, 0, none⟩ = some (.int .i64 a1_0) := (blk_cell BK219.out 0).trans rfl; have hcz19_1 : w14.cell? ⟨gb219, 1, none⟩ = some (.int .u64 a1_1) := (blk_cell BK219.out 1).trans rfl; have hfz19_0 := blk_frozen BK219.out 0; have hfz19_1 := blk_frozen BK219.out 1) | ((with_reducible refine gate_callee (f := 11) rfl ?_); refine goesL_ (some 22) rfl rfl Try.func11 (by kernel_rfl) rfl #[.agg #[.int .i64 a0_0, .int .u64 a0_1], .agg #[.int .i64 a1_0, .int .u64 a1_1]] rfl (by (try simp only [List.map_toArray, List.map_cons, List.map_nil]); first | done | rfl | (simp only [List.length_drop, List.length_take]; rfl)) ?_; (with_reducible refine (corollaryref02_Add.calls k a0_0 a0_1 a1_0 a1_1 t224 t225 t226 _ A4.out).mono ?_); rintro e w20 ⟨rfl, hb⟩; refine ⟨_, rfl, ?_⟩; have n0_ := Aside0.mk (blk_below (g := gb218) (o := .cells #[.int .i64 a0_0, .int .u64 a0_1] 26 (0, 0)) (by (with_reducible repeat first | apply bN_ | apply bD_ | apply bA_); refine blk_far ?_ NB218_223.out _; (with_reducible repeat first | apply bN_ | apply bD_ | apply bA_); refine blk_far ?_ NB218_223.out _; (with_reducible repeat first | apply bN_ | apply bD_ | apply bA_); exact BK218.out) hb); have n1_ := Aside0.mk (blk_below (g := gb219) (o := .cells #[.int .i64 a1_0, .int .u64 a1_1] 26 (0, 0)) (by (with_reducible repeat first | apply bN_ | apply bD_ | apply bA_); refine blk_far ?_ NB219_223.out _; (with_reducible repeat first | apply bN_ | apply bD_ | apply bA_); refine blk_far ?_ NB219_223.out _; (with_reducible repeat first | apply bN_ | apply bD_ | apply bA_); exact BK219.out) hb); have n2_ := Aside0.mk (blk_below (g := gb223) (o := .cells #[.int .i64 t220, .int .u64 t221] 26 (0, 0)) (by (with_reducible repeat first | apply bN_ | apply bD_ | apply bA_); refine blk_put (cs := #[.int .i64 t220, .int .u64 0]) ?_ 1 _ rfl; (with_reducible repeat first | apply bN_ | apply bD_ | apply bA_); refine blk_put (cs := #[.int .i64 0, .int .u64 0]) ?_ 0 _ rfl; (with_reducible repeat first | apply bN_ | apply bD_ | apply bA_); exact BK223.out) hb); have n3_ := Aside0.mk (below_step (by repeat (first | (with_reducible first | exact HB.out | apply below_alloc | apply pw_below_drewN | apply below_drew1 | refine below_set ?_ GE218.out | refine below_set ?_ GE219.out | refine below_set ?_ GE223.out) | exact HB.out)) hb); clear BK218; clear BK219; clear BK223; clear HB; have BK218 := n0_; have BK219 := n1_; have BK223 := n2_; have HB := n3_; clear n0_ n1_ n2_ n3_; (try clear hb); (try clear hb2); (try clear hk); (try clear hi)) | ((with_reducible refine gate_dst (N := 7) rfl ?_); refine box_event ?hg (N := 7) ?hd (cs := #[.int .i64 0, .int .u64 0]) (t := 26) ?hr ?_; (case hd => rfl); (case hg => rfl); (case hr => first | (go_simp; done) | (go_simp; rfl)); intro gb227 hg w21 hbox hb; have n0_ := Aside0.mk (blk_below (g := gb218) (o := .cells #[.int .i64 a0_0, .int .u64 a0_1] 26 (0, 0)) (by (with_reducible repeat first | apply bN_ | apply bD_ | apply bA_); exact BK218.out) hb); have n1_ := Aside0.mk (blk_below (g := gb219) (o := .cells #[.int .i64 a1_0, .int .u64 a1_1] 26 (0, 0)) (by (with_reducible repeat first | apply bN_ | apply bD_ | apply bA_); exact BK219.out) hb); have n2_ := Aside0.mk (blk_below (g := gb223) (o := .cells #[.int .i64 t220, .int .u64 t221] 26 (0, 0)) (by (with_reducible repeat first | apply bN_ | apply bD_ | apply bA_); exact BK223.out) hb); have n3_ := Aside0.mk (below_step (by repeat (first | (with_reducible first | exact HB.out | apply below_alloc | apply pw_below_drewN | apply below_drew1 | refine below_set ?_ GE218.out | refine below_set ?_ GE219.out | refine below_set ?_ GE223.out) | exact HB.out)) hb); have n4_ := Aside0.mk (hbox); have n5_ := Aside0.mk ((by rw [hg]; exact (below_size (by repeat (first | (with_reducible first | exact HB.out | apply below_alloc | apply pw_below_drewN | apply below_drew1 | refine below_set ?_ GE218.out | refine below_set ?_ GE219.out | refine below_set ?_ GE223.out) | exact HB.out))) : w.heap.size ≤ gb227)); have n6_ := Aside0.mk ((by rw [hg]; exact (below_size (by repeat (first | (with_reducible first | exact HB.out | apply below_alloc | apply pw_below_drewN | apply below_drew1 | refine below_set ?_ GE218.out | refine below_set ?_ GE219.out | refine below_set ?_ GE223.out) | exact HB.out))) : w.heap.size ≤ gb227)); have n7_ := Aside0.mk ((by rw [hg]; exact Nat.ne_of_lt (blk_lt (g := gb218) (o := .cells #[.int .i64 a0_0, .int .u64 a0_1] 26 (0, 0)) (by (with_reducible repeat first | apply bN_ | apply bD_ | apply bA_); exact BK218.out)) : gb218 ≠ gb227)); have n8_ := Aside0.mk ((by rw [hg]; exact Nat.ne_of_gt (blk_lt (g := gb218) (o := .cells #[.int .i64 a0_0, .int .u64 a0_1] 26 (0, 0)) (by (with_reducible repeat first | apply bN_ | apply bD_ | apply bA_); exact BK218.out)) : gb227 ≠ gb218)); have n9_ := Aside0.mk ((by rw [hg]; exact Nat.ne_of_lt (blk_lt (g := gb219) (o := .cells #[.int .i64 a1_0, .int .u64 a1_1] 26 (0, 0)) (by (with_reducible repeat first | apply bN_ | apply bD_ | apply bA_); exact BK219.out)) : gb219 ≠ gb227)); have n10_ := Aside0.mk ((by rw [hg]; exact Nat.ne_of_gt (blk_lt (g := gb219) (o := .cells #[.int .i64 a1_0, .int .u64 a1_1] 26 (0, 0)) (by (with_reducible repeat first | apply bN_ | apply bD_ | apply bA_); exact BK219.out)) : gb227 ≠ gb219)); have n11_ := Aside0.mk ((by rw [hg]; exact Nat.ne_of_lt (blk_lt (g := gb223) (o := .cells #[.int .i64 t220, .int .u64 t221] 26 (0, 0)) (by (with_reducible repeat first | apply bN_ | apply bD_ | apply bA_); exact BK223.out)) : gb223 ≠ gb227)); have n12_ := Aside0.mk ((by rw [hg]; exact Nat.ne_of_gt (blk_lt (g := gb223) (o := .cells #[.int .i64 t220, .int .u64 t221] 26 (0, 0)) (by (with_reducible repeat first | apply bN_ | apply bD_ | apply bA_); exact BK223.out)) : gb227 ≠ gb223)); clear BK218; clear BK219; clear BK223; clear HB; have BK218 := n0_; have BK219 := n1_; have BK223 := n2_; have HB := n3_; have BK227 := n4_; have GW227 := n5_; have GE227 := n6_; have NB218_227 := n7_; have NB227_218 := n8_; have NB219_227 := n9_; have NB227_219 := n10_; have NB223_227 := n11_; have NB227_223 := n12_; clear n0_ n1_ n2_ n3_ n4_ n5_ n6_ n7_ n8_ n9_ n10_ n11_ n12_; clear hb hbox hg; have hnb22 := NB227_218.out; have hnc22 := NB218_227.out; have hnb23 := NB227_219.out; have hnc23 := NB219_227.out; have hnb24 := NB227_223.out; have hnc24 := NB223_227.out; have hcz25_0 : w21.cell? ⟨gb227, 0, none⟩ = some (.int .i64 0) := (blk_cell BK227.out 0).trans rfl; have hcz25_1 : w21.cell? ⟨gb227, 1, none⟩ = some (.int .u64 0) := (blk_cell BK227.out 1).trans rfl; have hfz25_0 := blk_frozen BK227.out 0; have hfz25_1 := blk_frozen BK227.out 1; have hcz26_0 : w21.cell? ⟨gb218, 0, none⟩ = some (.int .i64 a0_0) := (blk_cell BK218.out 0).trans rfl; have hcz26_1 : w21.cell? ⟨gb218, 1, none⟩ = some (.int .u64 a0_1) := (blk_cell BK218.out 1).trans rfl; have hfz26_0 := blk_frozen BK218.out 0; have hfz26_1 := blk_frozen BK218.out 1) | ((with_reducible refine gate_callee (f := 18) rfl ?_); refine goesL_ (some 27) rfl rfl Try.func18 (by kernel_rfl) rfl #[.agg #[.int .i64 a0_0, .int .u64 a0_1]] rfl (by (try simp only [List.map_toArray, List.map_cons, List.map_nil]); first | done | rfl | (simp only [List.length_drop, List.length_take]; rfl)) ?_; (with_reducible refine (wide_Neg.calls a0_0 a0_1 t228 t229 t230 _ A5.out).mono ?_); rintro e w27 ⟨rfl, hb⟩; refine ⟨_, rfl, ?_⟩; have n0_ := Aside0.mk (blk_below (g := gb218) (o := .cells #[.int .i64 a0_0, .int .u64 a0_1] 26 (0, 0)) (by (with_reducible repeat first | apply bN_ | apply bD_ | apply bA_); refine blk_far ?_ NB218_227.out _; (with_reducible repeat first | apply bN_ | apply bD_ | apply bA_); refine blk_far ?_ NB218_227.out _; (with_reducible repeat first | apply bN_ | apply bD_ | apply bA_); exact BK218.out) hb); have n1_ := Aside0.mk (blk_below (g := gb219) (o := .cells #[.int .i64 a1_0, .int .u64 a1_1] 26 (0, 0)) (by (with_reducible repeat first | apply bN_ | apply bD_ | apply bA_); refine blk_far ?_ NB219_227.out _; (with_reducible repeat first | apply bN_ | apply bD_ | apply bA_); refine blk_far ?_ NB219_227.out _; (with_reducible repeat first | apply bN_ | apply bD_ | apply bA_); exact BK219.out) hb); have n2_ := Aside0.mk (blk_below (g := gb223) (o := .cells #[.int .i64 t220, .int .u64 t221] 26 (0, 0)) (by (with_reducible repeat first | apply bN_ | apply bD_ | apply bA_); refine blk_far ?_ NB223_227.out _; (with_reducible repeat first | apply bN_ | apply bD_ | apply bA_); refine blk_far ?_ NB223_227.out _; (with_reducible repeat first | apply bN_ | apply bD_ | apply bA_); exact BK223.out) hb); have n3_ := Aside0.mk (blk_below (g := gb227) (o := .cells #[.int .i64 t224, .int .u64 t225] 26 (0, 0)) (by (with_reducible repeat first | apply bN_ | apply bD_ | apply bA_); refine blk_put (cs := #[.int .i64 t224, .int .u64 0]) ?_ 1 _ rfl; (with_reducible repeat first | apply bN_ | apply bD_ | apply bA_); refine blk_put (cs := #[.int .i64 0, .int .u64 0]) ?_ 0 _ rfl; (with_reducible repeat first | apply bN_ | apply bD_ | apply bA_); exact BK227.out) hb); have n4_ := Aside0.mk (below_step (by repeat (first | (with_reducible first | exact HB.out | apply below_alloc | apply pw_below_drewN | apply below_drew1 | refine below_set ?_ GE218.out | refine below_set ?_ GE219.out | refine below_set ?_ GE223.out | refine below_set ?_ GE227.out) | exact HB.out)) hb); clear BK218; clear BK219; clear BK223; clear BK227; clear HB; have BK218 := n0_; have BK219 := n1_; have BK223 := n2_; have BK227 := n3_; have HB := n4_; clear n0_ n1_ n2_ n3_ n4_; (try clear hb); (try clear hb2); (try clear hk); (try clear hi)) | ((with_reducible refine gate_dst (N := 9) rfl ?_); refine box_event ?hg (N := 9) ?hd (cs := #[.int .i64 0, .int .u64 0]) (t := 26) ?hr ?_; (case hd => rfl); (case hg => rfl); (case hr => first | (go_simp; done) | (go_simp; rfl)); intro gb231 hg w28 hbox hb; have n0_ := Aside0.mk (blk_below (g := gb218) (o := .cells #[.int .i64 a0_0, .int .u64 a0_1] 26 (0, 0)) (by (with_reducible repeat first | apply bN_ | apply bD_ | apply bA_); exact BK218.out) hb); have n1_ := Aside0.mk (blk_below (g := gb219) (o := .cells #[.int .i64 a1_0, .int .u64 a1_1] 26 (0, 0)) (by (with_reducible repeat first | apply bN_ | apply bD_ | apply bA_); exact BK219.out) hb); have n2_ := Aside0.mk (blk_below (g := gb223) (o := .cells #[.int .i64 t220, .int .u64 t221] 26 (0, 0)) (by (with_reducible repeat first | apply bN_ | apply bD_ | apply bA_); exact BK223.out) hb); have n3_ := Aside0.mk (blk_below (g := gb227) (o := .cells #[.int .i64 t224, .int .u64 t225] 26 (0, 0)) (by (with_reducible repeat first | apply bN_ | apply bD_ | apply bA_); exact BK227.out) hb); have n4_ := Aside0.mk (below_step (by repeat (first | (with_reducible first | exact HB.out | apply below_alloc | apply pw_below_drewN | apply below_drew1 | refine below_set ?_ GE218.out | refine below_set ?_ GE219.out | refine below_set ?_ GE223.out | refine below_set ?_ GE227.out) | exact HB.out)) hb); have n5_ := Aside0.mk (hbox); have n6_ := Aside0.mk ((by rw [hg]; exact (below_size (by repeat (first | (with_reducible first | exact HB.out | apply below_alloc | apply pw_below_drewN | apply below_drew1 | refine below_set ?_ GE218.out | refine below_set ?_ GE219.out | refine below_set ?_ GE223.out | refine below_set ?_ GE227.out) | exact HB.out))) : w.heap.size ≤ gb231)); have n7_ := Aside0.mk ((by rw [hg]; exact (below_size (by repeat (first | (with_reducible first | exact HB.out | apply below_alloc | apply pw_below_drewN | apply below_drew1 | refine below_set ?_ GE218.out | refine below_set ?_ GE219.out | refine below_set ?_ GE223.out | refine below_set ?_ GE227.out) | exact HB.out))) : w.heap.size ≤ gb231)); have n8_ := Aside0.mk ((by rw [hg]; exact Nat.ne_of_lt (blk_lt (g := gb218) (o := .cells #[.int .i64 a0_0, .int .u64 a0_1] 26 (0, 0)) (by (with_reducible repeat first | apply bN_ | apply bD_ | apply bA_); exact BK218.out)) : gb218 ≠ gb231)); have n9_ := Aside0.mk ((by rw [hg]; exact Nat.ne_of_gt (blk_lt (g := gb218) (o := .cells #[.int .i64 a0_0, .int .u64 a0_1] 26 (0, 0)) (by (with_reducible repeat first | apply bN_ | apply bD_ | apply bA_); exact BK218.out)) : gb231 ≠ gb218)); have n10_ := Aside0.mk ((by rw [hg]; exact Nat.ne_of_lt (blk_lt (g := gb219) (o := .cells #[.int .i64 a1_0, .int .u64 a1_1] 26 (0, 0)) (by (with_reducible repeat first | apply bN_ | apply bD_ | apply bA_); exact BK219.out)) : gb219 ≠ gb231)); have n11_ := Aside0.mk ((by rw [hg]; exact Nat.ne_of_gt (blk_lt (g := gb219) (o := .cells #[.int .i64 a1_0, .int .u64 a1_1] 26 (0, 0)) (by (with_reducible repeat first | apply bN_ | apply bD_ | apply bA_); exact BK219.out)) : gb231 ≠ gb219)); have n12_ := Aside0.mk ((by rw [hg]; exact Nat.ne_of_lt (blk_lt (g := gb223) (o := .cells #[.int .i64 t220, .int .u64 t221] 26 (0, 0)) (by (with_reducible repeat first | apply bN_ | apply bD_ | apply bA_); exact BK223.out)) : gb223 ≠ gb231)); have n13_ := Aside0.mk ((by rw [hg]; exact Nat.ne_of_gt (blk_lt (g := gb223) (o := .cells #[.int .i64 t220, .int .u64 t221] 26 (0, 0)) (by (with_reducible repeat first | apply bN_ | apply bD_ | apply bA_); exact BK223.out)) : gb231 ≠ gb223)); have n14_ := Aside0.mk ((by rw [hg]; exact Nat.ne_of_lt (blk_lt (g := gb227) (o := .cells #[.int .i64 t224, .int .u64 t225] 26 (0, 0)) (by (with_reducible repeat first | apply bN_ | apply bD_ | apply bA_); exact BK227.out)) : gb227 ≠ gb231)); have n15_ := Aside0.mk ((by rw [hg]; exact Nat.ne_of_gt (blk_lt (g := gb227) (o := .cells #[.int .i64 t224, .int .u64 t225] 26 (0, 0)) (by (with_reducible repeat first | apply bN_ | apply bD_ | apply bA_); exact BK227.out)) : gb231 ≠ gb227)); clear BK218; clear BK219; clear BK223; clear BK227; clear HB; have BK218 := n0_; have BK219 := n1_; have BK223 := n2_; have BK227 := n3_; have HB := n4_; have BK231 := n5_; have GW231 := n6_; have GE231 := n7_; have NB218_231 := n8_; have NB231_218 := n9_; have NB219_231 := n10_; have NB231_219 := n11_; have NB223_231 := n12_; have NB231_223 := n13_; have NB227_231 := n14_; have NB231_227 := n15_; clear n0_ n1_ n2_ n3_ n4_ n5_ n6_ n7_ n8_ n9_ n10_ n11_ n12_ n13_ n14_ n15_; clear hb hbox hg; have hnb29 := NB231_218.out; have hnc29 := NB218_231.out; have hnb30 := NB231_219.out; have hnc30 := NB219_231.out; have hnb31 := NB231_223.out; have hnc31 := NB223_231.out; have hnb32 := NB231_227.out; have hnc32 := NB227_231.out; have hcz33_0 : w28.cell? ⟨gb231, 0, none⟩ = some (.int .i64 0) := (blk_cell BK231.out 0).trans rfl; have hcz33_1 : w28.cell? ⟨gb231, 1, none⟩ = some (.int .u64 0) := (blk_cell BK231.out 1).trans rfl; have hfz33_0 := blk_frozen BK231.out 0; have hfz33_1 := blk_frozen BK231.out 1; have hcz34_0 : w28.cell? ⟨gb218, 0, none⟩ = some (.int .i64 a0_0) := (blk_cell BK218.out 0).trans rfl; have hcz34_1 : w28.cell? ⟨gb218, 1, none⟩ = some (.int .u64 a0_1) := (blk_cell BK218.out 1).trans rfl; have hfz34_0 := blk_frozen BK218.out 0; have hfz34_1 := blk_frozen BK218.out 1) | ((with_reducible refine gate_callee (f := 19) rfl ?_); refine goesL_ (some 32) rfl rfl Try.func19 (by kernel_rfl) rfl #[.agg #[.int .i64 a0_0, .int .u64 a0_1]] rfl (by (try simp only [List.map_toArray, List.map_cons, List.map_nil]); first | done | rfl | (simp only [List.length_drop, List.length_take]; rfl)) ?_; (with_reducible refine (corollaryref02_Neg.calls k a0_0 a0_1 t232 t233 t234 _ A6.out).mono ?_); rintro e w35 ⟨rfl, hb⟩; refine ⟨_, rfl, ?_⟩; have n0_ := Aside0.mk (blk_below (g := gb218) (o := .cells #[.int .i64 a0_0, .int .u64 a0_1] 26 (0, 0)) (by (with_reducible repeat first | apply bN_ | apply bD_ | apply bA_); refine blk_far ?_ NB218_231.out _; (with_reducible repeat first | apply bN_ | apply bD_ | apply bA_); refine blk_far ?_ NB218_231.out _; (with_reducible repeat first | apply bN_ | apply bD_ | apply bA_); exact BK218.out) hb); have n1_ := Aside0.mk (blk_below (g := gb219) (o := .cells #[.int .i64 a1_0, .int .u64 a1_1] 26 (0, 0)) (by (with_reducible repeat first | apply bN_ | apply bD_ | apply bA_); refine blk_far ?_ NB219_231.out _; (with_reducible repeat first | apply bN_ | apply bD_ | apply bA_); refine blk_far ?_ NB219_231.out _; (with_reducible repeat first | apply bN_ | apply bD_ | apply bA_); exact BK219.out) hb); have n2_ := Aside0.mk (blk_below (g := gb223) (o := .cells #[.int .i64 t220, .int .u64 t221] 26 (0, 0)) (by (with_reducible repeat first | apply bN_ | apply bD_ | apply bA_); refine blk_far ?_ NB223_231.out _; (with_reducible repeat first | apply bN_ | apply bD_ | apply bA_); refine blk_far ?_ NB223_231.out _; (with_reducible repeat first | apply bN_ | apply bD_ | apply bA_); exact BK223.out) hb); have n3_ := Aside0.mk (blk_below (g := gb227) (o := .cells #[.int .i64 t224, .int .u64 t225] 26 (0, 0)) (by (with_reducible repeat first | apply bN_ | apply bD_ | apply bA_); refine blk_far ?_ NB227_231.out _; (with_reducible repeat first | apply bN_ | apply bD_ | apply bA_); refine blk_far ?_ NB227_231.out _; (with_reducible repeat first | apply bN_ | apply bD_ | apply bA_); exact BK227.out) hb); have n4_ := Aside0.mk (blk_below (g := gb231) (o := .cells #[.int .i64 t228, .int .u64 t229] 26 (0, 0)) (by (with_reducible repeat first | apply bN_ | apply bD_ | apply bA_); refine blk_put (cs := #[.int .i64 t228, .int .u64 0]) ?_ 1 _ rfl; (with_reducible repeat first | apply bN_ | apply bD_ | apply bA_); refine blk_put (cs := #[.int .i64 0, .int .u64 0]) ?_ 0 _ rfl; (with_reducible repeat first | apply bN_ | apply bD_ | apply bA_); exact BK231.out) hb); have n5_ := Aside0.mk (below_step (by repeat (first | (with_reducible first | exact HB.out | apply below_alloc | apply pw_below_drewN | apply below_drew1 | refine below_set ?_ GE218.out | refine below_set ?_ GE219.out | refine below_set ?_ GE223.out | refine below_set ?_ GE227.out | refine below_set ?_ GE231.out) | exact HB.out)) hb); clear BK218; clear BK219; clear BK223; clear BK227; clear BK231; clear HB; have BK218 := n0_; have BK219 := n1_; have BK223 := n2_; have BK227 := n3_; have BK231 := n4_; have HB := n5_; clear n0_ n1_ n2_ n3_ n4_ n5_; (try clear hb); (try clear hb2); (try clear hk); (try clear hi)) | ((with_reducible refine gate_dst (N := 11) rfl ?_); refine box_event ?hg (N := 11) ?hd (cs := #[.int .i64 0, .int .u64 0]) (t := 26) ?hr ?_; (case hd => rfl); (case hg => rfl); (case hr => first | (go_simp; done) | (go_simp; rfl)); intro gb235 hg w36 hbox hb; have n0_ := Aside0.mk (blk_below (g := gb218) (o := .cells #[.int .i64 a0_0, .int .u64 a0_1] 26 (0, 0)) (by (with_reducible repeat first | apply bN_ | apply bD_ | apply bA_); exact BK218.out) hb); have n1_ := Aside0.mk (blk_below (g := gb219) (o := .cells #[.int .i64 a1_0, .int .u64 a1_1] 26 (0, 0)) (by (with_reducible repeat first | apply bN_ | apply bD_ | apply bA_); exact BK219.out) hb); have n2_ := Aside0.mk (blk_below (g := gb223) (o := .cells #[.int .i64 t220, .int .u64 t221] 26 (0, 0)) (by (with_reducible repeat first | apply bN_ | apply bD_ | apply bA_); exact BK223.out) hb); have n3_ := Aside0.mk (blk_below (g := gb227) (o := .cells #[.int .i64 t224, .int .u64 t225] 26 (0, 0)) (by (with_reducible repeat first | apply bN_ | apply bD_ | apply bA_); exact BK227.out) hb); have n4_ := Aside0.mk (blk_below (g := gb231) (o := .cells #[.int .i64 t228, .int .u64 t229] 26 (0, 0)) (by (with_reducible repeat first | apply bN_ | apply bD_ | apply bA_); exact BK231.out) hb); have n5_ := Aside0.mk (below_step (by repeat (first | (with_reducible first | exact HB.out | apply below_alloc | apply pw_below_drewN | apply below_drew1 | refine below_set ?_ GE218.out | refine below_set ?_ GE219.out | refine below_set ?_ GE223.out | refine below_set ?_ GE227.out | refine below_set ?_ GE231.out) | exact HB.out)) hb); have n6_ := Aside0.mk (hbox); have n7_ := Aside0.mk ((by rw [hg]; exact (below_size (by repeat (first | (with_reducible first | exact HB.out | apply below_alloc | apply pw_below_drewN | apply below_drew1 | refine below_set ?_ GE218.out | refine below_set ?_ GE219.out | refine below_set ?_ GE223.out | refine below_set ?_ GE227.out | refine below_set ?_ GE231.out) | exact HB.out))) : w.heap.size ≤ gb235)); have n8_ := Aside0.mk ((by rw [hg]; exact (below_size (by repeat (first | (with_reducible first | exact HB.out | apply below_alloc | apply pw_below_drewN | apply below_drew1 | refine below_set ?_ GE218.out | refine below_set ?_ GE219.out | refine below_set ?_ GE223.out | refine below_set ?_ GE227.out | refine below_set ?_ GE231.out) | exact HB.out))) : w.heap.size ≤ gb235)); have n9_ := Aside0.mk ((by rw [hg]; exact Nat.ne_of_lt (blk_lt (g := gb218) (o := .cells #[.int .i64 a0_0, .int .u64 a0_1] 26 (0, 0)) (by (with_reducible repeat first | apply bN_ | apply bD_ | apply bA_); exact BK218.out)) : gb218 ≠ gb235)); have n10_ := Aside0.mk ((by rw [hg]; exact Nat.ne_of_gt (blk_lt (g := gb218) (o := .cells #[.int .i64 a0_0, .int .u64 a0_1] 26 (0, 0)) (by (with_reducible repeat first | apply bN_ | apply bD_ | apply bA_); exact BK218.out)) : gb235 ≠ gb218)); have n11_ := Aside0.mk ((by rw [hg]; exact Nat.ne_of_lt (blk_lt (g := gb219) (o := .cells #[.int .i64 a1_0, .int .u64 a1_1] 26 (0, 0)) (by (with_reducible repeat first | apply bN_ | apply bD_ | apply bA_); exact BK219.out)) : gb219 ≠ gb235)); have n12_ := Aside0.mk ((by rw [hg]; exact Nat.ne_of_gt (blk_lt (g := gb219) (o := .cells #[.int .i64 a1_0, .int .u64 a1_1] 26 (0, 0)) (by (with_reducible repeat first | apply bN_ | apply bD_ | apply bA_); exact BK219.out)) : gb235 ≠ gb219)); have n13_ := Aside0.mk ((by rw [hg]; exact Nat.ne_of_lt (blk_lt (g := gb223) (o := .cells #[.int .i64 t220, .int .u64 t221] 26 (0, 0)) (by (with_reducible repeat first | apply bN_ | apply bD_ | apply bA_); exact BK223.out)) : gb223 ≠ gb235)); have n14_ := Aside0.mk ((by rw [hg]; exact Nat.ne_of_gt (blk_lt (g := gb223) (o := .cells #[.int .i64 t220, .int .u64 t221] 26 (0, 0)) (by (with_reducible repeat first | apply bN_ | apply bD_ | apply bA_); exact BK223.out)) : gb235 ≠ gb223)); have n15_ := Aside0.mk ((by rw [hg]; exact Nat.ne_of_lt (blk_lt (g := gb227) (o := .cells #[.int .i64 t224, .int .u64 t225] 26 (0, 0)) (by (with_reducible repeat first | apply bN_ | apply bD_ | apply bA_); exact BK227.out)) : gb227 ≠ gb235)); have n16_ := Aside0.mk ((by rw [hg]; exact Nat.ne_of_gt (blk_lt (g := gb227) (o := .cells #[.int .i64 t224, .int .u64 t225] 26 (0, 0)) (by (with_reducible repeat first | apply bN_ | apply bD_ | apply bA_); exact BK227.out)) : gb235 ≠ gb227)); have n17_ := Aside0.mk ((by rw [hg]; exact Nat.ne_of_lt (blk_lt (g := gb231) (o := .cells #[.int .i64 t228, .int .u64 t229] 26 (0, 0)) (by (with_reducible repeat first | apply bN_ | apply bD_ | apply bA_); exact BK231.out)) : gb231 ≠ gb235)); have n18_ := Aside0.mk ((by rw [hg]; exact Nat.ne_of_gt (blk_lt (g := gb231) (o := .cells #[.int .i64 t228, .int .u64 t229] 26 (0, 0)) (by (with_reducible repeat first | apply bN_ | apply bD_ | apply bA_); exact BK231.out)) : gb235 ≠ gb231)); clear BK218; clear BK219; clear BK223; clear BK227; clear BK231; clear HB; have BK218 := n0_; have BK219 := n1_; have BK223 := n2_; have BK227 := n3_; have BK231 := n4_; have HB := n5_; have BK235 := n6_; have GW235 := n7_; have GE235 := n8_; have NB218_235 := n9_; have NB235_218 := n10_; have NB219_235 := n11_; have NB235_219 := n12_; have NB223_235 := n13_; have NB235_223 := n14_; have NB227_235 := n15_; have NB235_227 := n16_; have NB231_235 := n17_; have NB235_231 := n18_; clear n0_ n1_ n2_ n3_ n4_ n5_ n6_ n7_ n8_ n9_ n10_ n11_ n12_ n13_ n14_ n15_ n16_ n17_ n18_; clear hb hbox hg; have hnb37 := NB235_218.out; have hnc37 := NB218_235.out; have hnb38 := NB235_219.out; have hnc38 := NB219_235.out; have hnb39 := NB235_223.out; have hnc39 := NB223_235.out; have hnb40 := NB235_227.out; have hnc40 := NB227_235.out; have hnb41 := NB235_231.out; have hnc41 := NB231_235.out; have hcz42_0 : w36.cell? ⟨gb235, 0, none⟩ = some (.int .i64 0) := (blk_cell BK235.out 0).trans rfl; have hcz42_1 : w36.cell? ⟨gb235, 1, none⟩ = some (.int .u64 0) := (blk_cell BK235.out 1).trans rfl; have hfz42_0 := blk_frozen BK235.out 0; have hfz42_1 := blk_frozen BK235.out 1))
  (try simp only [Act.put, List.setIfInBounds_toArray, List.set_cons_zero, List.set_cons_succ])
  go_cut [60] (fun v60 wc => ∃ (kq : Nat) (x60_6 : Bool), v60 = .bool x60_6 ∧ Aside0 (corollarylaw02_WideAdds.j0 kq x60_6 t220 t221 t224 t225 t228 t229 t232 t233 = some r) ∧ Aside0 (kq ≤ k) ∧ Aside0 (wc.heap[gb218]? = some (.cells #[.int .i64 a0_0, .int .u64 a0_1] 26 (0, 0))) ∧ Aside0 (wc.heap[gb219]? = some (.cells #[.int .i64 a1_0, .int .u64 a1_1] 26 (0, 0))) ∧ Aside0 (wc.heap[gb223]? = some (.cells #[.int .i64 t220, .int .u64 t221] 26 (0, 0))) ∧ Aside0 (wc.heap[gb227]? = some (.cells #[.int .i64 t224, .int .u64 t225] 26 (0, 0))) ∧ Aside0 (wc.heap[gb231]? = some (.cells #[.int .i64 t228, .int .u64 t229] 26 (0, 0))) ∧ Aside0 (wc.heap[gb235]? = some (.cells #[.int .i64 t232, .int .u64 t233] 26 (0, 0))) ∧ Aside0 (Below w.heap.size w wc))
  case first =>
    have H := HC7.out
    clear HC7
    by_cases c43 : t226 = true
    · subst c43
      have H1 : (if t222 = 0 then (if t234 = true then (if t230 = 0 then (corollarylaw02_WideAdds.j0 k false t220 t221 t224 t225 t228 t229 t232 t233) else (corollarylaw02_WideAdds.j0 k true t220 t221 t224 t225 t228 t229 t232 t233)) else (if t230 = 0 then (corollarylaw02_WideAdds.j0 k true t220 t221 t224 t225 t228 t229 t232 t233) else (corollarylaw02_WideAdds.j0 k (t230 != 14) t220 t221 t224 t225 t228 t229 t232 t233))) else (corollarylaw02_WideAdds.j0 k true t220 t221 t224 t225 t228 t229 t232 t233)) = some r := by rw [if_pos rfl] at H; exact H
      clear H
      have H := H1
      clear H1
      by_cases c44 : t222 = 0
      · rw [if_pos c44] at H
        have c44b0 : (t222 == 0) = true := beq_iff_eq.mpr c44
        have c44b1 : (t222 != 0) = false := bne_eq_false_iff_eq.mpr c44
        clear c44
        (first | rw [c44b0] | (simp only [i64_w, i32_w]; rw [c44b0]) | skip)
        by_cases c45 : t234 = true
        · subst c45
          have H1 : (if t230 = 0 then (corollarylaw02_WideAdds.j0 k false t220 t221 t224 t225 t228 t229 t232 t233) else (corollarylaw02_WideAdds.j0 k true t220 t221 t224 t225 t228 t229 t232 t233)) = some r := by rw [if_pos rfl] at H; exact H
          clear H
          have H := H1
          clear H1
          by_cases c46 : t230 = 0
          · rw [if_pos c46] at H
            have c46b0 : (t230 == 0) = true := beq_iff_eq.mpr c46
            have c46b1 : (t230 != 0) = false := bne_eq_false_iff_eq.mpr c46
            clear c46
            have H' := Aside0.mk H
            clear H
            go_wp2
            go_meet
            case rel => exact ⟨_, (false), (by first | rfl | (simp; done) | (simp [*]; done)), H', ⟨by first | omega | exact Nat.le_refl _⟩, ⟨by (with_reducible repeat first | apply bN_ | apply bD_ | apply bA_); refine blk_far ?_ NB218_235.out _; (with_reducible repeat first | apply bN_ | apply bD_ | apply bA_); refine blk_far ?_ NB218_235.out _; (with_reducible repeat first | apply bN_ | apply bD_ | apply bA_); exact BK218.out⟩, ⟨by (with_reducible repeat first | apply bN_ | apply bD_ | apply bA_); refine blk_far ?_ NB219_235.out _; (with_reducible repeat first | apply bN_ | apply bD_ | apply bA_); refine blk_far ?_ NB219_235.out _; (with_reducible repeat first | apply bN_ | apply bD_ | apply bA_); exact BK219.out⟩, ⟨by (with_reducible repeat first | apply bN_ | apply bD_ | apply bA_); refine blk_far ?_ NB223_235.out _; (with_reducible repeat first | apply bN_ | apply bD_ | apply bA_); refine blk_far ?_ NB223_235.out _; (with_reducible repeat first | apply bN_ | apply bD_ | apply bA_); exact BK223.out⟩, ⟨by (with_reducible repeat first | apply bN_ | apply bD_ | apply bA_); refine blk_far ?_ NB227_235.out _; (with_reducible repeat first | apply bN_ | apply bD_ | apply bA_); refine blk_far ?_ NB227_235.out _; (with_reducible repeat first | apply bN_ | apply bD_ | apply bA_); exact BK227.out⟩, ⟨by (with_reducible repeat first | apply bN_ | apply bD_ | apply bA_); refine blk_far ?_ NB231_235.out _; (with_reducible repeat first | apply bN_ | apply bD_ | apply bA_); refine blk_far ?_ NB231_235.out _; (with_reducible repeat first | apply bN_ | apply bD_ | apply bA_); exact BK231.out⟩, ⟨by (with_reducible repeat first | apply bN_ | apply bD_ | apply bA_); refine blk_put (cs := #[.int .i64 t232, .int .u64 0]) ?_ 1 _ rfl; (with_reducible repeat first | apply bN_ | apply bD_ | apply bA_); refine blk_put (cs := #[.int .i64 0, .int .u64 0]) ?_ 0 _ rfl; (with_reducible repeat first | apply bN_ | apply bD_ | apply bA_); exact BK235.out⟩, ⟨by repeat (first | (with_reducible first | exact HB.out | apply below_alloc | apply pw_below_drewN | apply below_drew1 | refine below_set ?_ GE218.out | refine below_set ?_ GE219.out | refine below_set ?_ GE223.out | refine below_set ?_ GE227.out | refine below_set ?_ GE231.out | refine below_set ?_ GE235.out) | exact HB.out)⟩⟩
          · rw [if_neg c46] at H
            have c46b0 : (t230 == 0) = false := beq_eq_false_iff_ne.mpr c46
            have c46b1 : (t230 != 0) = true := bne_iff_ne.mpr c46
            have H' := Aside0.mk H
            clear H
            go_wp2
            go_meet
            case rel => exact ⟨_, (true), (by first | rfl | (simp; done) | (simp [*]; done)), H', ⟨by first | omega | exact Nat.le_refl _⟩, ⟨by (with_reducible repeat first | apply bN_ | apply bD_ | apply bA_); refine blk_far ?_ NB218_235.out _; (with_reducible repeat first | apply bN_ | apply bD_ | apply bA_); refine blk_far ?_ NB218_235.out _; (with_reducible repeat first | apply bN_ | apply bD_ | apply bA_); exact BK218.out⟩, ⟨by (with_reducible repeat first | apply bN_ | apply bD_ | apply bA_); refine blk_far ?_ NB219_235.out _; (with_reducible repeat first | apply bN_ | apply bD_ | apply bA_); refine blk_far ?_ NB219_235.out _; (with_reducible repeat first | apply bN_ | apply bD_ | apply bA_); exact BK219.out⟩, ⟨by (with_reducible repeat first | apply bN_ | apply bD_ | apply bA_); refine blk_far ?_ NB223_235.out _; (with_reducible repeat first | apply bN_ | apply bD_ | apply bA_); refine blk_far ?_ NB223_235.out _; (with_reducible repeat first | apply bN_ | apply bD_ | apply bA_); exact BK223.out⟩, ⟨by (with_reducible repeat first | apply bN_ | apply bD_ | apply bA_); refine blk_far ?_ NB227_235.out _; (with_reducible repeat first | apply bN_ | apply bD_ | apply bA_); refine blk_far ?_ NB227_235.out _; (with_reducible repeat first | apply bN_ | apply bD_ | apply bA_); exact BK227.out⟩, ⟨by (with_reducible repeat first | apply bN_ | apply bD_ | apply bA_); refine blk_far ?_ NB231_235.out _; (with_reducible repeat first | apply bN_ | apply bD_ | apply bA_); refine blk_far ?_ NB231_235.out _; (with_reducible repeat first | apply bN_ | apply bD_ | apply bA_); exact BK231.out⟩, ⟨by (with_reducible repeat first | apply bN_ | apply bD_ | apply bA_); refine blk_put (cs := #[.int .i64 t232, .int .u64 0]) ?_ 1 _ rfl; (with_reducible repeat first | apply bN_ | apply bD_ | apply bA_); refine blk_put (cs := #[.int .i64 0, .int .u64 0]) ?_ 0 _ rfl; (with_reducible repeat first | apply bN_ | apply bD_ | apply bA_); exact BK235.out⟩, ⟨by repeat (first | (with_reducible first | exact HB.out | apply below_alloc | apply pw_below_drewN | apply below_drew1 | refine below_set ?_ GE218.out | refine below_set ?_ GE219.out | refine below_set ?_ GE223.out | refine below_set ?_ GE227.out | refine below_set ?_ GE231.out | refine below_set ?_ GE235.out) | exact HB.out)⟩⟩
        · replace c45 := Bool.eq_false_iff.mpr c45
          subst c45
          have H1 : (if t230 = 0 then (corollarylaw02_WideAdds.j0 k true t220 t221 t224 t225 t228 t229 t232 t233) else (corollarylaw02_WideAdds.j0 k (t230 != 14) t220 t221 t224 t225 t228 t229 t232 t233)) = some r := by rw [if_neg (show ¬ (false = true) by decide)] at H; exact H
          clear H
          have H := H1
          clear H1
          by_cases c47 : t230 = 0
          · rw [if_pos c47] at H
            have c47b0 : (t230 == 0) = true := beq_iff_eq.mpr c47
            have c47b1 : (t230 != 0) = false := bne_eq_false_iff_eq.mpr c47
            clear c47
            have H' := Aside0.mk H
            clear H
            go_wp2
            go_meet
            case rel => exact ⟨_, (true), (by first | rfl | (simp; done) | (simp [*]; done)), H', ⟨by first | omega | exact Nat.le_refl _⟩, ⟨by (with_reducible repeat first | apply bN_ | apply bD_ | apply bA_); refine blk_far ?_ NB218_235.out _; (with_reducible repeat first | apply bN_ | apply bD_ | apply bA_); refine blk_far ?_ NB218_235.out _; (with_reducible repeat first | apply bN_ | apply bD_ | apply bA_); exact BK218.out⟩, ⟨by (with_reducible repeat first | apply bN_ | apply bD_ | apply bA_); refine blk_far ?_ NB219_235.out _; (with_reducible repeat first | apply bN_ | apply bD_ | apply bA_); refine blk_far ?_ NB219_235.out _; (with_reducible repeat first | apply bN_ | apply bD_ | apply bA_); exact BK219.out⟩, ⟨by (with_reducible repeat first | apply bN_ | apply bD_ | apply bA_); refine blk_far ?_ NB223_235.out _; (with_reducible repeat first | apply bN_ | apply bD_ | apply bA_); refine blk_far ?_ NB223_235.out _; (with_reducible repeat first | apply bN_ | apply bD_ | apply bA_); exact BK223.out⟩, ⟨by (with_reducible repeat first | apply bN_ | apply bD_ | apply bA_); refine blk_far ?_ NB227_235.out _; (with_reducible repeat first | apply bN_ | apply bD_ | apply bA_); refine blk_far ?_ NB227_235.out _; (with_reducible repeat first | apply bN_ | apply bD_ | apply bA_); exact BK227.out⟩, ⟨by (with_reducible repeat first | apply bN_ | apply bD_ | apply bA_); refine blk_far ?_ NB231_235.out _; (with_reducible repeat first | apply bN_ | apply bD_ | apply bA_); refine blk_far ?_ NB231_235.out _; (with_reducible repeat first | apply bN_ | apply bD_ | apply bA_); exact BK231.out⟩, ⟨by (with_reducible repeat first | apply bN_ | apply bD_ | apply bA_); refine blk_put (cs := #[.int .i64 t232, .int .u64 0]) ?_ 1 _ rfl; (with_reducible repeat first | apply bN_ | apply bD_ | apply bA_); refine blk_put (cs := #[.int .i64 0, .int .u64 0]) ?_ 0 _ rfl; (with_reducible repeat first | apply bN_ | apply bD_ | apply bA_); exact BK235.out⟩, ⟨by repeat (first | (with_reducible first | exact HB.out | apply below_alloc | apply pw_below_drewN | apply below_drew1 | refine below_set ?_ GE218.out | refine below_set ?_ GE219.out | refine below_set ?_ GE223.out | refine below_set ?_ GE227.out | refine below_set ?_ GE231.out | refine below_set ?_ GE235.out) | exact HB.out)⟩⟩
          · rw [if_neg c47] at H
            have c47b0 : (t230 == 0) = false := beq_eq_false_iff_ne.mpr c47
            have c47b1 : (t230 != 0) = true := bne_iff_ne.mpr c47
            have H' := Aside0.mk H
            clear H
            go_wp2
            go_meet
            case rel => exact ⟨_, ((t230 != 14)), (by first | rfl | (simp; done) | (simp [*]; done)), H', ⟨by first | omega | exact Nat.le_refl _⟩, ⟨by (with_reducible repeat first | apply bN_ | apply bD_ | apply bA_); refine blk_far ?_ NB218_235.out _; (with_reducible repeat first | apply bN_ | apply bD_ | apply bA_); refine blk_far ?_ NB218_235.out _; (with_reducible repeat first | apply bN_ | apply bD_ | apply bA_); exact BK218.out⟩, ⟨by (with_reducible repeat first | apply bN_ | apply bD_ | apply bA_); refine blk_far ?_ NB219_235.out _; (with_reducible repeat first | apply bN_ | apply bD_ | apply bA_); refine blk_far ?_ NB219_235.out _; (with_reducible repeat first | apply bN_ | apply bD_ | apply bA_); exact BK219.out⟩, ⟨by (with_reducible repeat first | apply bN_ | apply bD_ | apply bA_); refine blk_far ?_ NB223_235.out _; (with_reducible repeat first | apply bN_ | apply bD_ | apply bA_); refine blk_far ?_ NB223_235.out _; (with_reducible repeat first | apply bN_ | apply bD_ | apply bA_); exact BK223.out⟩, ⟨by (with_reducible repeat first | apply bN_ | apply bD_ | apply bA_); refine blk_far ?_ NB227_235.out _; (with_reducible repeat first | apply bN_ | apply bD_ | apply bA_); refine blk_far ?_ NB227_235.out _; (with_reducible repeat first | apply bN_ | apply bD_ | apply bA_); exact BK227.out⟩, ⟨by (with_reducible repeat first | apply bN_ | apply bD_ | apply bA_); refine blk_far ?_ NB231_235.out _; (with_reducible repeat first | apply bN_ | apply bD_ | apply bA_); refine blk_far ?_ NB231_235.out _; (with_reducible repeat first | apply bN_ | apply bD_ | apply bA_); exact BK231.out⟩, ⟨by (with_reducible repeat first | apply bN_ | apply bD_ | apply bA_); refine blk_put (cs := #[.int .i64 t232, .int .u64 0]) ?_ 1 _ rfl; (with_reducible repeat first | apply bN_ | apply bD_ | apply bA_); refine blk_put (cs := #[.int .i64 0, .int .u64 0]) ?_ 0 _ rfl; (with_reducible repeat first | apply bN_ | apply bD_ | apply bA_); exact BK235.out⟩, ⟨by repeat (first | (with_reducible first | exact HB.out | apply below_alloc | apply pw_below_drewN | apply below_drew1 | refine below_set ?_ GE218.out | refine below_set ?_ GE219.out | refine below_set ?_ GE223.out | refine below_set ?_ GE227.out | refine below_set ?_ GE231.out | refine below_set ?_ GE235.out) | exact HB.out)⟩⟩
      · rw [if_neg c44] at H
        have c44b0 : (t222 == 0) = false := beq_eq_false_iff_ne.mpr c44
        have c44b1 : (t222 != 0) = true := bne_iff_ne.mpr c44
        (first | rw [c44b0] | (simp only [i64_w, i32_w]; rw [c44b0]) | skip)
        have H' := Aside0.mk H
        clear H
        go_wp2
        go_meet
        case rel => exact ⟨_, (true), (by first | rfl | (simp; done) | (simp [*]; done)), H', ⟨by first | omega | exact Nat.le_refl _⟩, ⟨by (with_reducible repeat first | apply bN_ | apply bD_ | apply bA_); refine blk_far ?_ NB218_235.out _; (with_reducible repeat first | apply bN_ | apply bD_ | apply bA_); refine blk_far ?_ NB218_235.out _; (with_reducible repeat first | apply bN_ | apply bD_ | apply bA_); exact BK218.out⟩, ⟨by (with_reducible repeat first | apply bN_ | apply bD_ | apply bA_); refine blk_far ?_ NB219_235.out _; (with_reducible repeat first | apply bN_ | apply bD_ | apply bA_); refine blk_far ?_ NB219_235.out _; (with_reducible repeat first | apply bN_ | apply bD_ | apply bA_); exact BK219.out⟩, ⟨by (with_reducible repeat first | apply bN_ | apply bD_ | apply bA_); refine blk_far ?_ NB223_235.out _; (with_reducible repeat first | apply bN_ | apply bD_ | apply bA_); refine blk_far ?_ NB223_235.out _; (with_reducible repeat first | apply bN_ | apply bD_ | apply bA_); exact BK223.out⟩, ⟨by (with_reducible repeat first | apply bN_ | apply bD_ | apply bA_); refine blk_far ?_ NB227_235.out _; (with_reducible repeat first | apply bN_ | apply bD_ | apply bA_); refine blk_far ?_ NB227_235.out _; (with_reducible repeat first | apply bN_ | apply bD_ | apply bA_); exact BK227.out⟩, ⟨by (with_reducible repeat first | apply bN_ | apply bD_ | apply bA_); refine blk_far ?_ NB231_235.out _; (with_reducible repeat first | apply bN_ | apply bD_ | apply bA_); refine blk_far ?_ NB231_235.out _; (with_reducible repeat first | apply bN_ | apply bD_ | apply bA_); exact BK231.out⟩, ⟨by (with_reducible repeat first | apply bN_ | apply bD_ | apply bA_); refine blk_put (cs := #[.int .i64 t232, .int .u64 0]) ?_ 1 _ rfl; (with_reducible repeat first | apply bN_ | apply bD_ | apply bA_); refine blk_put (cs := #[.int .i64 0, .int .u64 0]) ?_ 0 _ rfl; (with_reducible repeat first | apply bN_ | apply bD_ | apply bA_); exact BK235.out⟩, ⟨by repeat (first | (with_reducible first | exact HB.out | apply below_alloc | apply pw_below_drewN | apply below_drew1 | refine below_set ?_ GE218.out | refine below_set ?_ GE219.out | refine below_set ?_ GE223.out | refine below_set ?_ GE227.out | refine below_set ?_ GE231.out | refine below_set ?_ GE235.out) | exact HB.out)⟩⟩
    · replace c43 := Bool.eq_false_iff.mpr c43
      subst c43
      have H1 : (if t222 = 0 then (corollarylaw02_WideAdds.j0 k true t220 t221 t224 t225 t228 t229 t232 t233) else (if t234 = true then (if t230 = 0 then (if t222 = 14 then (corollarylaw02_WideAdds.j0 k false t220 t221 t224 t225 t228 t229 t232 t233) else (corollarylaw02_WideAdds.j0 k true t220 t221 t224 t225 t228 t229 t232 t233)) else (corollarylaw02_WideAdds.j0 k true t220 t221 t224 t225 t228 t229 t232 t233)) else (if t230 = 0 then (corollarylaw02_WideAdds.j0 k true t220 t221 t224 t225 t228 t229 t232 t233) else (if t222 = 14 then (corollarylaw02_WideAdds.j0 k (t230 != 14) t220 t221 t224 t225 t228 t229 t232 t233) else (corollarylaw02_WideAdds.j0 k true t220 t221 t224 t225 t228 t229 t232 t233))))) = some r := by rw [if_neg (show ¬ (false = true) by decide)] at H; exact H
      clear H
      have H := H1
      clear H1
      by_cases c48 : t222 = 0
      · rw [if_pos c48] at H
        have c48b0 : (t222 == 0) = true := beq_iff_eq.mpr c48
        have c48b1 : (t222 != 0) = false := bne_eq_false_iff_eq.mpr c48
        clear c48
        have H' := Aside0.mk H
        clear H
        go_wp2
        go_meet
        case rel => exact ⟨_, (true), (by first | rfl | (simp; done) | (simp [*]; done)), H', ⟨by first | omega | exact Nat.le_refl _⟩, ⟨by (with_reducible repeat first | apply bN_ | apply bD_ | apply bA_); refine blk_far ?_ NB218_235.out _; (with_reducible repeat first | apply bN_ | apply bD_ | apply bA_); refine blk_far ?_ NB218_235.out _; (with_reducible repeat first | apply bN_ | apply bD_ | apply bA_); exact BK218.out⟩, ⟨by (with_reducible repeat first | apply bN_ | apply bD_ | apply bA_); refine blk_far ?_ NB219_235.out _; (with_reducible repeat first | apply bN_ | apply bD_ | apply bA_); refine blk_far ?_ NB219_235.out _; (with_reducible repeat first | apply bN_ | apply bD_ | apply bA_); exact BK219.out⟩, ⟨by (with_reducible repeat first | apply bN_ | apply bD_ | apply bA_); refine blk_far ?_ NB223_235.out _; (with_reducible repeat first | apply bN_ | apply bD_ | apply bA_); refine blk_far ?_ NB223_235.out _; (with_reducible repeat first | apply bN_ | apply bD_ | apply bA_); exact BK223.out⟩, ⟨by (with_reducible repeat first | apply bN_ | apply bD_ | apply bA_); refine blk_far ?_ NB227_235.out _; (with_reducible repeat first | apply bN_ | apply bD_ | apply bA_); refine blk_far ?_ NB227_235.out _; (with_reducible repeat first | apply bN_ | apply bD_ | apply bA_); exact BK227.out⟩, ⟨by (with_reducible repeat first | apply bN_ | apply bD_ | apply bA_); refine blk_far ?_ NB231_235.out _; (with_reducible repeat first | apply bN_ | apply bD_ | apply bA_); refine blk_far ?_ NB231_235.out _; (with_reducible repeat first | apply bN_ | apply bD_ | apply bA_); exact BK231.out⟩, ⟨by (with_reducible repeat first | apply bN_ | apply bD_ | apply bA_); refine blk_put (cs := #[.int .i64 t232, .int .u64 0]) ?_ 1 _ rfl; (with_reducible repeat first | apply bN_ | apply bD_ | apply bA_); refine blk_put (cs := #[.int .i64 0, .int .u64 0]) ?_ 0 _ rfl; (with_reducible repeat first | apply bN_ | apply bD_ | apply bA_); exact BK235.out⟩, ⟨by repeat (first | (with_reducible first | exact HB.out | apply below_alloc | apply pw_below_drewN | apply below_drew1 | refine below_set ?_ GE218.out | refine below_set ?_ GE219.out | refine below_set ?_ GE223.out | refine below_set ?_ GE227.out | refine below_set ?_ GE231.out | refine below_set ?_ GE235.out) | exact HB.out)⟩⟩
      · rw [if_neg c48] at H
        have c48b0 : (t222 == 0) = false := beq_eq_false_iff_ne.mpr c48
        have c48b1 : (t222 != 0) = true := bne_iff_ne.mpr c48
        by_cases c49 : t234 = true
        · subst c49
          have H1 : (if t230 = 0 then (if t222 = 14 then (corollarylaw02_WideAdds.j0 k false t220 t221 t224 t225 t228 t229 t232 t233) else (corollarylaw02_WideAdds.j0 k true t220 t221 t224 t225 t228 t229 t232 t233)) else (corollarylaw02_WideAdds.j0 k true t220 t221 t224 t225 t228 t229 t232 t233)) = some r := by rw [if_pos rfl] at H; exact H
          clear H
          have H := H1
          clear H1
          by_cases c50 : t230 = 0
          · rw [if_pos c50] at H
            have c50b0 : (t230 == 0) = true := beq_iff_eq.mpr c50
            have c50b1 : (t230 != 0) = false := bne_eq_false_iff_eq.mpr c50
            clear c50
            by_cases c51 : t222 = 14
            · rw [if_pos c51] at H
              have c51b0 : (t222 == 14) = true := beq_iff_eq.mpr c51
              have c51b1 : (t222 != 14) = false := bne_eq_false_iff_eq.mpr c51
              clear c51
              have H' := Aside0.mk H
              clear H
              go_wp2
              go_meet
              case rel => exact ⟨_, (false), (by first | rfl | (simp; done) | (simp [*]; done)), H', ⟨by first | omega | exact Nat.le_refl _⟩, ⟨by (with_reducible repeat first | apply bN_ | apply bD_ | apply bA_); refine blk_far ?_ NB218_235.out _; (with_reducible repeat first | apply bN_ | apply bD_ | apply bA_); refine blk_far ?_ NB218_235.out _; (with_reducible repeat first | apply bN_ | apply bD_ | apply bA_); exact BK218.out⟩, ⟨by (with_reducible repeat first | apply bN_ | apply bD_ | apply bA_); refine blk_far ?_ NB219_235.out _; (with_reducible repeat first | apply bN_ | apply bD_ | apply bA_); refine blk_far ?_ NB219_235.out _; (with_reducible repeat first | apply bN_ | apply bD_ | apply bA_); exact BK219.out⟩, ⟨by (with_reducible repeat first | apply bN_ | apply bD_ | apply bA_); refine blk_far ?_ NB223_235.out _; (with_reducible repeat first | apply bN_ | apply bD_ | apply bA_); refine blk_far ?_ NB223_235.out _; (with_reducible repeat first | apply bN_ | apply bD_ | apply bA_); exact BK223.out⟩, ⟨by (with_reducible repeat first | apply bN_ | apply bD_ | apply bA_); refine blk_far ?_ NB227_235.out _; (with_reducible repeat first | apply bN_ | apply bD_ | apply bA_); refine blk_far ?_ NB227_235.out _; (with_reducible repeat first | apply bN_ | apply bD_ | apply bA_); exact BK227.out⟩, ⟨by (with_reducible repeat first | apply bN_ | apply bD_ | apply bA_); refine blk_far ?_ NB231_235.out _; (with_reducible repeat first | apply bN_ | apply bD_ | apply bA_); refine blk_far ?_ NB231_235.out _; (with_reducible repeat first | apply bN_ | apply bD_ | apply bA_); exact BK231.out⟩, ⟨by (with_reducible repeat first | apply bN_ | apply bD_ | apply bA_); refine blk_put (cs := #[.int .i64 t232, .int .u64 0]) ?_ 1 _ rfl; (with_reducible repeat first | apply bN_ | apply bD_ | apply bA_); refine blk_put (cs := #[.int .i64 0, .int .u64 0]) ?_ 0 _ rfl; (with_reducible repeat first | apply bN_ | apply bD_ | apply bA_); exact BK235.out⟩, ⟨by repeat (first | (with_reducible first | exact HB.out | apply below_alloc | apply pw_below_drewN | apply below_drew1 | refine below_set ?_ GE218.out | refine below_set ?_ GE219.out | refine below_set ?_ GE223.out | refine below_set ?_ GE227.out | refine below_set ?_ GE231.out | refine below_set ?_ GE235.out) | exact HB.out)⟩⟩
            · rw [if_neg c51] at H
              have c51b0 : (t222 == 14) = false := beq_eq_false_iff_ne.mpr c51
              have c51b1 : (t222 != 14) = true := bne_iff_ne.mpr c51
              have H' := Aside0.mk H
              clear H
              go_wp2
              go_meet
              case rel => exact ⟨_, (true), (by first | rfl | (simp; done) | (simp [*]; done)), H', ⟨by first | omega | exact Nat.le_refl _⟩, ⟨by (with_reducible repeat first | apply bN_ | apply bD_ | apply bA_); refine blk_far ?_ NB218_235.out _; (with_reducible repeat first | apply bN_ | apply bD_ | apply bA_); refine blk_far ?_ NB218_235.out _; (with_reducible repeat first | apply bN_ | apply bD_ | apply bA_); exact BK218.out⟩, ⟨by (with_reducible repeat first | apply bN_ | apply bD_ | apply bA_); refine blk_far ?_ NB219_235.out _; (with_reducible repeat first | apply bN_ | apply bD_ | apply bA_); refine blk_far ?_ NB219_235.out _; (with_reducible repeat first | apply bN_ | apply bD_ | apply bA_); exact BK219.out⟩, ⟨by (with_reducible repeat first | apply bN_ | apply bD_ | apply bA_); refine blk_far ?_ NB223_235.out _; (with_reducible repeat first | apply bN_ | apply bD_ | apply bA_); refine blk_far ?_ NB223_235.out _; (with_reducible repeat first | apply bN_ | apply bD_ | apply bA_); exact BK223.out⟩, ⟨by (with_reducible repeat first | apply bN_ | apply bD_ | apply bA_); refine blk_far ?_ NB227_235.out _; (with_reducible repeat first | apply bN_ | apply bD_ | apply bA_); refine blk_far ?_ NB227_235.out _; (with_reducible repeat first | apply bN_ | apply bD_ | apply bA_); exact BK227.out⟩, ⟨by (with_reducible repeat first | apply bN_ | apply bD_ | apply bA_); refine blk_far ?_ NB231_235.out _; (with_reducible repeat first | apply bN_ | apply bD_ | apply bA_); refine blk_far ?_ NB231_235.out _; (with_reducible repeat first | apply bN_ | apply bD_ | apply bA_); exact BK231.out⟩, ⟨by (with_reducible repeat first | apply bN_ | apply bD_ | apply bA_); refine blk_put (cs := #[.int .i64 t232, .int .u64 0]) ?_ 1 _ rfl; (with_reducible repeat first | apply bN_ | apply bD_ | apply bA_); refine blk_put (cs := #[.int .i64 0, .int .u64 0]) ?_ 0 _ rfl; (with_reducible repeat first | apply bN_ | apply bD_ | apply bA_); exact BK235.out⟩, ⟨by repeat (first | (with_reducible first | exact HB.out | apply below_alloc | apply pw_below_drewN | apply below_drew1 | refine below_set ?_ GE218.out | refine below_set ?_ GE219.out | refine below_set ?_ GE223.out | refine below_set ?_ GE227.out | refine below_set ?_ GE231.out | refine below_set ?_ GE235.out) | exact HB.out)⟩⟩
          · rw [if_neg c50] at H
            have c50b0 : (t230 == 0) = false := beq_eq_false_iff_ne.mpr c50
            have c50b1 : (t230 != 0) = true := bne_iff_ne.mpr c50
            have H' := Aside0.mk H
            clear H
            go_wp2
            go_meet
            case rel => exact ⟨_, (true), (by first | rfl | (simp; done) | (simp [*]; done)), H', ⟨by first | omega | exact Nat.le_refl _⟩, ⟨by (with_reducible repeat first | apply bN_ | apply bD_ | apply bA_); refine blk_far ?_ NB218_235.out _; (with_reducible repeat first | apply bN_ | apply bD_ | apply bA_); refine blk_far ?_ NB218_235.out _; (with_reducible repeat first | apply bN_ | apply bD_ | apply bA_); exact BK218.out⟩, ⟨by (with_reducible repeat first | apply bN_ | apply bD_ | apply bA_); refine blk_far ?_ NB219_235.out _; (with_reducible repeat first | apply bN_ | apply bD_ | apply bA_); refine blk_far ?_ NB219_235.out _; (with_reducible repeat first | apply bN_ | apply bD_ | apply bA_); exact BK219.out⟩, ⟨by (with_reducible repeat first | apply bN_ | apply bD_ | apply bA_); refine blk_far ?_ NB223_235.out _; (with_reducible repeat first | apply bN_ | apply bD_ | apply bA_); refine blk_far ?_ NB223_235.out _; (with_reducible repeat first | apply bN_ | apply bD_ | apply bA_); exact BK223.out⟩, ⟨by (with_reducible repeat first | apply bN_ | apply bD_ | apply bA_); refine blk_far ?_ NB227_235.out _; (with_reducible repeat first | apply bN_ | apply bD_ | apply bA_); refine blk_far ?_ NB227_235.out _; (with_reducible repeat first | apply bN_ | apply bD_ | apply bA_); exact BK227.out⟩, ⟨by (with_reducible repeat first | apply bN_ | apply bD_ | apply bA_); refine blk_far ?_ NB231_235.out _; (with_reducible repeat first | apply bN_ | apply bD_ | apply bA_); refine blk_far ?_ NB231_235.out _; (with_reducible repeat first | apply bN_ | apply bD_ | apply bA_); exact BK231.out⟩, ⟨by (with_reducible repeat first | apply bN_ | apply bD_ | apply bA_); refine blk_put (cs := #[.int .i64 t232, .int .u64 0]) ?_ 1 _ rfl; (with_reducible repeat first | apply bN_ | apply bD_ | apply bA_); refine blk_put (cs := #[.int .i64 0, .int .u64 0]) ?_ 0 _ rfl; (with_reducible repeat first | apply bN_ | apply bD_ | apply bA_); exact BK235.out⟩, ⟨by repeat (first | (with_reducible first | exact HB.out | apply below_alloc | apply pw_below_drewN | apply below_drew1 | refine below_set ?_ GE218.out | refine below_set ?_ GE219.out | refine below_set ?_ GE223.out | refine below_set ?_ GE227.out | refine below_set ?_ GE231.out | refine below_set ?_ GE235.out) | exact HB.out)⟩⟩
        · replace c49 := Bool.eq_false_iff.mpr c49
          subst c49
          have H1 : (if t230 = 0 then (corollarylaw02_WideAdds.j0 k true t220 t221 t224 t225 t228 t229 t232 t233) else (if t222 = 14 then (corollarylaw02_WideAdds.j0 k (t230 != 14) t220 t221 t224 t225 t228 t229 t232 t233) else (corollarylaw02_WideAdds.j0 k true t220 t221 t224 t225 t228 t229 t232 t233))) = some r := by rw [if_neg (show ¬ (false = true) by decide)] at H; exact H
          clear H
          have H := H1
          clear H1
          by_cases c52 : t230 = 0
          · rw [if_pos c52] at H
            have c52b0 : (t230 == 0) = true := beq_iff_eq.mpr c52
            have c52b1 : (t230 != 0) = false := bne_eq_false_iff_eq.mpr c52
            clear c52
            have H' := Aside0.mk H
            clear H
            go_wp2
            go_meet
            case rel => exact ⟨_, (true), (by first | rfl | (simp; done) | (simp [*]; done)), H', ⟨by first | omega | exact Nat.le_refl _⟩, ⟨by (with_reducible repeat first | apply bN_ | apply bD_ | apply bA_); refine blk_far ?_ NB218_235.out _; (with_reducible repeat first | apply bN_ | apply bD_ | apply bA_); refine blk_far ?_ NB218_235.out _; (with_reducible repeat first | apply bN_ | apply bD_ | apply bA_); exact BK218.out⟩, ⟨by (with_reducible repeat first | apply bN_ | apply bD_ | apply bA_); refine blk_far ?_ NB219_235.out _; (with_reducible repeat first | apply bN_ | apply bD_ | apply bA_); refine blk_far ?_ NB219_235.out _; (with_reducible repeat first | apply bN_ | apply bD_ | apply bA_); exact BK219.out⟩, ⟨by (with_reducible repeat first | apply bN_ | apply bD_ | apply bA_); refine blk_far ?_ NB223_235.out _; (with_reducible repeat first | apply bN_ | apply bD_ | apply bA_); refine blk_far ?_ NB223_235.out _; (with_reducible repeat first | apply bN_ | apply bD_ | apply bA_); exact BK223.out⟩, ⟨by (with_reducible repeat first | apply bN_ | apply bD_ | apply bA_); refine blk_far ?_ NB227_235.out _; (with_reducible repeat first | apply bN_ | apply bD_ | apply bA_); refine blk_far ?_ NB227_235.out _; (with_reducible repeat first | apply bN_ | apply bD_ | apply bA_); exact BK227.out⟩, ⟨by (with_reducible repeat first | apply bN_ | apply bD_ | apply bA_); refine blk_far ?_ NB231_235.out _; (with_reducible repeat first | apply bN_ | apply bD_ | apply bA_); refine blk_far ?_ NB231_235.out _; (with_reducible repeat first | apply bN_ | apply bD_ | apply bA_); exact BK231.out⟩, ⟨by (with_reducible repeat first | apply bN_ | apply bD_ | apply bA_); refine blk_put (cs := #[.int .i64 t232, .int .u64 0]) ?_ 1 _ rfl; (with_reducible repeat first | apply bN_ | apply bD_ | apply bA_); refine blk_put (cs := #[.int .i64 0, .int .u64 0]) ?_ 0 _ rfl; (with_reducible repeat first | apply bN_ | apply bD_ | apply bA_); exact BK235.out⟩, ⟨by repeat (first | (with_reducible first | exact HB.out | apply below_alloc | apply pw_below_drewN | apply below_drew1 | refine below_set ?_ GE218.out | refine below_set ?_ GE219.out | refine below_set ?_ GE223.out | refine below_set ?_ GE227.out | refine below_set ?_ GE231.out | refine below_set ?_ GE235.out) | exact HB.out)⟩⟩
          · rw [if_neg c52] at H
            have c52b0 : (t230 == 0) = false := beq_eq_false_iff_ne.mpr c52
            have c52b1 : (t230 != 0) = true := bne_iff_ne.mpr c52
            by_cases c53 : t222 = 14
            · rw [if_pos c53] at H
              have c53b0 : (t222 == 14) = true := beq_iff_eq.mpr c53
              have c53b1 : (t222 != 14) = false := bne_eq_false_iff_eq.mpr c53
              clear c53
              have H' := Aside0.mk H
              clear H
              go_wp2
              go_meet
              case rel => exact ⟨_, ((t230 != 14)), (by first | rfl | (simp; done) | (simp [*]; done)), H', ⟨by first | omega | exact Nat.le_refl _⟩, ⟨by (with_reducible repeat first | apply bN_ | apply bD_ | apply bA_); refine blk_far ?_ NB218_235.out _; (with_reducible repeat first | apply bN_ | apply bD_ | apply bA_); refine blk_far ?_ NB218_235.out _; (with_reducible repeat first | apply bN_ | apply bD_ | apply bA_); exact BK218.out⟩, ⟨by (with_reducible repeat first | apply bN_ | apply bD_ | apply bA_); refine blk_far ?_ NB219_235.out _; (with_reducible repeat first | apply bN_ | apply bD_ | apply bA_); refine blk_far ?_ NB219_235.out _; (with_reducible repeat first | apply bN_ | apply bD_ | apply bA_); exact BK219.out⟩, ⟨by (with_reducible repeat first | apply bN_ | apply bD_ | apply bA_); refine blk_far ?_ NB223_235.out _; (with_reducible repeat first | apply bN_ | apply bD_ | apply bA_); refine blk_far ?_ NB223_235.out _; (with_reducible repeat first | apply bN_ | apply bD_ | apply bA_); exact BK223.out⟩, ⟨by (with_reducible repeat first | apply bN_ | apply bD_ | apply bA_); refine blk_far ?_ NB227_235.out _; (with_reducible repeat first | apply bN_ | apply bD_ | apply bA_); refine blk_far ?_ NB227_235.out _; (with_reducible repeat first | apply bN_ | apply bD_ | apply bA_); exact BK227.out⟩, ⟨by (with_reducible repeat first | apply bN_ | apply bD_ | apply bA_); refine blk_far ?_ NB231_235.out _; (with_reducible repeat first | apply bN_ | apply bD_ | apply bA_); refine blk_far ?_ NB231_235.out _; (with_reducible repeat first | apply bN_ | apply bD_ | apply bA_); exact BK231.out⟩, ⟨by (with_reducible repeat first | apply bN_ | apply bD_ | apply bA_); refine blk_put (cs := #[.int .i64 t232, .int .u64 0]) ?_ 1 _ rfl; (with_reducible repeat first | apply bN_ | apply bD_ | apply bA_); refine blk_put (cs := #[.int .i64 0, .int .u64 0]) ?_ 0 _ rfl; (with_reducible repeat first | apply bN_ | apply bD_ | apply bA_); exact BK235.out⟩, ⟨by repeat (first | (with_reducible first | exact HB.out | apply below_alloc | apply pw_below_drewN | apply below_drew1 | refine below_set ?_ GE218.out | refine below_set ?_ GE219.out | refine below_set ?_ GE223.out | refine below_set ?_ GE227.out | refine below_set ?_ GE231.out | refine below_set ?_ GE235.out) | exact HB.out)⟩⟩
            · rw [if_neg c53] at H
              have c53b0 : (t222 == 14) = false := beq_eq_false_iff_ne.mpr c53
              have c53b1 : (t222 != 14) = true := bne_iff_ne.mpr c53
              have H' := Aside0.mk H
              clear H
              go_wp2
              go_meet
              case rel => exact ⟨_, (true), (by first | rfl | (simp; done) | (simp [*]; done)), H', ⟨by first | omega | exact Nat.le_refl _⟩, ⟨by (with_reducible repeat first | apply bN_ | apply bD_ | apply bA_); refine blk_far ?_ NB218_235.out _; (with_reducible repeat first | apply bN_ | apply bD_ | apply bA_); refine blk_far ?_ NB218_235.out _; (with_reducible repeat first | apply bN_ | apply bD_ | apply bA_); exact BK218.out⟩, ⟨by (with_reducible repeat first | apply bN_ | apply bD_ | apply bA_); refine blk_far ?_ NB219_235.out _; (with_reducible repeat first | apply bN_ | apply bD_ | apply bA_); refine blk_far ?_ NB219_235.out _; (with_reducible repeat first | apply bN_ | apply bD_ | apply bA_); exact BK219.out⟩, ⟨by (with_reducible repeat first | apply bN_ | apply bD_ | apply bA_); refine blk_far ?_ NB223_235.out _; (with_reducible repeat first | apply bN_ | apply bD_ | apply bA_); refine blk_far ?_ NB223_235.out _; (with_reducible repeat first | apply bN_ | apply bD_ | apply bA_); exact BK223.out⟩, ⟨by (with_reducible repeat first | apply bN_ | apply bD_ | apply bA_); refine blk_far ?_ NB227_235.out _; (with_reducible repeat first | apply bN_ | apply bD_ | apply bA_); refine blk_far ?_ NB227_235.out _; (with_reducible repeat first | apply bN_ | apply bD_ | apply bA_); exact BK227.out⟩, ⟨by (with_reducible repeat first | apply bN_ | apply bD_ | apply bA_); refine blk_far ?_ NB231_235.out _; (with_reducible repeat first | apply bN_ | apply bD_ | apply bA_); refine blk_far ?_ NB231_235.out _; (with_reducible repeat first | apply bN_ | apply bD_ | apply bA_); exact BK231.out⟩, ⟨by (with_reducible repeat first | apply bN_ | apply bD_ | apply bA_); refine blk_put (cs := #[.int .i64 t232, .int .u64 0]) ?_ 1 _ rfl; (with_reducible repeat first | apply bN_ | apply bD_ | apply bA_); refine blk_put (cs := #[.int .i64 0, .int .u64 0]) ?_ 0 _ rfl; (with_reducible repeat first | apply bN_ | apply bD_ | apply bA_); exact BK235.out⟩, ⟨by repeat (first | (with_reducible first | exact HB.out | apply below_alloc | apply pw_below_drewN | apply below_drew1 | refine below_set ?_ GE218.out | refine below_set ?_ GE219.out | refine below_set ?_ GE223.out | refine below_set ?_ GE227.out | refine below_set ?_ GE231.out | refine below_set ?_ GE235.out) | exact HB.out)⟩⟩
  case rest =>
    clear HC7
    try clear c1
    try clear c2
    try clear p2
    try clear c3
    try clear c4
    try clear c5
    try clear c10
    try clear c11
    try clear c15
    try clear c16
    try clear c17
    try clear c18
    try clear c19
    try clear c22
    try clear c23
    try clear c24
    try clear c29
    try clear c30
    try clear c31
    try clear c32
    try clear c37
    try clear c38
    try clear c39
    try clear c40
    try clear c41
    try clear c43
    try clear c44
    try clear c44b0
    try clear c44b1
    try clear c45
    try clear c46
    try clear c46b0
    try clear c46b1
    try clear c47
    try clear c47b0
    try clear c47b1
    try clear c48
    try clear c48b0
    try clear c48b1
    try clear c49
    try clear c50
    try clear c50b0
    try clear c50b1
    try clear c51
    try clear c51b0
    try clear c51b1
    try clear c52
    try clear c52b0
    try clear c52b1
    try clear c53
    try clear c53b0
    try clear c53b1
    try clear hcz11_0
    try clear hcz11_1
    try clear hcz12_0
    try clear hcz12_1
    try clear hcz17_0
    try clear hcz17_1
    try clear hcz18_0
    try clear hcz18_1
    try clear hcz19_0
    try clear hcz19_1
    try clear hcz25_0
    try clear hcz25_1
    try clear hcz26_0
    try clear hcz26_1
    try clear hcz33_0
    try clear hcz33_1
    try clear hcz34_0
    try clear hcz34_1
    try clear hcz42_0
    try clear hcz42_1
    try clear hfz11_0
    try clear hfz11_1
    try clear hfz12_0
    try clear hfz12_1
    try clear hfz17_0
    try clear hfz17_1
    try clear hfz18_0
    try clear hfz18_1
    try clear hfz19_0
    try clear hfz19_1
    try clear hfz25_0
    try clear hfz25_1
    try clear hfz26_0
    try clear hfz26_1
    try clear hfz33_0
    try clear hfz33_1
    try clear hfz34_0
    try clear hfz34_1
    try clear hfz42_0
    try clear hfz42_1
    obtain ⟨kq, x60_6, rfl, HA, HJ6, BK218, BK219, BK223, BK227, BK231, BK235, HB⟩ := hcut
    cases kq with
    | zero => exact absurd HA.out (by simp [corollarylaw02_WideAdds.j0])
    | succ kj6 =>
      have H := HA.out
      clear HA
      simp only [corollarylaw02_WideAdds.j0] at H
      by_cases c54 : x60_6 = true
      · subst c54
        have H1 : (some false) = some r := by rw [if_pos rfl] at H; exact H
        clear H
        have H := H1
        clear H1
        obtain rfl := Option.some.inj H
        go_wp2
        go_ret
        exact ⟨by first | rfl | (simp [errW_none, errW_some] <;> rfl) | (simp [*, errW_none, errW_some] <;> rfl), by repeat (first | (with_reducible first | exact HB.out | apply below_alloc | apply pw_below_drewN | apply below_drew1 | refine below_set ?_ GE218.out | refine below_set ?_ GE219.out | refine below_set ?_ GE223.out | refine below_set ?_ GE227.out | refine below_set ?_ GE231.out | refine below_set ?_ GE235.out) | exact HB.out)⟩
      · replace c54 := Bool.eq_false_iff.mpr c54
        subst c54
        have H1 : (if (t220 == t224 && (t221 == t225)) = true then (if (t228 == t232 && (t229 == t233)) = true then ((corollarylaw02_awake.f kj6).bind fun t236 => (some t236)) else (some false)) else (some false)) = some r := by rw [if_neg (show ¬ (false = true) by decide)] at H; exact H
        clear H
        have H := H1
        clear H1
        by_cases c55 : (t220 == t224 && (t221 == t225)) = true
        · rw [if_pos c55] at H
          have c55b0 : (t220 == t224 && (t221 == t225)) = true := c55
          (try (have c55b1 : decide (t220 = t224 && (t221 == t225)) = true := by simpa using c55))
          (try (have c55b2 : (t220 == t224 && (t221 == t225)) = true := by simpa using c55))
          clear c55
          by_cases c56 : (t228 == t232 && (t229 == t233)) = true
          · rw [if_pos c56] at H
            have c56b0 : (t228 == t232 && (t229 == t233)) = true := c56
            (try (have c56b1 : decide (t228 = t232 && (t229 == t233)) = true := by simpa using c56))
            (try (have c56b2 : (t228 == t232 && (t229 == t233)) = true := by simpa using c56))
            clear c56
            replace H := Option.bind_eq_some_iff.mp H
            obtain ⟨t236, A570, H⟩ := H
            replace H : (some t236) = some r := H
            have A57 := Aside0.mk A570
            clear A570
            obtain rfl := Option.some.inj H
            have hnb58 := NB223_218.out
            have hnc58 := NB218_223.out
            have hnb59 := NB223_219.out
            have hnc59 := NB219_223.out
            have hnb60 := NB223_227.out
            have hnc60 := NB227_223.out
            have hnb61 := NB223_231.out
            have hnc61 := NB231_223.out
            have hnb62 := NB223_235.out
            have hnc62 := NB235_223.out
            have hcz63_0 : wc.cell? ⟨gb223, 0, none⟩ = some (.int .i64 t220) := (blk_cell BK223.out 0).trans rfl
            have hcz63_1 : wc.cell? ⟨gb223, 1, none⟩ = some (.int .u64 t221) := (blk_cell BK223.out 1).trans rfl
            have hfz63_0 := blk_frozen BK223.out 0
            have hfz63_1 := blk_frozen BK223.out 1
            have hnb64 := NB227_218.out
            have hnc64 := NB218_227.out
            have hnb65 := NB227_219.out
            have hnc65 := NB219_227.out
            have hnb66 := NB227_231.out
            have hnc66 := NB231_227.out
            have hnb67 := NB227_235.out
            have hnc67 := NB235_227.out
            have hcz68_0 : wc.cell? ⟨gb227, 0, none⟩ = some (.int .i64 t224) := (blk_cell BK227.out 0).trans rfl
            have hcz68_1 : wc.cell? ⟨gb227, 1, none⟩ = some (.int .u64 t225) := (blk_cell BK227.out 1).trans rfl
            have hfz68_0 := blk_frozen BK227.out 0
            have hfz68_1 := blk_frozen BK227.out 1
            have hnb69 := NB231_218.out
            have hnc69 := NB218_231.out
            have hnb70 := NB231_219.out
            have hnc70 := NB219_231.out
            have hnb71 := NB231_235.out
            have hnc71 := NB235_231.out
            have hcz72_0 : wc.cell? ⟨gb231, 0, none⟩ = some (.int .i64 t228) := (blk_cell BK231.out 0).trans rfl
            have hcz72_1 : wc.cell? ⟨gb231, 1, none⟩ = some (.int .u64 t229) := (blk_cell BK231.out 1).trans rfl
            have hfz72_0 := blk_frozen BK231.out 0
            have hfz72_1 := blk_frozen BK231.out 1
            have hnb73 := NB235_218.out
            have hnc73 := NB218_235.out
            have hnb74 := NB235_219.out
            have hnc74 := NB219_235.out
            have hcz75_0 : wc.cell? ⟨gb235, 0, none⟩ = some (.int .i64 t232) := (blk_cell BK235.out 0).trans rfl
            have hcz75_1 : wc.cell? ⟨gb235, 1, none⟩ = some (.int .u64 t233) := (blk_cell BK235.out 1).trans rfl
            have hfz75_0 := blk_frozen BK235.out 0
            have hfz75_1 := blk_frozen BK235.out 1
            go_wp2_with (first | (go_at_call 10; (with_reducible refine (corollarylaw02_awake.calls kj6  t236 _ A57.out).mono ?_); rintro e w76 ⟨rfl, hb⟩; have n0_ := Aside0.mk (blk_below (g := gb218) (o := .cells #[.int .i64 a0_0, .int .u64 a0_1] 26 (0, 0)) (by (with_reducible repeat first | apply bN_ | apply bD_ | apply bA_); exact BK218.out) hb); have n1_ := Aside0.mk (blk_below (g := gb219) (o := .cells #[.int .i64 a1_0, .int .u64 a1_1] 26 (0, 0)) (by (with_reducible repeat first | apply bN_ | apply bD_ | apply bA_); exact BK219.out) hb); have n2_ := Aside0.mk (blk_below (g := gb223) (o := .cells #[.int .i64 t220, .int .u64 t221] 26 (0, 0)) (by (with_reducible repeat first | apply bN_ | apply bD_ | apply bA_); exact BK223.out) hb); have n3_ := Aside0.mk (blk_below (g := gb227) (o := .cells #[.int .i64 t224, .int .u64 t225] 26 (0, 0)) (by (with_reducible repeat first | apply bN_ | apply bD_ | apply bA_); exact BK227.out) hb); have n4_ := Aside0.mk (blk_below (g := gb231) (o := .cells #[.int .i64 t228, .int .u64 t229] 26 (0, 0)) (by (with_reducible repeat first | apply bN_ | apply bD_ | apply bA_); exact BK231.out) hb); have n5_ := Aside0.mk (blk_below (g := gb235) (o := .cells #[.int .i64 t232, .int .u64 t233] 26 (0, 0)) (by (with_reducible repeat first | apply bN_ | apply bD_ | apply bA_); exact BK235.out) hb); have n6_ := Aside0.mk (below_step (by repeat (first | (with_reducible first | exact HB.out | apply below_alloc | apply pw_below_drewN | apply below_drew1 | refine below_set ?_ GE218.out | refine below_set ?_ GE219.out | refine below_set ?_ GE223.out | refine below_set ?_ GE227.out | refine below_set ?_ GE231.out | refine below_set ?_ GE235.out) | exact HB.out)) hb); clear BK218; clear BK219; clear BK223; clear BK227; clear BK231; clear BK235; clear HB; have BK218 := n0_; have BK219 := n1_; have BK223 := n2_; have BK227 := n3_; have BK231 := n4_; have BK235 := n5_; have HB := n6_; clear n0_ n1_ n2_ n3_ n4_ n5_ n6_; (try clear hb); (try clear hb2); (try clear hk); (try clear hi)))
            go_ret
            exact ⟨by first | rfl | (simp [errW_none, errW_some] <;> rfl) | (simp [*, errW_none, errW_some] <;> rfl), by repeat (first | (with_reducible first | exact HB.out | apply below_alloc | apply pw_below_drewN | apply below_drew1 | refine below_set ?_ GE218.out | refine below_set ?_ GE219.out | refine below_set ?_ GE223.out | refine below_set ?_ GE227.out | refine below_set ?_ GE231.out | refine below_set ?_ GE235.out) | exact HB.out)⟩
          · rw [if_neg c56] at H
            have c56b0 : (t228 == t232 && (t229 == t233)) = false := by simpa using c56
            (try (have c56b1 : decide (t228 = t232 && (t229 == t233)) = false := by simpa using c56))
            (try (have c56b2 : (t228 == t232 && (t229 == t233)) = false := by simpa using c56))
            (try (have c56b3 : ¬ (t228 = t232 && (t229 == t233)) := by simpa using c56))
            clear c56
            obtain rfl := Option.some.inj H
            have hnb77 := NB223_218.out
            have hnc77 := NB218_223.out
            have hnb78 := NB223_219.out
            have hnc78 := NB219_223.out
            have hnb79 := NB223_227.out
            have hnc79 := NB227_223.out
            have hnb80 := NB223_231.out
            have hnc80 := NB231_223.out
            have hnb81 := NB223_235.out
            have hnc81 := NB235_223.out
            have hcz82_0 : wc.cell? ⟨gb223, 0, none⟩ = some (.int .i64 t220) := (blk_cell BK223.out 0).trans rfl
            have hcz82_1 : wc.cell? ⟨gb223, 1, none⟩ = some (.int .u64 t221) := (blk_cell BK223.out 1).trans rfl
            have hfz82_0 := blk_frozen BK223.out 0
            have hfz82_1 := blk_frozen BK223.out 1
            have hnb83 := NB227_218.out
            have hnc83 := NB218_227.out
            have hnb84 := NB227_219.out
            have hnc84 := NB219_227.out
            have hnb85 := NB227_231.out
            have hnc85 := NB231_227.out
            have hnb86 := NB227_235.out
            have hnc86 := NB235_227.out
            have hcz87_0 : wc.cell? ⟨gb227, 0, none⟩ = some (.int .i64 t224) := (blk_cell BK227.out 0).trans rfl
            have hcz87_1 : wc.cell? ⟨gb227, 1, none⟩ = some (.int .u64 t225) := (blk_cell BK227.out 1).trans rfl
            have hfz87_0 := blk_frozen BK227.out 0
            have hfz87_1 := blk_frozen BK227.out 1
            have hnb88 := NB231_218.out
            have hnc88 := NB218_231.out
            have hnb89 := NB231_219.out
            have hnc89 := NB219_231.out
            have hnb90 := NB231_235.out
            have hnc90 := NB235_231.out
            have hcz91_0 : wc.cell? ⟨gb231, 0, none⟩ = some (.int .i64 t228) := (blk_cell BK231.out 0).trans rfl
            have hcz91_1 : wc.cell? ⟨gb231, 1, none⟩ = some (.int .u64 t229) := (blk_cell BK231.out 1).trans rfl
            have hfz91_0 := blk_frozen BK231.out 0
            have hfz91_1 := blk_frozen BK231.out 1
            have hnb92 := NB235_218.out
            have hnc92 := NB218_235.out
            have hnb93 := NB235_219.out
            have hnc93 := NB219_235.out
            have hcz94_0 : wc.cell? ⟨gb235, 0, none⟩ = some (.int .i64 t232) := (blk_cell BK235.out 0).trans rfl
            have hcz94_1 : wc.cell? ⟨gb235, 1, none⟩ = some (.int .u64 t233) := (blk_cell BK235.out 1).trans rfl
            have hfz94_0 := blk_frozen BK235.out 0
            have hfz94_1 := blk_frozen BK235.out 1
            go_wp2
            go_ret
            exact ⟨by first | rfl | (simp [errW_none, errW_some] <;> rfl) | (simp [*, errW_none, errW_some] <;> rfl), by repeat (first | (with_reducible first | exact HB.out | apply below_alloc | apply pw_below_drewN | apply below_drew1 | refine below_set ?_ GE218.out | refine below_set ?_ GE219.out | refine below_set ?_ GE223.out | refine below_set ?_ GE227.out | refine below_set ?_ GE231.out | refine below_set ?_ GE235.out) | exact HB.out)⟩
        · rw [if_neg c55] at H
          have c55b0 : (t220 == t224 && (t221 == t225)) = false := by simpa using c55
          (try (have c55b1 : decide (t220 = t224 && (t221 == t225)) = false := by simpa using c55))
          (try (have c55b2 : (t220 == t224 && (t221 == t225)) = false := by simpa using c55))
          (try (have c55b3 : ¬ (t220 = t224 && (t221 == t225)) := by simpa using c55))
          clear c55
          obtain rfl := Option.some.inj H
          have hnb95 := NB223_218.out
          have hnc95 := NB218_223.out
          have hnb96 := NB223_219.out
          have hnc96 := NB219_223.out
          have hnb97 := NB223_227.out
          have hnc97 := NB227_223.out
          have hnb98 := NB223_231.out
          have hnc98 := NB231_223.out
          have hnb99 := NB223_235.out
          have hnc99 := NB235_223.out
          have hcz100_0 : wc.cell? ⟨gb223, 0, none⟩ = some (.int .i64 t220) := (blk_cell BK223.out 0).trans rfl
          have hcz100_1 : wc.cell? ⟨gb223, 1, none⟩ = some (.int .u64 t221) := (blk_cell BK223.out 1).trans rfl
          have hfz100_0 := blk_frozen BK223.out 0
          have hfz100_1 := blk_frozen BK223.out 1
          have hnb101 := NB227_218.out
          have hnc101 := NB218_227.out
          have hnb102 := NB227_219.out
          have hnc102 := NB219_227.out
          have hnb103 := NB227_231.out
          have hnc103 := NB231_227.out
          have hnb104 := NB227_235.out
          have hnc104 := NB235_227.out
          have hcz105_0 : wc.cell? ⟨gb227, 0, none⟩ = some (.int .i64 t224) := (blk_cell BK227.out 0).trans rfl
          have hcz105_1 : wc.cell? ⟨gb227, 1, none⟩ = some (.int .u64 t225) := (blk_cell BK227.out 1).trans rfl
          have hfz105_0 := blk_frozen BK227.out 0
          have hfz105_1 := blk_frozen BK227.out 1
          go_wp2
          go_ret
          exact ⟨by first | rfl | (simp [errW_none, errW_some] <;> rfl) | (simp [*, errW_none, errW_some] <;> rfl), by repeat (first | (with_reducible first | exact HB.out | apply below_alloc | apply pw_below_drewN | apply below_drew1 | refine below_set ?_ GE218.out | refine below_set ?_ GE219.out | refine below_set ?_ GE223.out | refine below_set ?_ GE227.out | refine below_set ?_ GE231.out | refine below_set ?_ GE235.out) | exact HB.out)⟩

end Go.Proofs.Ytipcggfabjfobaa.P
