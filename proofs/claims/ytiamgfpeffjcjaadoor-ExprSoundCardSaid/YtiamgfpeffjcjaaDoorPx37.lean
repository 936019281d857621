-- Written by our own program (wip/xprint) over the seat's translation. Lean checks it.
import Derived.Test.YtiamgfpeffjcjaaDoorPx0
import Derived.Test.YtiamgfpeffjcjaaDoorPx3
import Derived.Test.YtiamgfpeffjcjaaDoorPx33
namespace Go.Proofs.YtiamgfpeffjcjaaDoor.P
open Go.RowKit Go.Proofs.YtiamgfpeffjcjaaDoorW.PrintWords Go.Proofs.YtiamgfpeffjcjaaDoorW.PrintLast Go.Proofs.YtiamgfpeffjcjaaDoorW.PrintMore
attribute [local go_sem] max2_int min2_int max_two min_two max_three min_three max_four min_four   -- for this text's walks alone
set_option linter.unusedVariables false
set_option linter.unusedSimpArgs false


/-! ### expr_Eval: function 12 -/
mutual
def expr_Eval.j0 : Nat → List (S39) → List (S31) → Bool → Option (Int × Int × ByteArray × Int)
  | 0, _, _, _ => none
  | k + 1, x0, x1, x22 => if x22 = true then (some (0, 0, (⟨#[]⟩ : ByteArray), 1)) else (expr_Eval.j1 k x0 x1)
def expr_Eval.j1 : Nat → List (S39) → List (S31) → Option (Int × Int × ByteArray × Int)
  | 0, _, _ => none
  | k + 1, x0, x1 => expr_Eval.l0 k x1 ([] : List (S31)) x0 (x0.length : Int) 0
def expr_Eval.l0 : Nat → List (S31) → List (S31) → List (S39) → Int → Int → Option (Int × Int × ByteArray × Int)
  | 0, _, _, _, _, _ => none
  | k + 1, x1, x6, x24, x25, x26 => if x26 < x25 then (expr_Eval.j3 k x1 x6 x24 x25 x26) else (if 0 < (x6.length : Int) then (some ((rd_T31 x6 0).f0, (rd_T31 x6 0).f1, (rd_T31 x6 0).f2, 0)) else (none))
def expr_Eval.j3 : Nat → List (S31) → List (S31) → List (S39) → Int → Int → Option (Int × Int × ByteArray × Int)
  | 0, _, _, _, _, _ => none
  | k + 1, x1, x6, x24, x25, x26 => if 0 ≤ x26 then (if x26 < (x24.length : Int) then (if ((rd_T39 x24 x26).f0) = 1 then (if 0 ≤ ((rd_T39 x24 x26).f1) then (if ((rd_T39 x24 x26).f1) < (x1.length : Int) then (if x6.length < 4398046511104 then (expr_Eval.l0 k x1 (x6 ++ [(⟨(rd_T31 x1 ((rd_T39 x24 x26).f1)).f0, (rd_T31 x1 ((rd_T39 x24 x26).f1)).f1, (rd_T31 x1 ((rd_T39 x24 x26).f1)).f2⟩ : S31)]) x24 x25 (wrap64 (x26 + 1))) else (none)) else (none)) else (none)) else (if ((rd_T39 x24 x26).f0) = 2 then (if x6.length < 4398046511104 then (expr_Eval.l0 k x1 (x6 ++ [(⟨(rd_T39 x24 x26).f2.f0, (rd_T39 x24 x26).f2.f1, (rd_T39 x24 x26).f2.f2⟩ : S31)]) x24 x25 (wrap64 (x26 + 1))) else (none)) else (expr_Eval.j4 k x1 x6 x24 x25 x26 ((rd_T39 x24 x26).f0) ((rd_T39 x24 x26).f1) ((rd_T39 x24 x26).f2.f0) ((rd_T39 x24 x26).f2.f1) ((rd_T39 x24 x26).f2.f2)))) else (none)) else (none)
def expr_Eval.j4 : Nat → List (S31) → List (S31) → List (S39) → Int → Int → Int → Int → Int → Int → ByteArray → Option (Int × Int × ByteArray × Int)
  | 0, _, _, _, _, _, _, _, _, _, _ => none
  | k + 1, x1, x6, x24, x25, x26, x263000, x263001, x263002, x263003, x263004 => (expr_takes.f k x263000).bind fun t270 => (if 0 ≤ (wrap64 ((x6.length : Int) - t270)) then (if (wrap64 ((x6.length : Int) - t270)) < (x6.length : Int) then (if 0 ≤ (wrap64 ((x6.length : Int) - 1)) then (if (wrap64 ((x6.length : Int) - 1)) < (x6.length : Int) then ((expr_fits.f x263000 ((rd_T31 x6 (wrap64 ((x6.length : Int) - t270))).f0) ((rd_T31 x6 (wrap64 ((x6.length : Int) - 1))).f0)).bind fun t275 => (if t275 = true then (expr_Eval.j5 k x1 x6 (wrap64 ((x6.length : Int) - t270)) x24 x25 x26 x263000 x263001 x263002 x263003 x263004 ((rd_T31 x6 (wrap64 ((x6.length : Int) - t270))).f0) ((rd_T31 x6 (wrap64 ((x6.length : Int) - t270))).f1) ((rd_T31 x6 (wrap64 ((x6.length : Int) - t270))).f2) ((rd_T31 x6 (wrap64 ((x6.length : Int) - 1))).f0) ((rd_T31 x6 (wrap64 ((x6.length : Int) - 1))).f1) ((rd_T31 x6 (wrap64 ((x6.length : Int) - 1))).f2)) else (some (0, 0, (⟨#[]⟩ : ByteArray), 10)))) else (none)) else (none)) else (none)) else (none))
def expr_Eval.j5 : Nat → List (S31) → List (S31) → Int → List (S39) → Int → Int → Int → Int → Int → Int → ByteArray → Int → Int → ByteArray → Int → Int → ByteArray → Option (Int × Int × ByteArray × Int)
  | 0, _, _, _, _, _, _, _, _, _, _, _, _, _, _, _, _, _ => none
  | k + 1, x1, x6, x9, x24, x25, x26, x263000, x263001, x263002, x263003, x263004, x274000, x274001, x274002, x275000, x275001, x275002 => (expr_do.f k x263000 x274000 x274001 x274002 x275000 x275001 x275002).bind fun bt276 => (if bt276.2.2.2 = 0 then (if 0 ≤ x9 then (if x9 ≤ (x6.length : Int) then ((some (x6.take (x9 : Int).toNat : List (S31))).bind fun y281 => (if y281.length < 4398046511104 then (expr_Eval.l0 k x1 (y281 ++ [(⟨bt276.1, bt276.2.1, bt276.2.2.1⟩ : S31)]) x24 x25 (wrap64 (x26 + 1))) else (none))) else (none)) else (none)) else (some (0, 0, (⟨#[]⟩ : ByteArray), bt276.2.2.2)))
end
def expr_Eval.f (k : Nat) (l0 : List (S39)) (l1 : List (S31)) : Option (Int × Int × ByteArray × Int) := (api_Value_22_at_expr_Eval_1.f k l1).bind fun t258 => (if t258 = true then (expr_Eval.j0 k l0 l1 true) else ((expr_formed.f k l0 (l1.length : Int)).bind fun t259 => (expr_Eval.j0 k l0 l1 (!t259))))
theorem expr_Eval.mono_l : ∀ k, (∀ y0 y1 y2, LeO (expr_Eval.j0 k y0 y1 y2) (expr_Eval.j0 (k + 1) y0 y1 y2)) ∧ (∀ y0 y1, LeO (expr_Eval.j1 k y0 y1) (expr_Eval.j1 (k + 1) y0 y1)) ∧ (∀ y0 y1 y2 y3 y4, LeO (expr_Eval.l0 k y0 y1 y2 y3 y4) (expr_Eval.l0 (k + 1) y0 y1 y2 y3 y4)) ∧ (∀ y0 y1 y2 y3 y4, LeO (expr_Eval.j3 k y0 y1 y2 y3 y4) (expr_Eval.j3 (k + 1) y0 y1 y2 y3 y4)) ∧ (∀ y0 y1 y2 y3 y4 y5 y6 y7 y8 y9, LeO (expr_Eval.j4 k y0 y1 y2 y3 y4 y5 y6 y7 y8 y9) (expr_Eval.j4 (k + 1) y0 y1 y2 y3 y4 y5 y6 y7 y8 y9)) ∧ (∀ y0 y1 y2 y3 y4 y5 y6 y7 y8 y9 y10 y11 y12 y13 y14 y15 y16, LeO (expr_Eval.j5 k y0 y1 y2 y3 y4 y5 y6 y7 y8 y9 y10 y11 y12 y13 y14 y15 y16) (expr_Eval.j5 (k + 1) y0 y1 y2 y3 y4 y5 y6 y7 y8 y9 y10 y11 y12 y13 y14 y15 y16))
  | 0 => ⟨fun _ _ _ r h => by simp [expr_Eval.j0] at h, fun _ _ r h => by simp [expr_Eval.j1] at h, fun _ _ _ _ _ r h => by simp [expr_Eval.l0] at h, fun _ _ _ _ _ r h => by simp [expr_Eval.j3] at h, fun _ _ _ _ _ _ _ _ _ _ r h => by simp [expr_Eval.j4] at h, fun _ _ _ _ _ _ _ _ _ _ _ _ _ _ _ _ _ r h => by simp [expr_Eval.j5] at h⟩
  | k + 1 => by
    obtain ⟨ih0, ih1, ih2, ih3, ih4, ih5⟩ := expr_Eval.mono_l k
    refine ⟨?_, ?_, ?_, ?_, ?_, ?_⟩
    all_goals intros
    all_goals first
      | unfold expr_Eval.j0
      | unfold expr_Eval.j1
      | unfold expr_Eval.l0
      | unfold expr_Eval.j3
      | unfold expr_Eval.j4
      | unfold expr_Eval.j5
    all_goals repeat' first
      | (with_reducible exact ih0 _ _ _)
      | (with_reducible exact ih1 _ _)
      | (with_reducible exact ih2 _ _ _ _ _)
      | (with_reducible exact ih3 _ _ _ _ _)
      | (with_reducible exact ih4 _ _ _ _ _ _ _ _ _ _)
      | (with_reducible exact ih5 _ _ _ _ _ _ _ _ _ _ _ _ _ _ _ _ _)
      | (with_reducible exact api_Value_22_at_expr_Eval_1.mono _ _)
      | (with_reducible exact expr_do.mono _ _ _ _ _ _ _ _)
      | (with_reducible exact expr_formed.mono _ _ _)
      | (with_reducible exact expr_takes.mono _ _)
      | (with_reducible exact LeO.refl _)
      | (with_reducible exact LeO.none _)
      | (with_reducible refine LeO.ite ?_ ?_)
      | (with_reducible refine LeO.bind ?_ (fun _ => ?_))
      | exact ih0 _ _ _
      | exact ih1 _ _
      | exact ih2 _ _ _ _ _
      | exact ih3 _ _ _ _ _
      | exact ih4 _ _ _ _ _ _ _ _ _ _
      | exact ih5 _ _ _ _ _ _ _ _ _ _ _ _ _ _ _ _ _
      | exact api_Value_22_at_expr_Eval_1.mono _ _
      | exact expr_do.mono _ _ _ _ _ _ _ _
      | exact expr_formed.mono _ _ _
      | exact expr_takes.mono _ _
      | exact LeO.none _
      | refine LeO.ite ?_ ?_
      | refine LeO.bind ?_ (fun _ => ?_)
theorem expr_Eval.mono : ∀ a0 a1 k, LeO (expr_Eval.f k a0 a1) (expr_Eval.f (k + 1) a0 a1) := by
  intro a0 a1 k
  obtain ⟨ih0, ih1, ih2, ih3, ih4, ih5⟩ := expr_Eval.mono_l k
  unfold expr_Eval.f
  repeat' first
      | (with_reducible exact ih0 _ _ _)
      | (with_reducible exact ih1 _ _)
      | (with_reducible exact ih2 _ _ _ _ _)
      | (with_reducible exact ih3 _ _ _ _ _)
      | (with_reducible exact ih4 _ _ _ _ _ _ _ _ _ _)
      | (with_reducible exact ih5 _ _ _ _ _ _ _ _ _ _ _ _ _ _ _ _ _)
      | (with_reducible exact api_Value_22_at_expr_Eval_1.mono _ _)
      | (with_reducible exact expr_do.mono _ _ _ _ _ _ _ _)
      | (with_reducible exact expr_formed.mono _ _ _)
      | (with_reducible exact expr_takes.mono _ _)
      | (with_reducible exact LeO.refl _)
      | (with_reducible exact LeO.none _)
      | (with_reducible refine LeO.ite ?_ ?_)
      | (with_reducible refine LeO.bind ?_ (fun _ => ?_))
      | exact ih0 _ _ _
      | exact ih1 _ _
      | exact ih2 _ _ _ _ _
      | exact ih3 _ _ _ _ _
      | exact ih4 _ _ _ _ _ _ _ _ _ _
      | exact ih5 _ _ _ _ _ _ _ _ _ _ _ _ _ _ _ _ _
      | exact api_Value_22_at_expr_Eval_1.mono _ _
      | exact expr_do.mono _ _ _ _ _ _ _ _
      | exact expr_formed.mono _ _ _
      | exact expr_takes.mono _ _
      | exact LeO.none _
      | refine LeO.ite ?_ ?_
      | refine LeO.bind ?_ (fun _ => ?_)
def expr_Eval.T13 : Bool × List (List Nat × List Nat) := (true, [([], []), ([], []), ([0, 1], [0, 1]), ([2], [2]), ([], []), ([], []), ([5], [5]), ([6], [6]), ([4, 7], [4, 7]), ([8], [8]), ([], []), ([], []), ([10, 3, 0, 1, 2, 3, 10, 11], [3, 10]), ([11, 9, 12, 0, 1, 2, 3, 4, 5, 6, 7, 8, 9, 10, 11, 12], [9, 11])])
def expr_Eval.B13 : List Nat := [0, 0, 3, 7, 0, 0, 32, 96, 240, 496, 0, 0, 3087, 8191]
theorem expr_Eval.tab13 : rtab .any (opsOf Tryd.f12 13) = expr_Eval.T13 := by kernel_rfl
theorem expr_Eval.bits13 : waitsOk expr_Eval.T13.2 expr_Eval.B13 = true := by kernel_rfl
set_option maxHeartbeats 8000000 in
set_option maxRecDepth 100000 in
theorem expr_Eval.calls (k : Nat) (A0 : Option Addr) (c0 : Nat) (l0 : List (S39)) (A1 : Option Addr) (c1 : Nat) (l1 : List (S31)) (r1 : Int) (r2 : Int) (r3 : ByteArray) (r4 : Int) (w : World) (hr0 : Kd.C k39 w A0 l0.length l0) (hc0 : l0.length ≤ c0) (hr1 : Kd.C k31 w A1 l1.length l1) (hc1 : l1.length ≤ c1) (h : expr_Eval.f k l0 l1 = some (r1, r2, r3, r4)) (hG : Glob w) :
    Calls Tryd.prog 12 #[.slice A0 l0.length c0, .slice A1 l1.length c1] w fun e w' => e = .returned (.tuple #[.agg #[.int .i64 r1, .int .i64 r2, .string r3], .int .i64 r4]) ∧ Below w.heap.size w w' := by
  have hu31 := Tryd.underlying31
  have hu39 := Tryd.underlying39
  have HG := Aside0.mk hG
  clear hG
  have HR0 := Aside0.mk hr0
  have HC0 := Aside0.mk hc0
  clear hr0 hc0
  have HR1 := Aside0.mk hr1
  have HC1 := Aside0.mk hc1
  clear hr1 hc1
  have HB := Aside0.mk (Below.refl w.heap.size w)
  have H : ((api_Value_22_at_expr_Eval_1.f k l1).bind fun t258 => (if t258 = true then (expr_Eval.j0 k l0 l1 true) else ((expr_formed.f k l0 (l1.length : Int)).bind fun t259 => (expr_Eval.j0 k l0 l1 (!t259))))) = some (r1, r2, r3, r4) := h
  clear h
  have HC3 := Aside0.mk H
  clear H
  go_enter Tryd.func12, Tryd.ntmps12
  go_upto_region 1 with (first | ((with_reducible refine gate_dst (N := 4) rfl ?_); (try (refine gate_guard (by rfl) ?_; dsimp only)); refine box_event ?hg (N := 4) ?hd (cs := #[.int .i64 0, .int .i64 0, .string (⟨#[]⟩ : ByteArray)]) (t := 31) ?hr ?_; (case hd => rfl); (case hg => rfl); (case hr => first | (go_simp; done) | (go_simp; rfl)); intro gb257 hg w4 hbox hb; have n0_ := Aside0.mk (below_step q0_ hb); have n1_ := Aside0.mk (hbox); have n2_ := Aside0.mk ((q1_ : w.heap.size ≤ gb257)); have n3_ := Aside0.mk ((q1_ : w.heap.size ≤ gb257)); clear HB; have HB := n0_; have BK257 := n1_; have GW257 := n2_; have GE257 := n3_; clear n0_ n1_ n2_ n3_; clear hb hbox hg))
  (try simp only [Act.put, List.setIfInBounds_toArray, List.set_cons_zero, List.set_cons_succ])
  go_cut [22] (fun v22 wc => ∃ (kq : Nat) (x22_2 : Bool), v22 = .bool x22_2 ∧ Aside0 (expr_Eval.j0 kq l0 l1 x22_2 = some (r1, r2, r3, r4)) ∧ Aside0 (kq ≤ k) ∧ Aside0 (wc.heap[gb257]? = some (.cells #[.int .i64 0, .int .i64 0, .string (⟨#[]⟩ : ByteArray)] 31 (0, 0))) ∧ Aside0 (Below w.heap.size w wc))
  case first =>
    have H := HC3.out
    clear HC3
    replace H := Option.bind_eq_some_iff.mp H
    obtain ⟨t258, A50, H⟩ := H
    replace H : (if t258 = true then (expr_Eval.j0 k l0 l1 true) else ((expr_formed.f k l0 (l1.length : Int)).bind fun t259 => (expr_Eval.j0 k l0 l1 (!t259)))) = some (r1, r2, r3, r4) := H
    have A5 := Aside0.mk A50
    clear A50
    by_cases c6 : t258 = true
    · subst c6
      replace H := ifT_ H
      have H' := Aside0.mk H
      clear H
      go_wp2_with (first | ((with_reducible refine gate_callee (f := 22) rfl ?_); refine goesL_ (some 15) rfl rfl Tryd.func22 (by kernel_rfl) rfl #[.slice A1 l1.length c1, (.func (.func 23) #[] #[])] rfl q2_ ?_; (with_reducible refine (api_Value_22_at_expr_Eval_1.calls k _ _ l1  true _ ?side1 ?side2 A5.out q102_).mono ?_); (case side1 => repeat (first | exact (Kd.C_below HR1.out HB.out) | (with_reducible refine Kd.C_alloc ?_ _) | (with_reducible refine Kd.C_drewN ?_ _) | (with_reducible refine Kd.C_drew ?_))); (case side2 => exact HC1.out); rintro e w7 ⟨rfl, hb⟩; refine ⟨_, rfl, ?_⟩; have n0_ := Aside0.mk (blk_below (g := gb257) (o := .cells #[.int .i64 0, .int .i64 0, .string (⟨#[]⟩ : ByteArray)] 31 (0, 0)) q14_ hb); have n1_ := Aside0.mk (below_step q0_ hb); clear BK257; clear HB; have BK257 := n0_; have HB := n1_; clear n0_ n1_; (try clear hb); (try clear hb2); (try clear hk); (try clear hi)))
      go_meet
      case rel => exact ⟨_, (true), q7_, H', ⟨by first | omega | exact Nat.le_refl _⟩, ⟨q14_⟩, ⟨q0_⟩⟩
    · replace c6 := Bool.eq_false_iff.mpr c6
      subst c6
      replace H := ifF_ H
      replace H := Option.bind_eq_some_iff.mp H
      obtain ⟨t259, A80, H⟩ := H
      replace H : (expr_Eval.j0 k l0 l1 (!t259)) = some (r1, r2, r3, r4) := H
      have A8 := Aside0.mk A80
      clear A80
      have H' := Aside0.mk H
      clear H
      go_wp2_with (first | ((with_reducible refine gate_callee (f := 22) rfl ?_); refine goesL_ (some 15) rfl rfl Tryd.func22 (by kernel_rfl) rfl #[.slice A1 l1.length c1, (.func (.func 23) #[] #[])] rfl q2_ ?_; (with_reducible refine (api_Value_22_at_expr_Eval_1.calls k _ _ l1  false _ ?side1 ?side2 A5.out q102_).mono ?_); (case side1 => repeat (first | exact (Kd.C_below HR1.out HB.out) | (with_reducible refine Kd.C_alloc ?_ _) | (with_reducible refine Kd.C_drewN ?_ _) | (with_reducible refine Kd.C_drew ?_))); (case side2 => exact HC1.out); rintro e w9 ⟨rfl, hb⟩; refine ⟨_, rfl, ?_⟩; have n0_ := Aside0.mk (blk_below (g := gb257) (o := .cells #[.int .i64 0, .int .i64 0, .string (⟨#[]⟩ : ByteArray)] 31 (0, 0)) q14_ hb); have n1_ := Aside0.mk (below_step q0_ hb); clear BK257; clear HB; have BK257 := n0_; have HB := n1_; clear n0_ n1_; (try clear hb); (try clear hb2); (try clear hk); (try clear hi)) | (go_at_call 17; (with_reducible refine (expr_formed.calls k _ _ l0 (l1.length : Int) t259 _ ?side1 ?side2 A8.out q102_).mono ?_); (case side1 => repeat (first | exact (Kd.C_below HR0.out HB.out) | (with_reducible refine Kd.C_alloc ?_ _) | (with_reducible refine Kd.C_drewN ?_ _) | (with_reducible refine Kd.C_drew ?_))); (case side2 => exact HC0.out); rintro e w10 ⟨rfl, hb⟩; have n0_ := Aside0.mk (blk_below (g := gb257) (o := .cells #[.int .i64 0, .int .i64 0, .string (⟨#[]⟩ : ByteArray)] 31 (0, 0)) q14_ hb); have n1_ := Aside0.mk (below_step q0_ hb); clear BK257; clear HB; have BK257 := n0_; have HB := n1_; clear n0_ n1_; (try clear hb); (try clear hb2); (try clear hk); (try clear hi)))
      go_meet
      case rel => exact ⟨_, (!t259), q7_, H', ⟨by first | omega | exact Nat.le_refl _⟩, ⟨q14_⟩, ⟨q0_⟩⟩
  case rest =>
    clear HC3
    try clear c1
    try clear c2
    try clear p2
    try clear c6
    obtain ⟨kq, x22_2, rfl, HA, HJ2, BK257, HB⟩ := hcut
    cases kq with
    | zero => exact absurd HA.out (by simp [expr_Eval.j0])
    | succ kj2 =>
      have H := HA.out
      clear HA
      simp only [expr_Eval.j0] at H
      have HC11 := Aside0.mk H
      clear H
      go_upto_if 22 with (fail)
      go_cut [] (fun wc => ∃ (kq : Nat) (x258000_10 : Int) (x258001_10 : Int) (x258002_10 : ByteArray), Aside0 (expr_Eval.j1 kq l0 l1 = some (r1, r2, r3, r4)) ∧ Aside0 (kq ≤ kj2) ∧ Aside0 (wc.heap[gb257]? = some (.cells #[.int .i64 x258000_10, .int .i64 x258001_10, .string x258002_10] 31 (0, 0))) ∧ Aside0 (Below w.heap.size w wc))
      case first =>
        have H := HC11.out
        clear HC11
        by_cases c12 : x22_2 = true
        · subst c12
          replace H := ifT_ H
          simp only [Option.some.injEq, Prod.mk.injEq] at H
          obtain ⟨rfl, rfl, rfl, rfl⟩ := H
          have hcz13_0 : wc.cell? ⟨gb257, 0, none⟩ = some (.int .i64 0) := (blk_cell BK257.out 0).trans rfl
          have hcz13_1 : wc.cell? ⟨gb257, 1, none⟩ = some (.int .i64 0) := (blk_cell BK257.out 1).trans rfl
          have hcz13_2 : wc.cell? ⟨gb257, 2, none⟩ = some (.string (⟨#[]⟩ : ByteArray)) := (blk_cell BK257.out 2).trans rfl
          have hfz13_0 := blk_frozen BK257.out 0
          have hfz13_1 := blk_frozen BK257.out 1
          have hfz13_2 := blk_frozen BK257.out 2
          go_wp2
          refine bodyPost_ret (results_ct rfl _ _ gb257 31 #[.int .i64 0, .int .i64 0, .string (⟨#[]⟩ : ByteArray)] (0, 0) _ rfl (by (with_reducible repeat first | apply bN_ | apply bD_ | apply bA_); refine blk_put (cs := #[.int .i64 0, .int .i64 0, .string (⟨#[]⟩ : ByteArray)]) ?_ 2 _ rfl; (with_reducible repeat first | apply bN_ | apply bD_ | apply bA_); refine blk_put (cs := #[.int .i64 0, .int .i64 0, .string (⟨#[]⟩ : ByteArray)]) ?_ 1 _ rfl; (with_reducible repeat first | apply bN_ | apply bD_ | apply bA_); refine blk_put (cs := #[.int .i64 0, .int .i64 0, .string (⟨#[]⟩ : ByteArray)]) ?_ 0 _ rfl; (with_reducible repeat first | apply bN_ | apply bD_ | apply bA_); exact BK257.out) Tryd.underlying31 rfl (by kernel_rfl)) rfl ?_
          exact ⟨q4_, q0_⟩
        · replace c12 := Bool.eq_false_iff.mpr c12
          subst c12
          replace H := ifF_ H
          have H' := Aside0.mk H
          clear H
          go_wp2
          go_meet
          case rel => exact ⟨_, (0), (0), ((⟨#[]⟩ : ByteArray)), H', ⟨by have := HJ2.out; first | omega | exact Nat.le_refl _⟩, ⟨q14_⟩, ⟨q0_⟩⟩
      case rest =>
        clear HC11
        try clear c1
        try clear c2
        try clear p2
        try clear c6
        try clear c12
        try clear hcz13_0
        try clear hcz13_1
        try clear hcz13_2
        try clear hfz13_0
        try clear hfz13_1
        try clear hfz13_2
        try clear p2
        obtain ⟨kq, x258000_10, x258001_10, x258002_10, HA, HJ10, BK257, HB⟩ := hcut
        cases kq with
        | zero => exact absurd HA.out (by simp [expr_Eval.j1])
        | succ kj10 =>
          have H := HA.out
          clear HA
          simp only [expr_Eval.j1] at H
          have H' := Aside0.mk H
          clear H
          go_wp2
          go_loopg [6, 26] kj10 (fun kq v6 v26 w' => ∃ (x6_3 : List (S31)) (x26_3 : Int) (x258000_3 : Int) (x258001_3 : Int) (x258002_3 : ByteArray), v26 = .int .i64 x26_3 ∧ Aside0 (expr_Eval.l0 kq l1 x6_3 l0 (l0.length : Int) x26_3 = some (r1, r2, r3, r4)) ∧ Aside0 (kq ≤ kj10) ∧ Aside0 (Kd.R k31 31 w' w.heap.size (fun k_ => k_ ≠ gb257) v6 x6_3) ∧ Aside0 (w'.heap[gb257]? = some (.cells #[.int .i64 x258000_3, .int .i64 x258001_3, .string x258002_3] 31 (0, 0))) ∧ Aside0 (Below w.heap.size w w'))
          case atStart => exact ⟨(([] : List (S31))), (0), (x258000_10), (x258001_10), (x258002_10), q7_, H', ⟨Nat.le_refl _⟩, ⟨by first | exact Kd.R_nil _ _ _ _ _ | exact Kd.N_nil _ _ _ _ _ | exact Kd.V_nil _ _ _ _ _ | exact Kd.Q_nil _ _ _ _ _ | exact Kd.S_nil _ _ _ _ _⟩, ⟨q14_⟩, ⟨q0_⟩⟩
          case round =>
            clear H'
            try clear c1
            try clear c2
            try clear p2
            try clear c6
            try clear c12
            try clear hcz13_0
            try clear hcz13_1
            try clear hcz13_2
            try clear hfz13_0
            try clear hfz13_1
            try clear hfz13_2
            try clear p2
            obtain ⟨x6_3, x26_3, x258000_3, x258001_3, x258002_3, rfl, HA, HK3, HO_6, BK257, HB⟩ := hrel
            cases gk with
            | zero => exact absurd HA.out (by simp [expr_Eval.l0])
            | succ k3 =>
              have H := HA.out
              clear HA
              simp only [expr_Eval.l0] at H
              have HC14 := Aside0.mk H
              clear H
              go_upto_if 27 with (fail)
              go_cut [] (fun wc => ∃ (kq : Nat), Aside0 (expr_Eval.j3 kq l1 x6_3 l0 (l0.length : Int) x26_3 = some (r1, r2, r3, r4)) ∧ Aside0 (kq ≤ k3) ∧ Aside0 (Kd.R k31 31 wc w.heap.size (fun k_ => k_ ≠ gb257) u6 x6_3) ∧ Aside0 (wc.heap[gb257]? = some (.cells #[.int .i64 x258000_3, .int .i64 x258001_3, .string x258002_3] 31 (0, 0))) ∧ Aside0 (Below w.heap.size w wc))
              case first =>
                have H := HC14.out
                clear HC14
                by_cases c15 : x26_3 < (l0.length : Int)
                · rw [if_pos c15] at H
                  have c15b0 : decide (x26_3 < (l0.length : Int)) = true := decide_eq_true c15
                  clear c15
                  (first | rw [c15b0] | (simp only [i64_w, i32_w]; rw [c15b0]) | skip)
                  have H' := Aside0.mk H
                  clear H
                  go_wp2
                  go_meet
                  case rel => exact ⟨_, H', ⟨by have := HJ2.out; have := HJ10.out; have := HK3.out; first | omega | exact Nat.le_refl _⟩, ⟨q26_⟩, ⟨q14_⟩, ⟨q0_⟩⟩
                · rw [if_neg c15] at H
                  have c15b0 : decide (x26_3 < (l0.length : Int)) = false := decide_eq_false c15
                  clear c15
                  (first | rw [c15b0] | (simp only [i64_w, i32_w]; rw [c15b0]) | skip)
                  by_cases c16 : 0 < (x6_3.length : Int)
                  · rw [if_pos c16] at H
                    have c16b0 : decide (0 < (x6_3.length : Int)) = true := decide_eq_true c16
                    have c16b1 : decide (0 < x6_3.length) = true := decide_eq_true (by omega)
                    clear c16
                    simp only [Option.some.injEq, Prod.mk.injEq] at H
                    obtain ⟨rfl, rfl, rfl, rfl⟩ := H
                    obtain ⟨Ao17, co17, eo17⟩ := Kd.R_slice HO_6.out
                    subst eo17
                    have p260 : 0 ≤ (0 : Int) := (by omega)
                    have q260 : 0 < (x6_3.length : Int) := of_decide_eq_true q11_
                    obtain ⟨ad260, e260, hx260_0, hx260_1, hx260_2⟩ := at_T31 (Kd.R_reads' HO_6.out).2.2 0 p260 q260
                    cases e260
                    have qi260 : (0 < x6_3.length) = True := eq_true (by omega)
                    (try rw [show ((0 : Int)).toNat = 0 from rfl] at hx260_0)
                    (try rw [show 0 * 3 = 0 from rfl] at hx260_0)
                    (try rw [Addr.add_zero'] at hx260_0)
                    (try rw [show ((0 : Int)).toNat = 0 from rfl] at hx260_1)
                    (try rw [show 0 * 3 = 0 from rfl] at hx260_1)
                    (try rw [Addr.add_zero'] at hx260_1)
                    (try rw [show ((0 : Int)).toNat = 0 from rfl] at hx260_2)
                    (try rw [show 0 * 3 = 0 from rfl] at hx260_2)
                    (try rw [Addr.add_zero'] at hx260_2)
                    replace p260 := eq_true p260
                    replace q260 := eq_true q260
                    have hcz18_0 : wr.cell? ⟨gb257, 0, none⟩ = some (.int .i64 x258000_3) := (blk_cell BK257.out 0).trans rfl
                    have hcz18_1 : wr.cell? ⟨gb257, 1, none⟩ = some (.int .i64 x258001_3) := (blk_cell BK257.out 1).trans rfl
                    have hcz18_2 : wr.cell? ⟨gb257, 2, none⟩ = some (.string x258002_3) := (blk_cell BK257.out 2).trans rfl
                    have hfz18_0 := blk_frozen BK257.out 0
                    have hfz18_1 := blk_frozen BK257.out 1
                    have hfz18_2 := blk_frozen BK257.out 2
                    go_wp2
                    refine bodyPost_ret (results_ct rfl _ _ gb257 31 #[.int .i64 ((rd_T31 x6_3 0).f0), .int .i64 ((rd_T31 x6_3 0).f1), .string ((rd_T31 x6_3 0).f2)] (0, 0) _ rfl (by (with_reducible repeat first | apply bN_ | apply bD_ | apply bA_); refine blk_put (cs := #[.int .i64 ((rd_T31 x6_3 0).f0), .int .i64 ((rd_T31 x6_3 0).f1), .string x258002_3]) ?_ 2 _ rfl; (with_reducible repeat first | apply bN_ | apply bD_ | apply bA_); refine blk_put (cs := #[.int .i64 ((rd_T31 x6_3 0).f0), .int .i64 x258001_3, .string x258002_3]) ?_ 1 _ rfl; (with_reducible repeat first | apply bN_ | apply bD_ | apply bA_); refine blk_put (cs := #[.int .i64 x258000_3, .int .i64 x258001_3, .string x258002_3]) ?_ 0 _ rfl; (with_reducible repeat first | apply bN_ | apply bD_ | apply bA_); exact BK257.out) Tryd.underlying31 rfl (by kernel_rfl)) rfl ?_
                    exact ⟨q4_, q0_⟩
                  · rw [if_neg c16] at H
                    exact absurd H (by simp)
              case rest =>
                clear HC14
                try clear c1
                try clear c2
                try clear p2
                try clear q2
                try clear hx2
                try clear qi2
                try clear c6
                try clear c12
                try clear c15
                try clear c15b0
                try clear c16
                try clear c16b0
                try clear c16b1
                try clear hcz13_0
                try clear hcz13_1
                try clear hcz13_2
                try clear hcz18_0
                try clear hcz18_1
                try clear hcz18_2
                try clear hfz13_0
                try clear hfz13_1
                try clear hfz13_2
                try clear hfz18_0
                try clear hfz18_1
                try clear hfz18_2
                try clear hx260_0
                try clear hx260_1
                try clear hx260_2
                try clear p2
                try clear p260
                try clear q260
                obtain ⟨kq, HA, HJ13, HO_6, BK257, HB⟩ := hcut
                cases kq with
                | zero => exact absurd HA.out (by simp [expr_Eval.j3])
                | succ kj13 =>
                  have H := HA.out
                  clear HA
                  simp only [expr_Eval.j3] at H
                  by_cases c19 : 0 ≤ x26_3
                  · rw [if_pos c19] at H
                    have c19b0 : decide (0 ≤ x26_3) = true := decide_eq_true c19
                    clear c19
                    by_cases c20 : x26_3 < (l0.length : Int)
                    · rw [if_pos c20] at H
                      have c20b0 : decide (x26_3 < (l0.length : Int)) = true := decide_eq_true c20
                      clear c20
                      have HC21 := Aside0.mk H
                      clear H
                      have p261 : 0 ≤ (x26_3 : Int) := of_decide_eq_true q11_
                      have q261 : x26_3 < (l0.length : Int) := of_decide_eq_true q11_
                      obtain ⟨ad261, e261, hx261_0, hx261_1, hx261_2, hx261_3, hx261_4⟩ := at_T39 HR0.out x26_3 p261 q261
                      cases e261
                      replace hx261_0 := (HB.out.cell (World.block_lt_of_cell? w _ hx261_0)).trans hx261_0
                      replace hx261_1 := (HB.out.cell (World.block_lt_of_cell? w _ hx261_1)).trans hx261_1
                      replace hx261_2 := (HB.out.cell (World.block_lt_of_cell? w _ hx261_2)).trans hx261_2
                      replace hx261_3 := (HB.out.cell (World.block_lt_of_cell? w _ hx261_3)).trans hx261_3
                      replace hx261_4 := (HB.out.cell (World.block_lt_of_cell? w _ hx261_4)).trans hx261_4
                      replace p261 := eq_true p261
                      replace q261 := eq_true q261
                      go_upto_block 2 with (first | ((with_reducible refine gate_dst (N := 8) rfl ?_); (try (refine gate_guard (by rfl) ?_; dsimp only)); refine box_event ?hg (N := 8) ?hd (cs := #[.int .i64 0, .int .i64 0, .int .i64 0, .int .i64 0, .string (⟨#[]⟩ : ByteArray)]) (t := 39) ?hr ?_; (case hd => rfl); (case hg => rfl); (case hr => first | (go_simp; done) | (go_simp; rfl)); intro gb262 hg w22 hbox hb; have n0_ := Aside0.mk (Kd.R_below q26_ hb); have n1_ := Aside0.mk (blk_below (g := gb257) (o := .cells #[.int .i64 x258000_3, .int .i64 x258001_3, .string x258002_3] 31 (0, 0)) q14_ hb); have n2_ := Aside0.mk (below_step q0_ hb); have n3_ := Aside0.mk (hbox); have n4_ := Aside0.mk ((q1_ : w.heap.size ≤ gb262)); have n5_ := Aside0.mk ((q1_ : w.heap.size ≤ gb262)); have n6_ := Aside0.mk ((q76_ : gb257 ≠ gb262)); have n7_ := Aside0.mk ((q77_ : gb262 ≠ gb257)); clear HO_6; clear BK257; clear HB; have HO_6 := n0_; have BK257 := n1_; have HB := n2_; have BK262 := n3_; have GW262 := n4_; have GE262 := n5_; have NB257_262 := n6_; have NB262_257 := n7_; clear n0_ n1_ n2_ n3_ n4_ n5_ n6_ n7_; clear hb hbox hg; have hnb23 := NB262_257.out; have hnc23 := NB257_262.out; have hcz24_0 : w22.cell? ⟨gb262, 0, none⟩ = some (.int .i64 0) := (blk_cell BK262.out 0).trans rfl; have hcz24_1 : w22.cell? ⟨gb262, 1, none⟩ = some (.int .i64 0) := (blk_cell BK262.out 1).trans rfl; have hcz24_2 : w22.cell? ⟨gb262, 2, none⟩ = some (.int .i64 0) := (blk_cell BK262.out 2).trans rfl; have hcz24_3 : w22.cell? ⟨gb262, 3, none⟩ = some (.int .i64 0) := (blk_cell BK262.out 3).trans rfl; have hcz24_4 : w22.cell? ⟨gb262, 4, none⟩ = some (.string (⟨#[]⟩ : ByteArray)) := (blk_cell BK262.out 4).trans rfl; have hfz24_0 := blk_frozen BK262.out 0; have hfz24_1 := blk_frozen BK262.out 1; have hfz24_2 := blk_frozen BK262.out 2; have hfz24_3 := blk_frozen BK262.out 3; have hfz24_4 := blk_frozen BK262.out 4))
                      (try simp only [Act.put, List.setIfInBounds_toArray, List.set_cons_zero, List.set_cons_succ])
                      go_cut [6] (fun v6 wc => ∃ (kq : Nat) (x6_20 : List (S31)), Aside0 (expr_Eval.j4 kq l1 x6_20 l0 (l0.length : Int) x26_3 ((rd_T39 l0 x26_3).f0) ((rd_T39 l0 x26_3).f1) ((rd_T39 l0 x26_3).f2.f0) ((rd_T39 l0 x26_3).f2.f1) ((rd_T39 l0 x26_3).f2.f2) = some (r1, r2, r3, r4)) ∧ Aside0 (kq ≤ kj13) ∧ Aside0 (Kd.R k31 31 wc w.heap.size (fun k_ => k_ ≠ gb257) v6 x6_20) ∧ Aside0 (wc.heap[gb257]? = some (.cells #[.int .i64 x258000_3, .int .i64 x258001_3, .string x258002_3] 31 (0, 0))) ∧ Aside0 (wc.heap[gb262]? = some (.cells #[.int .i64 ((rd_T39 l0 x26_3).f0), .int .i64 ((rd_T39 l0 x26_3).f1), .int .i64 ((rd_T39 l0 x26_3).f2.f0), .int .i64 ((rd_T39 l0 x26_3).f2.f1), .string ((rd_T39 l0 x26_3).f2.f2)] 39 (0, 0))) ∧ Aside0 (Below w.heap.size w wc))
                      case first =>
                        have H := HC21.out
                        clear HC21
                        by_cases c25 : ((rd_T39 l0 x26_3).f0) = 1
                        · rw [if_pos c25] at H
                          have c25b0 : (((rd_T39 l0 x26_3).f0) == 1) = true := beq_iff_eq.mpr c25
                          have c25b1 : (((rd_T39 l0 x26_3).f0) != 1) = false := bne_eq_false_iff_eq.mpr c25
                          clear c25
                          (first | rw [c25b0] | (simp only [i64_w, i32_w]; rw [c25b0]) | skip)
                          by_cases c26 : 0 ≤ ((rd_T39 l0 x26_3).f1)
                          · rw [if_pos c26] at H
                            have c26b0 : decide (0 ≤ ((rd_T39 l0 x26_3).f1)) = true := decide_eq_true c26
                            clear c26
                            by_cases c27 : ((rd_T39 l0 x26_3).f1) < (l1.length : Int)
                            · rw [if_pos c27] at H
                              have c27b0 : decide (((rd_T39 l0 x26_3).f1) < (l1.length : Int)) = true := decide_eq_true c27
                              clear c27
                              by_cases c28 : x6_3.length < 4398046511104
                              · rw [if_pos c28] at H
                                have LMc28 := Aside0.mk c28
                                clear c28
                                obtain ⟨y264, hy264⟩ : ∃ y_ : List (S31), y_ = (x6_3 ++ [(⟨(rd_T31 l1 ((rd_T39 l0 x26_3).f1)).f0, (rd_T31 l1 ((rd_T39 l0 x26_3).f1)).f1, (rd_T31 l1 ((rd_T39 l0 x26_3).f1)).f2⟩ : S31)]) := ⟨_, rfl⟩
                                replace H : (expr_Eval.l0 kj13 l1 y264 l0 (l0.length : Int) (wrap64 (x26_3 + 1))) = some (r1, r2, r3, r4) := by first | (rw [hy264]; with_reducible exact H) | (have H2_ := (Option.bind_some _ _).symm.trans H; rw [hy264]; with_reducible exact H2_) | (have H2_ := (Option.bind_some _ _).symm.trans H; with_reducible exact H2_) | with_reducible exact H | (rw [hy264]; exact H) | exact H
                                have Ny264 := Aside0.mk hy264
                                clear hy264
                                have H' := Aside0.mk H
                                clear H
                                have hnb29 := NB262_257.out
                                have hnc29 := NB257_262.out
                                have hcz30_0 : w22.cell? ⟨gb262, 0, none⟩ = some (.int .i64 0) := (blk_cell BK262.out 0).trans rfl
                                have hcz30_1 : w22.cell? ⟨gb262, 1, none⟩ = some (.int .i64 0) := (blk_cell BK262.out 1).trans rfl
                                have hcz30_2 : w22.cell? ⟨gb262, 2, none⟩ = some (.int .i64 0) := (blk_cell BK262.out 2).trans rfl
                                have hcz30_3 : w22.cell? ⟨gb262, 3, none⟩ = some (.int .i64 0) := (blk_cell BK262.out 3).trans rfl
                                have hcz30_4 : w22.cell? ⟨gb262, 4, none⟩ = some (.string (⟨#[]⟩ : ByteArray)) := (blk_cell BK262.out 4).trans rfl
                                have hfz30_0 := blk_frozen BK262.out 0
                                have hfz30_1 := blk_frozen BK262.out 1
                                have hfz30_2 := blk_frozen BK262.out 2
                                have hfz30_3 := blk_frozen BK262.out 3
                                have hfz30_4 := blk_frozen BK262.out 4
                                have p263 : 0 ≤ (((rd_T39 l0 x26_3).f1) : Int) := of_decide_eq_true q11_
                                have q263 : ((rd_T39 l0 x26_3).f1) < (l1.length : Int) := of_decide_eq_true q11_
                                obtain ⟨ad263, e263, hx263_0, hx263_1, hx263_2⟩ := at_T31 HR1.out ((rd_T39 l0 x26_3).f1) p263 q263
                                cases e263
                                have hn263_0 : ad263.block ≠ gb262 := Nat.ne_of_lt (Nat.lt_of_lt_of_le q141_ GW262.out)
                                have hn263_1 : ad263.block ≠ gb262 := Nat.ne_of_lt (Nat.lt_of_lt_of_le q141_ GW262.out)
                                have hn263_2 : ad263.block ≠ gb262 := Nat.ne_of_lt (Nat.lt_of_lt_of_le q141_ GW262.out)
                                have hn263_3 : ad263.block ≠ gb262 := Nat.ne_of_lt (Nat.lt_of_lt_of_le q141_ GW262.out)
                                have hn263_4 : ad263.block ≠ gb262 := Nat.ne_of_lt (Nat.lt_of_lt_of_le q141_ GW262.out)
                                replace hx263_0 := (HB.out.cell (World.block_lt_of_cell? w _ hx263_0)).trans hx263_0
                                replace hx263_1 := (HB.out.cell (World.block_lt_of_cell? w _ hx263_1)).trans hx263_1
                                replace hx263_2 := (HB.out.cell (World.block_lt_of_cell? w _ hx263_2)).trans hx263_2
                                replace hx263_0 := (cell_far (p := ⟨gb262, 0, none⟩) q162_ (.int .i64 ((rd_T39 l0 x26_3).f0))).trans hx263_0
                                replace hx263_1 := (cell_far (p := ⟨gb262, 0, none⟩) q162_ (.int .i64 ((rd_T39 l0 x26_3).f0))).trans hx263_1
                                replace hx263_2 := (cell_far (p := ⟨gb262, 0, none⟩) q162_ (.int .i64 ((rd_T39 l0 x26_3).f0))).trans hx263_2
                                replace hx263_0 := (cell_far (p := ⟨gb262, 1, none⟩) q161_ (.int .i64 ((rd_T39 l0 x26_3).f1))).trans hx263_0
                                replace hx263_1 := (cell_far (p := ⟨gb262, 1, none⟩) q161_ (.int .i64 ((rd_T39 l0 x26_3).f1))).trans hx263_1
                                replace hx263_2 := (cell_far (p := ⟨gb262, 1, none⟩) q161_ (.int .i64 ((rd_T39 l0 x26_3).f1))).trans hx263_2
                                replace hx263_0 := (cell_far (p := ⟨gb262, 2, none⟩) q160_ (.int .i64 ((rd_T39 l0 x26_3).f2.f0))).trans hx263_0
                                replace hx263_1 := (cell_far (p := ⟨gb262, 2, none⟩) q160_ (.int .i64 ((rd_T39 l0 x26_3).f2.f0))).trans hx263_1
                                replace hx263_2 := (cell_far (p := ⟨gb262, 2, none⟩) q160_ (.int .i64 ((rd_T39 l0 x26_3).f2.f0))).trans hx263_2
                                replace hx263_0 := (cell_far (p := ⟨gb262, 3, none⟩) q159_ (.int .i64 ((rd_T39 l0 x26_3).f2.f1))).trans hx263_0
                                replace hx263_1 := (cell_far (p := ⟨gb262, 3, none⟩) q159_ (.int .i64 ((rd_T39 l0 x26_3).f2.f1))).trans hx263_1
                                replace hx263_2 := (cell_far (p := ⟨gb262, 3, none⟩) q159_ (.int .i64 ((rd_T39 l0 x26_3).f2.f1))).trans hx263_2
                                replace hx263_0 := (cell_far (p := ⟨gb262, 4, none⟩) q158_ (.string ((rd_T39 l0 x26_3).f2.f2))).trans hx263_0
                                replace hx263_1 := (cell_far (p := ⟨gb262, 4, none⟩) q158_ (.string ((rd_T39 l0 x26_3).f2.f2))).trans hx263_1
                                replace hx263_2 := (cell_far (p := ⟨gb262, 4, none⟩) q158_ (.string ((rd_T39 l0 x26_3).f2.f2))).trans hx263_2
                                clear hn263_0
                                clear hn263_1
                                clear hn263_2
                                clear hn263_3
                                clear hn263_4
                                replace p263 := eq_true p263
                                replace q263 := eq_true q263
                                go_wp2_with (first | ((with_reducible refine gate_builtin (b := .append) (xs := #[.tmp 34, .tmp 40]) rfl ?_); (try (refine gate_guard (by rfl) ?_; dsimp only)); at_builtin; refine Kd.R_append k31 (w0 := w) w.heap.size rfl (.tmp 34) (.tmp 40) 24 31 (.agg #[(.int .i64 0), (.int .i64 0), (.string ⟨#[]⟩)]) 32 rfl Tryd.underlying24 info31 rfl (by decide) (by omega) u6 x6_3 (⟨(rd_T31 l1 ((rd_T39 l0 x26_3).f1)).f0, (rd_T31 l1 ((rd_T39 l0 x26_3).f1)).f1, (rd_T31 l1 ((rd_T39 l0 x26_3).f1)).f2⟩ : S31) [.int .i64 ((rd_T31 l1 ((rd_T39 l0 x26_3).f1)).f0), .int .i64 ((rd_T31 l1 ((rd_T39 l0 x26_3).f1)).f1), .string ((rd_T31 l1 ((rd_T39 l0 x26_3).f1)).f2)] (fun k_ => k_ ≠ gb257) (fun _ => False) rfl q154_ ?aP (fun _ hk => hk.elim) ?aF ?aO ?aB ?aS ?aL ?_; (case aP => exact k31_mkM _ _ _ (⟨(rd_T31 l1 ((rd_T39 l0 x26_3).f1)).f0, (rd_T31 l1 ((rd_T39 l0 x26_3).f1)).f1, (rd_T31 l1 ((rd_T39 l0 x26_3).f1)).f2⟩ : S31)); (case aB => exact q0_); (case aF => exact (fun k_ hk => Kd.freshB (g := gb257) (o := .cells #[.int .i64 x258000_3, .int .i64 x258001_3, .string x258002_3] 31 (0, 0)) q20_ k_ hk)); (case aO => exact q49_); (case aS => exact (below_size q0_)); (case aL => have := LMc28.out; omega); intro v265 w31 ho hb hg hat; rw [← Ny264.out] at ho; have n0_ := Aside0.mk (blk_grown (g := gb257) (o := .cells #[.int .i64 x258000_3, .int .i64 x258001_3, .string x258002_3] 31 (0, 0)) q20_ hg (Kd.R_away HO_6.out (fun _ hk => hk))); have n1_ := Aside0.mk (blk_grown (g := gb262) (o := .cells #[.int .i64 ((rd_T39 l0 x26_3).f0), .int .i64 ((rd_T39 l0 x26_3).f1), .int .i64 ((rd_T39 l0 x26_3).f2.f0), .int .i64 ((rd_T39 l0 x26_3).f2.f1), .string ((rd_T39 l0 x26_3).f2.f2)] 39 (0, 0)) q18_ hg (Kd.R_ne HO_6.out BK262.out (by decide))); have n2_ := Aside0.mk (hb); have n3_ := Aside0.mk (ho); clear BK257; clear BK262; clear HB; clear HO_6; have BK257 := n0_; have BK262 := n1_; have HB := n2_; have HO266 := n3_; clear n0_ n1_ n2_ n3_; clear ho hb hg hat))
                                go_roundg kj13
                                case measure => have := HJ2.out; have := HJ10.out; have := HK3.out; have := HJ13.out; omega
                                case rel => exact ⟨(y264), (wrap64 (x26_3 + 1)), (x258000_3), (x258001_3), (x258002_3), q7_, H', ⟨by have := HJ2.out; have := HJ10.out; have := HK3.out; have := HJ13.out; omega⟩, ⟨by (with_reducible repeat (first | apply Kd.R_alloc | apply Kd.R_drewN | apply Kd.R_drew)); exact HO266.out⟩, ⟨q14_⟩, ⟨q0_⟩⟩
                              · rw [if_neg c28] at H
                                exact absurd H (by simp)
                            · rw [if_neg c27] at H
                              exact absurd H (by simp)
                          · rw [if_neg c26] at H
                            exact absurd H (by simp)
                        · rw [if_neg c25] at H
                          have c25b0 : (((rd_T39 l0 x26_3).f0) == 1) = false := beq_eq_false_iff_ne.mpr c25
                          have c25b1 : (((rd_T39 l0 x26_3).f0) != 1) = true := bne_iff_ne.mpr c25
                          (first | rw [c25b0] | (simp only [i64_w, i32_w]; rw [c25b0]) | skip)
                          by_cases c32 : ((rd_T39 l0 x26_3).f0) = 2
                          · rw [if_pos c32] at H
                            have c32b0 : (((rd_T39 l0 x26_3).f0) == 2) = true := beq_iff_eq.mpr c32
                            have c32b1 : (((rd_T39 l0 x26_3).f0) != 2) = false := bne_eq_false_iff_eq.mpr c32
                            clear c32
                            by_cases c33 : x6_3.length < 4398046511104
                            · rw [if_pos c33] at H
                              have LMc33 := Aside0.mk c33
                              clear c33
                              obtain ⟨y267, hy267⟩ : ∃ y_ : List (S31), y_ = (x6_3 ++ [(⟨(rd_T39 l0 x26_3).f2.f0, (rd_T39 l0 x26_3).f2.f1, (rd_T39 l0 x26_3).f2.f2⟩ : S31)]) := ⟨_, rfl⟩
                              replace H : (expr_Eval.l0 kj13 l1 y267 l0 (l0.length : Int) (wrap64 (x26_3 + 1))) = some (r1, r2, r3, r4) := by first | (rw [hy267]; with_reducible exact H) | (have H2_ := (Option.bind_some _ _).symm.trans H; rw [hy267]; with_reducible exact H2_) | (have H2_ := (Option.bind_some _ _).symm.trans H; with_reducible exact H2_) | with_reducible exact H | (rw [hy267]; exact H) | exact H
                              have Ny267 := Aside0.mk hy267
                              clear hy267
                              have H' := Aside0.mk H
                              clear H
                              have hnb34 := NB262_257.out
                              have hnc34 := NB257_262.out
                              have hcz35_0 : w22.cell? ⟨gb262, 0, none⟩ = some (.int .i64 0) := (blk_cell BK262.out 0).trans rfl
                              have hcz35_1 : w22.cell? ⟨gb262, 1, none⟩ = some (.int .i64 0) := (blk_cell BK262.out 1).trans rfl
                              have hcz35_2 : w22.cell? ⟨gb262, 2, none⟩ = some (.int .i64 0) := (blk_cell BK262.out 2).trans rfl
                              have hcz35_3 : w22.cell? ⟨gb262, 3, none⟩ = some (.int .i64 0) := (blk_cell BK262.out 3).trans rfl
                              have hcz35_4 : w22.cell? ⟨gb262, 4, none⟩ = some (.string (⟨#[]⟩ : ByteArray)) := (blk_cell BK262.out 4).trans rfl
                              have hfz35_0 := blk_frozen BK262.out 0
                              have hfz35_1 := blk_frozen BK262.out 1
                              have hfz35_2 := blk_frozen BK262.out 2
                              have hfz35_3 := blk_frozen BK262.out 3
                              have hfz35_4 := blk_frozen BK262.out 4
                              go_wp2_with (first | ((with_reducible refine gate_builtin (b := .append) (xs := #[.tmp 44, .tmp 47]) rfl ?_); (try (refine gate_guard (by rfl) ?_; dsimp only)); at_builtin; refine Kd.R_append k31 (w0 := w) w.heap.size rfl (.tmp 44) (.tmp 47) 24 31 (.agg #[(.int .i64 0), (.int .i64 0), (.string ⟨#[]⟩)]) 32 rfl Tryd.underlying24 info31 rfl (by decide) (by omega) u6 x6_3 (⟨(rd_T39 l0 x26_3).f2.f0, (rd_T39 l0 x26_3).f2.f1, (rd_T39 l0 x26_3).f2.f2⟩ : S31) [.int .i64 ((rd_T39 l0 x26_3).f2.f0), .int .i64 ((rd_T39 l0 x26_3).f2.f1), .string ((rd_T39 l0 x26_3).f2.f2)] (fun k_ => k_ ≠ gb257) (fun _ => False) rfl q154_ ?aP (fun _ hk => hk.elim) ?aF ?aO ?aB ?aS ?aL ?_; (case aP => exact k31_mkM _ _ _ (⟨(rd_T39 l0 x26_3).f2.f0, (rd_T39 l0 x26_3).f2.f1, (rd_T39 l0 x26_3).f2.f2⟩ : S31)); (case aB => exact q0_); (case aF => exact (fun k_ hk => Kd.freshB (g := gb257) (o := .cells #[.int .i64 x258000_3, .int .i64 x258001_3, .string x258002_3] 31 (0, 0)) q20_ k_ hk)); (case aO => exact q49_); (case aS => exact (below_size q0_)); (case aL => have := LMc33.out; omega); intro v268 w36 ho hb hg hat; rw [← Ny267.out] at ho; have n0_ := Aside0.mk (blk_grown (g := gb257) (o := .cells #[.int .i64 x258000_3, .int .i64 x258001_3, .string x258002_3] 31 (0, 0)) q20_ hg (Kd.R_away HO_6.out (fun _ hk => hk))); have n1_ := Aside0.mk (blk_grown (g := gb262) (o := .cells #[.int .i64 ((rd_T39 l0 x26_3).f0), .int .i64 ((rd_T39 l0 x26_3).f1), .int .i64 ((rd_T39 l0 x26_3).f2.f0), .int .i64 ((rd_T39 l0 x26_3).f2.f1), .string ((rd_T39 l0 x26_3).f2.f2)] 39 (0, 0)) q18_ hg (Kd.R_ne HO_6.out BK262.out (by decide))); have n2_ := Aside0.mk (hb); have n3_ := Aside0.mk (ho); clear BK257; clear BK262; clear HB; clear HO_6; have BK257 := n0_; have BK262 := n1_; have HB := n2_; have HO269 := n3_; clear n0_ n1_ n2_ n3_; clear ho hb hg hat))
                              go_roundg kj13
                              case measure => have := HJ2.out; have := HJ10.out; have := HK3.out; have := HJ13.out; omega
                              case rel => exact ⟨(y267), (wrap64 (x26_3 + 1)), (x258000_3), (x258001_3), (x258002_3), q7_, H', ⟨by have := HJ2.out; have := HJ10.out; have := HK3.out; have := HJ13.out; omega⟩, ⟨by (with_reducible repeat (first | apply Kd.R_alloc | apply Kd.R_drewN | apply Kd.R_drew)); exact HO269.out⟩, ⟨q14_⟩, ⟨q0_⟩⟩
                            · rw [if_neg c33] at H
                              exact absurd H (by simp)
                          · rw [if_neg c32] at H
                            have c32b0 : (((rd_T39 l0 x26_3).f0) == 2) = false := beq_eq_false_iff_ne.mpr c32
                            have c32b1 : (((rd_T39 l0 x26_3).f0) != 2) = true := bne_iff_ne.mpr c32
                            have H' := Aside0.mk H
                            clear H
                            go_wp2
                            go_meet
                            case rel => exact ⟨_, (x6_3), H', ⟨by have := HJ2.out; have := HJ10.out; have := HK3.out; have := HJ13.out; first | omega | exact Nat.le_refl _⟩, ⟨q49_⟩, ⟨q20_⟩, ⟨q18_⟩, ⟨q0_⟩⟩
                      case rest =>
                        clear HC21
                        try clear c1
                        try clear c2
                        try clear p2
                        try clear q2
                        try clear hx2
                        try clear qi2
                        try clear c3
                        try clear c6
                        try clear p6
                        try clear c12
                        try clear c15
                        try clear c15b0
                        try clear c16
                        try clear c16b0
                        try clear c16b1
                        try clear c19
                        try clear c19b0
                        try clear c20
                        try clear c20b0
                        try clear c22
                        try clear c23
                        try clear c25
                        try clear c25b0
                        try clear c25b1
                        try clear c26
                        try clear c26b0
                        try clear p26
                        try clear q26
                        try clear hx26
                        try clear qi26
                        try clear c27
                        try clear c27b0
                        try clear c28
                        try clear c29
                        try clear c32
                        try clear c32b0
                        try clear c32b1
                        try clear c33
                        try clear c34
                        try clear hcz13_0
                        try clear hcz13_1
                        try clear hcz13_2
                        try clear hcz18_0
                        try clear hcz18_1
                        try clear hcz18_2
                        try clear hcz24_0
                        try clear hcz24_1
                        try clear hcz24_2
                        try clear hcz24_3
                        try clear hcz24_4
                        try clear hcz30_0
                        try clear hcz30_1
                        try clear hcz30_2
                        try clear hcz30_3
                        try clear hcz30_4
                        try clear hcz35_0
                        try clear hcz35_1
                        try clear hcz35_2
                        try clear hcz35_3
                        try clear hcz35_4
                        try clear hfz13_0
                        try clear hfz13_1
                        try clear hfz13_2
                        try clear hfz18_0
                        try clear hfz18_1
                        try clear hfz18_2
                        try clear hfz24_0
                        try clear hfz24_1
                        try clear hfz24_2
                        try clear hfz24_3
                        try clear hfz24_4
                        try clear hfz30_0
                        try clear hfz30_1
                        try clear hfz30_2
                        try clear hfz30_3
                        try clear hfz30_4
                        try clear hfz35_0
                        try clear hfz35_1
                        try clear hfz35_2
                        try clear hfz35_3
                        try clear hfz35_4
                        try clear hx260_0
                        try clear hx260_1
                        try clear hx260_2
                        try clear hx261_0
                        try clear hx261_1
                        try clear hx261_2
                        try clear hx261_3
                        try clear hx261_4
                        try clear hx263_0
                        try clear hx263_1
                        try clear hx263_2
                        try clear p2
                        try clear p260
                        try clear p261
                        try clear p263
                        try clear q2
                        try clear q260
                        try clear q261
                        try clear q263
                        obtain ⟨kq, x6_20, HA, HJ20, HO_6, BK257, BK262, HB⟩ := hcut
                        cases kq with
                        | zero => exact absurd HA.out (by simp [expr_Eval.j4])
                        | succ kj20 =>
                          have H := HA.out
                          clear HA
                          simp only [expr_Eval.j4] at H
                          replace H := Option.bind_eq_some_iff.mp H
                          obtain ⟨t270, A370, H⟩ := H
                          replace H : (if 0 ≤ (wrap64 ((x6_20.length : Int) - t270)) then (if (wrap64 ((x6_20.length : Int) - t270)) < (x6_20.length : Int) then (if 0 ≤ (wrap64 ((x6_20.length : Int) - 1)) then (if (wrap64 ((x6_20.length : Int) - 1)) < (x6_20.length : Int) then ((expr_fits.f ((rd_T39 l0 x26_3).f0) ((rd_T31 x6_20 (wrap64 ((x6_20.length : Int) - t270))).f0) ((rd_T31 x6_20 (wrap64 ((x6_20.length : Int) - 1))).f0)).bind fun t275 => (if t275 = true then (expr_Eval.j5 kj20 l1 x6_20 (wrap64 ((x6_20.length : Int) - t270)) l0 (l0.length : Int) x26_3 ((rd_T39 l0 x26_3).f0) ((rd_T39 l0 x26_3).f1) ((rd_T39 l0 x26_3).f2.f0) ((rd_T39 l0 x26_3).f2.f1) ((rd_T39 l0 x26_3).f2.f2) ((rd_T31 x6_20 (wrap64 ((x6_20.length : Int) - t270))).f0) ((rd_T31 x6_20 (wrap64 ((x6_20.length : Int) - t270))).f1) ((rd_T31 x6_20 (wrap64 ((x6_20.length : Int) - t270))).f2) ((rd_T31 x6_20 (wrap64 ((x6_20.length : Int) - 1))).f0) ((rd_T31 x6_20 (wrap64 ((x6_20.length : Int) - 1))).f1) ((rd_T31 x6_20 (wrap64 ((x6_20.length : Int) - 1))).f2)) else (some (0, 0, (⟨#[]⟩ : ByteArray), 10)))) else (none)) else (none)) else (none)) else (none)) = some (r1, r2, r3, r4) := H
                          have A37 := Aside0.mk A370
                          clear A370
                          obtain ⟨ji38, hji38⟩ : ∃ j_ : Int, (wrap64 ((x6_20.length : Int) - t270)) = j_ := ⟨_, rfl⟩
                          replace H : (if 0 ≤ (ji38) then (if (ji38) < (x6_20.length : Int) then (if 0 ≤ (wrap64 ((x6_20.length : Int) - 1)) then (if (wrap64 ((x6_20.length : Int) - 1)) < (x6_20.length : Int) then ((expr_fits.f ((rd_T39 l0 x26_3).f0) ((rd_T31 x6_20 (ji38)).f0) ((rd_T31 x6_20 (wrap64 ((x6_20.length : Int) - 1))).f0)).bind fun t275 => (if t275 = true then (expr_Eval.j5 kj20 l1 x6_20 ji38 l0 (l0.length : Int) x26_3 ((rd_T39 l0 x26_3).f0) ((rd_T39 l0 x26_3).f1) ((rd_T39 l0 x26_3).f2.f0) ((rd_T39 l0 x26_3).f2.f1) ((rd_T39 l0 x26_3).f2.f2) ((rd_T31 x6_20 (ji38)).f0) ((rd_T31 x6_20 (ji38)).f1) ((rd_T31 x6_20 (ji38)).f2) ((rd_T31 x6_20 (wrap64 ((x6_20.length : Int) - 1))).f0) ((rd_T31 x6_20 (wrap64 ((x6_20.length : Int) - 1))).f1) ((rd_T31 x6_20 (wrap64 ((x6_20.length : Int) - 1))).f2)) else (some (0, 0, (⟨#[]⟩ : ByteArray), 10)))) else (none)) else (none)) else (none)) else (none)) = some (r1, r2, r3, r4) := by first | (rw [hji38] at H; exact H) | (simp only [hji38] at H ⊢; exact H)
                          (try rw [hji38] at A37)
                          have hji38w : (IntKind.i64.wrap ((x6_20.length : Int) - t270)) = ji38 := (i64_w _).trans hji38
                          by_cases c39 : 0 ≤ (ji38)
                          · rw [if_pos c39] at H
                            have c39b0 : decide (0 ≤ (ji38)) = true := decide_eq_true c39
                            clear c39
                            by_cases c40 : (ji38) < (x6_20.length : Int)
                            · rw [if_pos c40] at H
                              have c40b0 : decide ((ji38) < (x6_20.length : Int)) = true := decide_eq_true c40
                              clear c40
                              obtain ⟨ji41, hji41⟩ : ∃ j_ : Int, (wrap64 ((x6_20.length : Int) - 1)) = j_ := ⟨_, rfl⟩
                              replace H : (if 0 ≤ (ji41) then (if (ji41) < (x6_20.length : Int) then ((expr_fits.f ((rd_T39 l0 x26_3).f0) ((rd_T31 x6_20 (ji38)).f0) ((rd_T31 x6_20 (ji41)).f0)).bind fun t275 => (if t275 = true then (expr_Eval.j5 kj20 l1 x6_20 ji38 l0 (l0.length : Int) x26_3 ((rd_T39 l0 x26_3).f0) ((rd_T39 l0 x26_3).f1) ((rd_T39 l0 x26_3).f2.f0) ((rd_T39 l0 x26_3).f2.f1) ((rd_T39 l0 x26_3).f2.f2) ((rd_T31 x6_20 (ji38)).f0) ((rd_T31 x6_20 (ji38)).f1) ((rd_T31 x6_20 (ji38)).f2) ((rd_T31 x6_20 (ji41)).f0) ((rd_T31 x6_20 (ji41)).f1) ((rd_T31 x6_20 (ji41)).f2)) else (some (0, 0, (⟨#[]⟩ : ByteArray), 10)))) else (none)) else (none)) = some (r1, r2, r3, r4) := by first | (rw [hji41] at H; exact H) | (simp only [hji41] at H ⊢; exact H)
                              (try rw [hji41] at A37)
                              have hji41w : (IntKind.i64.wrap ((x6_20.length : Int) - 1)) = ji41 := (i64_w _).trans hji41
                              by_cases c42 : 0 ≤ (ji41)
                              · rw [if_pos c42] at H
                                have c42b0 : decide (0 ≤ (ji41)) = true := decide_eq_true c42
                                clear c42
                                by_cases c43 : (ji41) < (x6_20.length : Int)
                                · rw [if_pos c43] at H
                                  have c43b0 : decide ((ji41) < (x6_20.length : Int)) = true := decide_eq_true c43
                                  clear c43
                                  replace H := Option.bind_eq_some_iff.mp H
                                  obtain ⟨t275, A440, H⟩ := H
                                  replace H : (if t275 = true then (expr_Eval.j5 kj20 l1 x6_20 ji38 l0 (l0.length : Int) x26_3 ((rd_T39 l0 x26_3).f0) ((rd_T39 l0 x26_3).f1) ((rd_T39 l0 x26_3).f2.f0) ((rd_T39 l0 x26_3).f2.f1) ((rd_T39 l0 x26_3).f2.f2) ((rd_T31 x6_20 (ji38)).f0) ((rd_T31 x6_20 (ji38)).f1) ((rd_T31 x6_20 (ji38)).f2) ((rd_T31 x6_20 (ji41)).f0) ((rd_T31 x6_20 (ji41)).f1) ((rd_T31 x6_20 (ji41)).f2)) else (some (0, 0, (⟨#[]⟩ : ByteArray), 10))) = some (r1, r2, r3, r4) := H
                                  have A44 := Aside0.mk A440
                                  clear A440
                                  have HC45 := Aside0.mk H
                                  clear H
                                  obtain ⟨Ao46, co46, eo46⟩ := Kd.R_slice HO_6.out
                                  subst eo46
                                  have hnb47 := NB262_257.out
                                  have hnc47 := NB257_262.out
                                  have hcz48_0 : wc.cell? ⟨gb262, 0, none⟩ = some (.int .i64 ((rd_T39 l0 x26_3).f0)) := (blk_cell BK262.out 0).trans rfl
                                  have hcz48_1 : wc.cell? ⟨gb262, 1, none⟩ = some (.int .i64 ((rd_T39 l0 x26_3).f1)) := (blk_cell BK262.out 1).trans rfl
                                  have hcz48_2 : wc.cell? ⟨gb262, 2, none⟩ = some (.int .i64 ((rd_T39 l0 x26_3).f2.f0)) := (blk_cell BK262.out 2).trans rfl
                                  have hcz48_3 : wc.cell? ⟨gb262, 3, none⟩ = some (.int .i64 ((rd_T39 l0 x26_3).f2.f1)) := (blk_cell BK262.out 3).trans rfl
                                  have hcz48_4 : wc.cell? ⟨gb262, 4, none⟩ = some (.string ((rd_T39 l0 x26_3).f2.f2)) := (blk_cell BK262.out 4).trans rfl
                                  have hfz48_0 := blk_frozen BK262.out 0
                                  have hfz48_1 := blk_frozen BK262.out 1
                                  have hfz48_2 := blk_frozen BK262.out 2
                                  have hfz48_3 := blk_frozen BK262.out 3
                                  have hfz48_4 := blk_frozen BK262.out 4
                                  try go_wp2_with (first | ((with_reducible refine gate_callee (f := 18) rfl ?_); refine goesL_ (some 53) rfl rfl Tryd.func18 (by kernel_rfl) rfl #[.int .i64 ((rd_T39 l0 x26_3).f0)] rfl q2_ ?_; (with_reducible refine (expr_takes.calls kj20 ((rd_T39 l0 x26_3).f0) t270 _ A37.out).mono ?_); rintro e w' ⟨rfl, ⟨nd, rfl⟩⟩; refine ⟨_, rfl, ?_⟩; (try (rw [drewN_self wc]; generalize hq_ : World.drewN wc _ = wc; have n0_ : Aside0 (Kd.R k31 31 wc w.heap.size (fun k_ => k_ ≠ gb257) (.slice Ao46 x6_20.length co46) x6_20) := ⟨by rw [← hq_]; exact q26_⟩; have n1_ : Aside0 (wc.heap[gb257]? = some (.cells #[.int .i64 x258000_3, .int .i64 x258001_3, .string x258002_3] 31 (0, 0))) := ⟨by rw [← hq_]; exact q14_⟩; have n2_ : Aside0 (wc.heap[gb262]? = some (.cells #[.int .i64 ((rd_T39 l0 x26_3).f0), .int .i64 ((rd_T39 l0 x26_3).f1), .int .i64 ((rd_T39 l0 x26_3).f2.f0), .int .i64 ((rd_T39 l0 x26_3).f2.f1), .string ((rd_T39 l0 x26_3).f2.f2)] 39 (0, 0))) := ⟨by rw [← hq_]; exact q31_⟩; have n3_ : Aside0 (Below w.heap.size w wc) := ⟨q186_⟩; clear HO_6 BK257 BK262 HB hq_; have HO_6 := n0_; have BK257 := n1_; have BK262 := n2_; have HB := n3_; clear n0_ n1_ n2_ n3_))))
                                  have n0_ := Aside0.mk (Kd.R_drew HO_6.out)
                                  have n1_ := Aside0.mk (blk_drew BK257.out)
                                  have n2_ := Aside0.mk (blk_drew BK262.out)
                                  have n3_ := Aside0.mk (below_drew1 HB.out)
                                  clear HO_6
                                  clear BK257
                                  clear BK262
                                  clear HB
                                  have HO_6 := n0_
                                  have BK257 := n1_
                                  have BK262 := n2_
                                  have HB := n3_
                                  clear n0_ n1_ n2_ n3_
                                  have p271 : 0 ≤ ((ji38) : Int) := of_decide_eq_true q11_
                                  have q271 : (ji38) < (x6_20.length : Int) := of_decide_eq_true q11_
                                  obtain ⟨ad271, e271, hx271_0, hx271_1, hx271_2⟩ := at_T31 (Kd.R_reads' HO_6.out).2.2 (ji38) p271 q271
                                  cases e271
                                  replace p271 := eq_true p271
                                  replace q271 := eq_true q271
                                  have p272 : 0 ≤ ((ji41) : Int) := of_decide_eq_true q11_
                                  have q272 : (ji41) < (x6_20.length : Int) := of_decide_eq_true q11_
                                  obtain ⟨ad272, e272, hx272_0, hx272_1, hx272_2⟩ := at_T31 (Kd.R_reads' HO_6.out).2.2 (ji41) p272 q272
                                  obtain rfl : ad271 = ad272 := (by injection e272)
                                  replace p272 := eq_true p272
                                  replace q272 := eq_true q272
                                  refine start_ (n := 14) (S := fun w' => w'.cell? (ad271.add (((ji38)).toNat * 3)) = some (.int .i64 ((rd_T31 x6_20 (ji38)).f0)) ∧ w'.cell? ⟨(ad271.add (((ji38)).toNat * 3)).block, (ad271.add (((ji38)).toNat * 3)).off + 1, none⟩ = some (.int .i64 ((rd_T31 x6_20 (ji38)).f1)) ∧ w'.cell? ⟨(ad271.add (((ji38)).toNat * 3)).block, (ad271.add (((ji38)).toNat * 3)).off + 2, none⟩ = some (.string ((rd_T31 x6_20 (ji38)).f2)) ∧ w'.cell? (ad271.add (((ji41)).toNat * 3)) = some (.int .i64 ((rd_T31 x6_20 (ji41)).f0)) ∧ w'.cell? ⟨(ad271.add (((ji41)).toNat * 3)).block, (ad271.add (((ji41)).toNat * 3)).off + 1, none⟩ = some (.int .i64 ((rd_T31 x6_20 (ji41)).f1)) ∧ w'.cell? ⟨(ad271.add (((ji41)).toNat * 3)).block, (ad271.add (((ji41)).toNat * 3)).off + 2, none⟩ = some (.string ((rd_T31 x6_20 (ji41)).f2))) (ds := []) #[false, false, false, false, false, false, false, false, false, false, false, false, false, false] (by kernel_rfl) rfl rfl ⟨hx271_0, hx271_1, hx271_2, hx272_0, hx272_1, hx272_2⟩ (fun hHeld => ?_); refine with_tabW expr_Eval.tab13 expr_Eval.bits13 (fun HT_ HW_ => ?_)
                                  generalize wc.drew = w49 at HO_6 BK257 BK262 HB hx271_0 hx271_1 hx271_2 hx272_0 hx272_1 hx272_2 hHeld ⊢
                                  refine pure_ (i := 0) (N := some 55) (v := ?_) (a' := ?_) #[true, false, false, false, false, false, false, false, false, false, false, false, false, false] rfl rfl (any_of HT_.out (by kernel_rfl)) (fun _ _ _ h => h) (Or.inl ⟨by rfl, ?_⟩) ?_ ?_
                                  rotate_left
                                  · intro w'
                                    go_simp
                                    with_reducible rfl
                                  rotate_left
                                  · simp only [Act.put, List.setIfInBounds_toArray, List.set_cons_zero, List.set_cons_succ, i64_w, i32_w]
                                    rfl
                                  refine pure_ (i := 1) (N := some 56) (v := ?_) (a' := ?_) #[true, true, false, false, false, false, false, false, false, false, false, false, false, false] rfl rfl (any_of HT_.out (by kernel_rfl)) (fun _ _ _ h => h) (Or.inl ⟨by rfl, ?_⟩) ?_ ?_
                                  rotate_left
                                  · intro w'
                                    go_simp
                                    with_reducible rfl
                                  rotate_left
                                  · simp only [Act.put, List.setIfInBounds_toArray, List.set_cons_zero, List.set_cons_succ, i64_w, i32_w]
                                    rfl
                                  refine pure_ (i := 2) (N := some 57) (v := ?_) (a' := ?_) #[true, true, true, false, false, false, false, false, false, false, false, false, false, false] rfl rfl (any_of HT_.out (by kernel_rfl)) (fun _ _ _ h => h) (Or.inl ⟨by rfl, ?_⟩) ?_ ?_
                                  rotate_left
                                  · intro w'
                                    go_simp
                                    with_reducible rfl
                                  rotate_left
                                  · simp only [Act.put, List.setIfInBounds_toArray, List.set_cons_zero, List.set_cons_succ, i64_w, i32_w]
                                    rfl
                                  refine pure_ (i := 4) (N := some 59) (v := ?_) (a' := ?_) #[true, true, true, false, true, false, false, false, false, false, false, false, false, false] rfl rfl (any_of HT_.out (by kernel_rfl)) (fun _ _ _ h => h) (Or.inl ⟨by rfl, ?_⟩) ?_ ?_
                                  rotate_left
                                  · intro w'
                                    go_simp
                                    with_reducible rfl
                                  rotate_left
                                  · simp only [Act.put, List.setIfInBounds_toArray, List.set_cons_zero, List.set_cons_succ, i64_w, i32_w]
                                    rfl
                                  refine pure_ (i := 5) (N := some 60) (v := ?_) (a' := ?_) #[true, true, true, false, true, true, false, false, false, false, false, false, false, false] rfl rfl (any_of HT_.out (by kernel_rfl)) (fun _ _ _ h => h) (Or.inl ⟨by rfl, ?_⟩) ?_ ?_
                                  rotate_left
                                  · intro w'
                                    go_simp
                                    with_reducible rfl
                                  rotate_left
                                  · simp only [Act.put, List.setIfInBounds_toArray, List.set_cons_zero, List.set_cons_succ, i64_w, i32_w]
                                    rfl
                                  refine pure_ (i := 6) (N := some 61) (v := ?_) (a' := ?_) #[true, true, true, false, true, true, true, false, false, false, false, false, false, false] rfl rfl (any_of HT_.out (by kernel_rfl)) (fun _ _ _ h => h) (Or.inl ⟨by rfl, ?_⟩) ?_ ?_
                                  rotate_left
                                  · intro w'
                                    go_simp
                                    with_reducible rfl
                                  rotate_left
                                  · simp only [Act.put, List.setIfInBounds_toArray, List.set_cons_zero, List.set_cons_succ, i64_w, i32_w]
                                    rfl
                                  refine pure_ (i := 7) (N := some 62) (v := ?_) (a' := ?_) #[true, true, true, false, true, true, true, true, false, false, false, false, false, false] rfl rfl (any_of HT_.out (by kernel_rfl)) (fun _ _ _ h => h) (Or.inl ⟨by rfl, ?_⟩) ?_ ?_
                                  rotate_left
                                  · intro w'
                                    go_simp
                                    with_reducible rfl
                                  rotate_left
                                  · simp only [Act.put, List.setIfInBounds_toArray, List.set_cons_zero, List.set_cons_succ, i64_w, i32_w]
                                    rfl
                                  refine pure_ (i := 8) (N := some 63) (v := ?_) (a' := ?_) #[true, true, true, false, true, true, true, true, true, false, false, false, false, false] rfl rfl (any_of HT_.out (by kernel_rfl)) (fun _ _ _ h => h) (Or.inl ⟨by rfl, ?_⟩) ?_ ?_
                                  rotate_left
                                  · intro w'
                                    go_simp
                                    with_reducible rfl
                                  rotate_left
                                  · simp only [Act.put, List.setIfInBounds_toArray, List.set_cons_zero, List.set_cons_succ, i64_w, i32_w]
                                    rfl
                                  refine take_ (i := 3) (N := some 58) (v := ?_) (a' := ?_) #[true, true, true, true, true, true, true, true, true, false, false, false, false, false] rfl rfl (take_ofW HT_.out HW_.out (by kernel_rfl)) (fun _ _ _ h => h) (Or.inl ⟨by rfl, ?_⟩) hHeld ?_ ?_
                                  rotate_left
                                  · rintro w' ⟨s0, s1, s2, s3, s4, s5⟩
                                    go_simp
                                    with_reducible rfl
                                  rotate_left
                                  · simp only [Act.put, List.setIfInBounds_toArray, List.set_cons_zero, List.set_cons_succ, i64_w, i32_w]
                                    rfl
                                  refine take_ (i := 9) (N := some 64) (v := ?_) (a' := ?_) #[true, true, true, true, true, true, true, true, true, true, false, false, false, false] rfl rfl (take_ofW HT_.out HW_.out (by kernel_rfl)) (fun _ _ _ h => h) (Or.inl ⟨by rfl, ?_⟩) hHeld ?_ ?_
                                  rotate_left
                                  · rintro w' ⟨s0, s1, s2, s3, s4, s5⟩
                                    go_simp
                                    with_reducible rfl
                                  rotate_left
                                  · simp only [Act.put, List.setIfInBounds_toArray, List.set_cons_zero, List.set_cons_succ, i64_w, i32_w]
                                    rfl
                                  refine join_ (σ := Nat × Nat) 2 #[true, true, true, true, true, true, true, true, true, true, true, true, false, false] (fun s_ => [(10, .pointer (some ⟨s_.1, 0, none⟩)), (11, .pointer (some ⟨s_.2, 0, none⟩))]) (fun s_ w' => (w'.cell? (ad271.add (((ji38)).toNat * 3)) = some (.int .i64 ((rd_T31 x6_20 (ji38)).f0)) ∧ w'.cell? ⟨(ad271.add (((ji38)).toNat * 3)).block, (ad271.add (((ji38)).toNat * 3)).off + 1, none⟩ = some (.int .i64 ((rd_T31 x6_20 (ji38)).f1)) ∧ w'.cell? ⟨(ad271.add (((ji38)).toNat * 3)).block, (ad271.add (((ji38)).toNat * 3)).off + 2, none⟩ = some (.string ((rd_T31 x6_20 (ji38)).f2)) ∧ w'.cell? (ad271.add (((ji41)).toNat * 3)) = some (.int .i64 ((rd_T31 x6_20 (ji41)).f0)) ∧ w'.cell? ⟨(ad271.add (((ji41)).toNat * 3)).block, (ad271.add (((ji41)).toNat * 3)).off + 1, none⟩ = some (.int .i64 ((rd_T31 x6_20 (ji41)).f1)) ∧ w'.cell? ⟨(ad271.add (((ji41)).toNat * 3)).block, (ad271.add (((ji41)).toNat * 3)).off + 2, none⟩ = some (.string ((rd_T31 x6_20 (ji41)).f2))) ∧ (Kd.R k31 31 w' w.heap.size (fun k_ => k_ ≠ gb257 ∧ k_ ≠ s_.1 ∧ k_ ≠ s_.2) (.slice (some ad271) x6_20.length co46) x6_20) ∧ (w'.heap[gb257]? = some (.cells #[.int .i64 x258000_3, .int .i64 x258001_3, .string x258002_3] 31 (0, 0))) ∧ (w'.heap[gb262]? = some (.cells #[.int .i64 ((rd_T39 l0 x26_3).f0), .int .i64 ((rd_T39 l0 x26_3).f1), .int .i64 ((rd_T39 l0 x26_3).f2.f0), .int .i64 ((rd_T39 l0 x26_3).f2.f1), .string ((rd_T39 l0 x26_3).f2.f2)] 39 (0, 0))) ∧ (w'.heap[s_.1]? = some (.cells #[.int .i64 0, .int .i64 0, .string (⟨#[]⟩ : ByteArray)] 31 (0, 0))) ∧ (w'.heap[s_.2]? = some (.cells #[.int .i64 0, .int .i64 0, .string (⟨#[]⟩ : ByteArray)] 31 (0, 0))) ∧ (w.heap.size ≤ s_.1) ∧ (w.heap.size ≤ s_.1) ∧ (gb257 ≠ s_.1) ∧ (s_.1 ≠ gb257) ∧ (gb262 ≠ s_.1) ∧ (s_.1 ≠ gb262) ∧ (s_.2 ≠ s_.1) ∧ (s_.1 ≠ s_.2) ∧ (w.heap.size ≤ s_.2) ∧ (w.heap.size ≤ s_.2) ∧ (gb257 ≠ s_.2) ∧ (s_.2 ≠ gb257) ∧ (gb262 ≠ s_.2) ∧ (s_.2 ≠ gb262) ∧ (Below w.heap.size w w')) ?_ ?_
                                  rotate_left
                                  · intro hCont
                                    refine two_ (i := 10) (j := 11) (Ni := some 10) (Nj := some 11) #[true, true, true, true, true, true, true, true, true, true, true, false, false, false] #[true, true, true, true, true, true, true, true, true, true, false, true, false, false] rfl rfl rfl rfl (two_of HT_.out (by kernel_rfl)) (by decide) (by decide) (fun K hK => ?_) (fun K hK => ?_)
                                    · skip
                                      refine box_step ?hg (N := 10) ?hd (cs := #[.int .i64 0, .int .i64 0, .string (⟨#[]⟩ : ByteArray)]) (t := 31) ?hr ?_; (case hd => rfl); (case hg => rfl); (case hr => first | (go_simp; done) | (go_simp; rfl))
                                      intro gb273 hg w50 hbox hb
                                      have HS0_ := (hb.cell (World.block_lt_of_cell? _ _ (hHeld.1))).trans (hHeld.1)
                                      have HS1_ := (hb.cell (World.block_lt_of_cell? _ _ (hHeld.2.1))).trans (hHeld.2.1)
                                      have HS2_ := (hb.cell (World.block_lt_of_cell? _ _ (hHeld.2.2.1))).trans (hHeld.2.2.1)
                                      have HS3_ := (hb.cell (World.block_lt_of_cell? _ _ (hHeld.2.2.2.1))).trans (hHeld.2.2.2.1)
                                      have HS4_ := (hb.cell (World.block_lt_of_cell? _ _ (hHeld.2.2.2.2.1))).trans (hHeld.2.2.2.2.1)
                                      have HS5_ := (hb.cell (World.block_lt_of_cell? _ _ (hHeld.2.2.2.2.2))).trans (hHeld.2.2.2.2.2)
                                      have n0_ := Aside0.mk (Kd.R_below (Kd.R_elderB q26_ gb273 (Nat.le_of_eq hg.symm)) hb)
                                      have n1_ := Aside0.mk (blk_below (g := gb257) (o := .cells #[.int .i64 x258000_3, .int .i64 x258001_3, .string x258002_3] 31 (0, 0)) q14_ hb)
                                      have n2_ := Aside0.mk (blk_below (g := gb262) (o := .cells #[.int .i64 ((rd_T39 l0 x26_3).f0), .int .i64 ((rd_T39 l0 x26_3).f1), .int .i64 ((rd_T39 l0 x26_3).f2.f0), .int .i64 ((rd_T39 l0 x26_3).f2.f1), .string ((rd_T39 l0 x26_3).f2.f2)] 39 (0, 0)) q31_ hb)
                                      have n3_ := Aside0.mk (below_step q0_ hb)
                                      have n4_ := Aside0.mk (hbox)
                                      have n5_ := Aside0.mk ((q1_ : w.heap.size ≤ gb273))
                                      have n6_ := Aside0.mk ((q1_ : w.heap.size ≤ gb273))
                                      have n7_ := Aside0.mk ((q76_ : gb257 ≠ gb273))
                                      have n8_ := Aside0.mk ((q77_ : gb273 ≠ gb257))
                                      have n9_ := Aside0.mk ((q37_ : gb262 ≠ gb273))
                                      have n10_ := Aside0.mk ((q38_ : gb273 ≠ gb262))
                                      clear HO_6
                                      clear BK257
                                      clear BK262
                                      clear HB
                                      have HO_6 := n0_
                                      have BK257 := n1_
                                      have BK262 := n2_
                                      have HB := n3_
                                      have BK273 := n4_
                                      have GW273 := n5_
                                      have GE273 := n6_
                                      have NB257_273 := n7_
                                      have NB273_257 := n8_
                                      have NB262_273 := n9_
                                      have NB273_262 := n10_
                                      clear n0_ n1_ n2_ n3_ n4_ n5_ n6_ n7_ n8_ n9_ n10_
                                      clear hb hbox hg
                                      refine hK.out _ _ ⟨HS0_, HS1_, HS2_, HS3_, HS4_, HS5_⟩ (fun hHeld => ?_)
                                      clear hK K
                                      refine norm_ (a' := ?_) ?_ ?_
                                      rotate_left
                                      · show Act.put _ (some 10) _ = _
                                        simp only [Act.put, List.setIfInBounds_toArray, List.set_cons_zero, List.set_cons_succ, i64_w, i32_w]
                                        rfl
                                      refine one_ (i := 11) (N := some 11) #[true, true, true, true, true, true, true, true, true, true, true, true, false, false] rfl rfl (one_of HT_.out (by kernel_rfl)) (by decide) (fun K hK => ?_)
                                      refine box_step ?hg (N := 11) ?hd (cs := #[.int .i64 0, .int .i64 0, .string (⟨#[]⟩ : ByteArray)]) (t := 31) ?hr ?_; (case hd => rfl); (case hg => rfl); (case hr => first | (go_simp; done) | (go_simp; rfl))
                                      intro gb274 hg w51 hbox hb
                                      have HS0_ := (hb.cell (World.block_lt_of_cell? _ _ (hHeld.1))).trans (hHeld.1)
                                      have HS1_ := (hb.cell (World.block_lt_of_cell? _ _ (hHeld.2.1))).trans (hHeld.2.1)
                                      have HS2_ := (hb.cell (World.block_lt_of_cell? _ _ (hHeld.2.2.1))).trans (hHeld.2.2.1)
                                      have HS3_ := (hb.cell (World.block_lt_of_cell? _ _ (hHeld.2.2.2.1))).trans (hHeld.2.2.2.1)
                                      have HS4_ := (hb.cell (World.block_lt_of_cell? _ _ (hHeld.2.2.2.2.1))).trans (hHeld.2.2.2.2.1)
                                      have HS5_ := (hb.cell (World.block_lt_of_cell? _ _ (hHeld.2.2.2.2.2))).trans (hHeld.2.2.2.2.2)
                                      have n0_ := Aside0.mk (Kd.R_below (Kd.R_elderB q26_ gb274 (Nat.le_of_eq hg.symm)) hb)
                                      have n1_ := Aside0.mk (blk_below (g := gb257) (o := .cells #[.int .i64 x258000_3, .int .i64 x258001_3, .string x258002_3] 31 (0, 0)) q14_ hb)
                                      have n2_ := Aside0.mk (blk_below (g := gb262) (o := .cells #[.int .i64 ((rd_T39 l0 x26_3).f0), .int .i64 ((rd_T39 l0 x26_3).f1), .int .i64 ((rd_T39 l0 x26_3).f2.f0), .int .i64 ((rd_T39 l0 x26_3).f2.f1), .string ((rd_T39 l0 x26_3).f2.f2)] 39 (0, 0)) q31_ hb)
                                      have n3_ := Aside0.mk (blk_below (g := gb273) (o := .cells #[.int .i64 0, .int .i64 0, .string (⟨#[]⟩ : ByteArray)] 31 (0, 0)) q61_ hb)
                                      have n4_ := Aside0.mk (below_step q0_ hb)
                                      have n5_ := Aside0.mk (hbox)
                                      have n6_ := Aside0.mk ((q1_ : w.heap.size ≤ gb274))
                                      have n7_ := Aside0.mk ((q1_ : w.heap.size ≤ gb274))
                                      have n8_ := Aside0.mk ((q76_ : gb257 ≠ gb274))
                                      have n9_ := Aside0.mk ((q77_ : gb274 ≠ gb257))
                                      have n10_ := Aside0.mk ((q37_ : gb262 ≠ gb274))
                                      have n11_ := Aside0.mk ((q38_ : gb274 ≠ gb262))
                                      have n12_ := Aside0.mk ((by rw [hg]; exact Nat.ne_of_lt (blk_lt (g := gb273) (o := .cells #[.int .i64 0, .int .i64 0, .string (⟨#[]⟩ : ByteArray)] 31 (0, 0)) q61_) : gb273 ≠ gb274))
                                      have n13_ := Aside0.mk ((by rw [hg]; exact Nat.ne_of_gt (blk_lt (g := gb273) (o := .cells #[.int .i64 0, .int .i64 0, .string (⟨#[]⟩ : ByteArray)] 31 (0, 0)) q61_) : gb274 ≠ gb273))
                                      clear HO_6
                                      clear BK257
                                      clear BK262
                                      clear BK273
                                      clear HB
                                      have HO_6 := n0_
                                      have BK257 := n1_
                                      have BK262 := n2_
                                      have BK273 := n3_
                                      have HB := n4_
                                      have BK274 := n5_
                                      have GW274 := n6_
                                      have GE274 := n7_
                                      have NB257_274 := n8_
                                      have NB274_257 := n9_
                                      have NB262_274 := n10_
                                      have NB274_262 := n11_
                                      have NB273_274 := n12_
                                      have NB274_273 := n13_
                                      clear n0_ n1_ n2_ n3_ n4_ n5_ n6_ n7_ n8_ n9_ n10_ n11_ n12_ n13_
                                      clear hb hbox hg
                                      refine hK.out _ _ ⟨HS0_, HS1_, HS2_, HS3_, HS4_, HS5_⟩ (fun hHeld => ?_)
                                      clear hK K
                                      refine norm_ (a' := ?_) ?_ ?_
                                      rotate_left
                                      · show Act.put _ (some 11) _ = _
                                        simp only [Act.put, List.setIfInBounds_toArray, List.set_cons_zero, List.set_cons_succ, i64_w, i32_w]
                                        rfl
                                      exact norm_ (by simp only [putAll, Act.put, List.setIfInBounds_toArray, List.set_cons_zero, List.set_cons_succ]) (hCont (gb273, gb274) _ ⟨hHeld, (by (with_reducible repeat (first | apply Kd.R_alloc | apply Kd.R_drewN | apply Kd.R_drew)); exact Kd.R_mono HO_6.out (fun _ hk => ⟨hk.1.1, ⟨hk.1.2, hk.2⟩⟩)), q14_, q31_, q61_, q60_, GW273.out, GE273.out, NB257_273.out, NB273_257.out, NB262_273.out, NB273_262.out, NB274_273.out, NB273_274.out, GW274.out, GE274.out, NB257_274.out, NB274_257.out, NB262_274.out, NB274_262.out, q0_⟩)
                                    · skip
                                      refine box_step ?hg (N := 11) ?hd (cs := #[.int .i64 0, .int .i64 0, .string (⟨#[]⟩ : ByteArray)]) (t := 31) ?hr ?_; (case hd => rfl); (case hg => rfl); (case hr => first | (go_simp; done) | (go_simp; rfl))
                                      intro gb274 hg w50 hbox hb
                                      have HS0_ := (hb.cell (World.block_lt_of_cell? _ _ (hHeld.1))).trans (hHeld.1)
                                      have HS1_ := (hb.cell (World.block_lt_of_cell? _ _ (hHeld.2.1))).trans (hHeld.2.1)
                                      have HS2_ := (hb.cell (World.block_lt_of_cell? _ _ (hHeld.2.2.1))).trans (hHeld.2.2.1)
                                      have HS3_ := (hb.cell (World.block_lt_of_cell? _ _ (hHeld.2.2.2.1))).trans (hHeld.2.2.2.1)
                                      have HS4_ := (hb.cell (World.block_lt_of_cell? _ _ (hHeld.2.2.2.2.1))).trans (hHeld.2.2.2.2.1)
                                      have HS5_ := (hb.cell (World.block_lt_of_cell? _ _ (hHeld.2.2.2.2.2))).trans (hHeld.2.2.2.2.2)
                                      have n0_ := Aside0.mk (Kd.R_below (Kd.R_elderB q26_ gb274 (Nat.le_of_eq hg.symm)) hb)
                                      have n1_ := Aside0.mk (blk_below (g := gb257) (o := .cells #[.int .i64 x258000_3, .int .i64 x258001_3, .string x258002_3] 31 (0, 0)) q14_ hb)
                                      have n2_ := Aside0.mk (blk_below (g := gb262) (o := .cells #[.int .i64 ((rd_T39 l0 x26_3).f0), .int .i64 ((rd_T39 l0 x26_3).f1), .int .i64 ((rd_T39 l0 x26_3).f2.f0), .int .i64 ((rd_T39 l0 x26_3).f2.f1), .string ((rd_T39 l0 x26_3).f2.f2)] 39 (0, 0)) q31_ hb)
                                      have n3_ := Aside0.mk (below_step q0_ hb)
                                      have n4_ := Aside0.mk (hbox)
                                      have n5_ := Aside0.mk ((q1_ : w.heap.size ≤ gb274))
                                      have n6_ := Aside0.mk ((q1_ : w.heap.size ≤ gb274))
                                      have n7_ := Aside0.mk ((q76_ : gb257 ≠ gb274))
                                      have n8_ := Aside0.mk ((q77_ : gb274 ≠ gb257))
                                      have n9_ := Aside0.mk ((q37_ : gb262 ≠ gb274))
                                      have n10_ := Aside0.mk ((q38_ : gb274 ≠ gb262))
                                      clear HO_6
                                      clear BK257
                                      clear BK262
                                      clear HB
                                      have HO_6 := n0_
                                      have BK257 := n1_
                                      have BK262 := n2_
                                      have HB := n3_
                                      have BK274 := n4_
                                      have GW274 := n5_
                                      have GE274 := n6_
                                      have NB257_274 := n7_
                                      have NB274_257 := n8_
                                      have NB262_274 := n9_
                                      have NB274_262 := n10_
                                      clear n0_ n1_ n2_ n3_ n4_ n5_ n6_ n7_ n8_ n9_ n10_
                                      clear hb hbox hg
                                      refine hK.out _ _ ⟨HS0_, HS1_, HS2_, HS3_, HS4_, HS5_⟩ (fun hHeld => ?_)
                                      clear hK K
                                      refine norm_ (a' := ?_) ?_ ?_
                                      rotate_left
                                      · show Act.put _ (some 11) _ = _
                                        simp only [Act.put, List.setIfInBounds_toArray, List.set_cons_zero, List.set_cons_succ, i64_w, i32_w]
                                        rfl
                                      refine one_ (i := 10) (N := some 10) #[true, true, true, true, true, true, true, true, true, true, true, true, false, false] rfl rfl (one_of HT_.out (by kernel_rfl)) (by decide) (fun K hK => ?_)
                                      refine box_step ?hg (N := 10) ?hd (cs := #[.int .i64 0, .int .i64 0, .string (⟨#[]⟩ : ByteArray)]) (t := 31) ?hr ?_; (case hd => rfl); (case hg => rfl); (case hr => first | (go_simp; done) | (go_simp; rfl))
                                      intro gb273 hg w51 hbox hb
                                      have HS0_ := (hb.cell (World.block_lt_of_cell? _ _ (hHeld.1))).trans (hHeld.1)
                                      have HS1_ := (hb.cell (World.block_lt_of_cell? _ _ (hHeld.2.1))).trans (hHeld.2.1)
                                      have HS2_ := (hb.cell (World.block_lt_of_cell? _ _ (hHeld.2.2.1))).trans (hHeld.2.2.1)
                                      have HS3_ := (hb.cell (World.block_lt_of_cell? _ _ (hHeld.2.2.2.1))).trans (hHeld.2.2.2.1)
                                      have HS4_ := (hb.cell (World.block_lt_of_cell? _ _ (hHeld.2.2.2.2.1))).trans (hHeld.2.2.2.2.1)
                                      have HS5_ := (hb.cell (World.block_lt_of_cell? _ _ (hHeld.2.2.2.2.2))).trans (hHeld.2.2.2.2.2)
                                      have n0_ := Aside0.mk (Kd.R_below (Kd.R_elderB q26_ gb273 (Nat.le_of_eq hg.symm)) hb)
                                      have n1_ := Aside0.mk (blk_below (g := gb257) (o := .cells #[.int .i64 x258000_3, .int .i64 x258001_3, .string x258002_3] 31 (0, 0)) q14_ hb)
                                      have n2_ := Aside0.mk (blk_below (g := gb262) (o := .cells #[.int .i64 ((rd_T39 l0 x26_3).f0), .int .i64 ((rd_T39 l0 x26_3).f1), .int .i64 ((rd_T39 l0 x26_3).f2.f0), .int .i64 ((rd_T39 l0 x26_3).f2.f1), .string ((rd_T39 l0 x26_3).f2.f2)] 39 (0, 0)) q31_ hb)
                                      have n3_ := Aside0.mk (blk_below (g := gb274) (o := .cells #[.int .i64 0, .int .i64 0, .string (⟨#[]⟩ : ByteArray)] 31 (0, 0)) q60_ hb)
                                      have n4_ := Aside0.mk (below_step q0_ hb)
                                      have n5_ := Aside0.mk (hbox)
                                      have n6_ := Aside0.mk ((q1_ : w.heap.size ≤ gb273))
                                      have n7_ := Aside0.mk ((q1_ : w.heap.size ≤ gb273))
                                      have n8_ := Aside0.mk ((q76_ : gb257 ≠ gb273))
                                      have n9_ := Aside0.mk ((q77_ : gb273 ≠ gb257))
                                      have n10_ := Aside0.mk ((q37_ : gb262 ≠ gb273))
                                      have n11_ := Aside0.mk ((q38_ : gb273 ≠ gb262))
                                      have n12_ := Aside0.mk ((by rw [hg]; exact Nat.ne_of_lt (blk_lt (g := gb274) (o := .cells #[.int .i64 0, .int .i64 0, .string (⟨#[]⟩ : ByteArray)] 31 (0, 0)) q60_) : gb274 ≠ gb273))
                                      have n13_ := Aside0.mk ((by rw [hg]; exact Nat.ne_of_gt (blk_lt (g := gb274) (o := .cells #[.int .i64 0, .int .i64 0, .string (⟨#[]⟩ : ByteArray)] 31 (0, 0)) q60_) : gb273 ≠ gb274))
                                      clear HO_6
                                      clear BK257
                                      clear BK262
                                      clear BK274
                                      clear HB
                                      have HO_6 := n0_
                                      have BK257 := n1_
                                      have BK262 := n2_
                                      have BK274 := n3_
                                      have HB := n4_
                                      have BK273 := n5_
                                      have GW273 := n6_
                                      have GE273 := n7_
                                      have NB257_273 := n8_
                                      have NB273_257 := n9_
                                      have NB262_273 := n10_
                                      have NB273_262 := n11_
                                      have NB274_273 := n12_
                                      have NB273_274 := n13_
                                      clear n0_ n1_ n2_ n3_ n4_ n5_ n6_ n7_ n8_ n9_ n10_ n11_ n12_ n13_
                                      clear hb hbox hg
                                      refine hK.out _ _ ⟨HS0_, HS1_, HS2_, HS3_, HS4_, HS5_⟩ (fun hHeld => ?_)
                                      clear hK K
                                      refine norm_ (a' := ?_) ?_ ?_
                                      rotate_left
                                      · show Act.put _ (some 10) _ = _
                                        simp only [Act.put, List.setIfInBounds_toArray, List.set_cons_zero, List.set_cons_succ, i64_w, i32_w]
                                        rfl
                                      exact norm_ (by simp only [putAll, Act.put, List.setIfInBounds_toArray, List.set_cons_zero, List.set_cons_succ]) (hCont (gb273, gb274) _ ⟨hHeld, (by (with_reducible repeat (first | apply Kd.R_alloc | apply Kd.R_drewN | apply Kd.R_drew)); exact Kd.R_mono HO_6.out (fun _ hk => ⟨hk.1.1, ⟨hk.2, hk.1.2⟩⟩)), q14_, q31_, q61_, q60_, GW273.out, GE273.out, NB257_273.out, NB273_257.out, NB262_273.out, NB273_262.out, NB274_273.out, NB273_274.out, GW274.out, GE274.out, NB257_274.out, NB274_257.out, NB262_274.out, NB274_262.out, q0_⟩)
                                  rintro ⟨gb273, gb274⟩ w52 ⟨hS_, h0_, h1_, h2_, h3_, h4_, h5_, h6_, h7_, h8_, h9_, h10_, h11_, h12_, h13_, h14_, h15_, h16_, h17_, h18_, h19_⟩
                                  have n0_ : Aside0 (Kd.R k31 31 w52 w.heap.size (fun k_ => k_ ≠ gb257 ∧ k_ ≠ gb273 ∧ k_ ≠ gb274) (.slice (some ad271) x6_20.length co46) x6_20) := ⟨h0_⟩
                                  have n1_ : Aside0 (w52.heap[gb257]? = some (.cells #[.int .i64 x258000_3, .int .i64 x258001_3, .string x258002_3] 31 (0, 0))) := ⟨h1_⟩
                                  have n2_ : Aside0 (w52.heap[gb262]? = some (.cells #[.int .i64 ((rd_T39 l0 x26_3).f0), .int .i64 ((rd_T39 l0 x26_3).f1), .int .i64 ((rd_T39 l0 x26_3).f2.f0), .int .i64 ((rd_T39 l0 x26_3).f2.f1), .string ((rd_T39 l0 x26_3).f2.f2)] 39 (0, 0))) := ⟨h2_⟩
                                  have n3_ : Aside0 (w52.heap[gb273]? = some (.cells #[.int .i64 0, .int .i64 0, .string (⟨#[]⟩ : ByteArray)] 31 (0, 0))) := ⟨h3_⟩
                                  have n4_ : Aside0 (w52.heap[gb274]? = some (.cells #[.int .i64 0, .int .i64 0, .string (⟨#[]⟩ : ByteArray)] 31 (0, 0))) := ⟨h4_⟩
                                  have n5_ : Aside0 (w.heap.size ≤ gb273) := ⟨h5_⟩
                                  have n6_ : Aside0 (w.heap.size ≤ gb273) := ⟨h6_⟩
                                  have n7_ : Aside0 (gb257 ≠ gb273) := ⟨h7_⟩
                                  have n8_ : Aside0 (gb273 ≠ gb257) := ⟨h8_⟩
                                  have n9_ : Aside0 (gb262 ≠ gb273) := ⟨h9_⟩
                                  have n10_ : Aside0 (gb273 ≠ gb262) := ⟨h10_⟩
                                  have n11_ : Aside0 (gb274 ≠ gb273) := ⟨h11_⟩
                                  have n12_ : Aside0 (gb273 ≠ gb274) := ⟨h12_⟩
                                  have n13_ : Aside0 (w.heap.size ≤ gb274) := ⟨h13_⟩
                                  have n14_ : Aside0 (w.heap.size ≤ gb274) := ⟨h14_⟩
                                  have n15_ : Aside0 (gb257 ≠ gb274) := ⟨h15_⟩
                                  have n16_ : Aside0 (gb274 ≠ gb257) := ⟨h16_⟩
                                  have n17_ : Aside0 (gb262 ≠ gb274) := ⟨h17_⟩
                                  have n18_ : Aside0 (gb274 ≠ gb262) := ⟨h18_⟩
                                  have n19_ : Aside0 (Below w.heap.size w w52) := ⟨h19_⟩
                                  clear HO_6
                                  clear BK257
                                  clear BK262
                                  clear HB
                                  clear h0_ h1_ h2_ h3_ h4_ h5_ h6_ h7_ h8_ h9_ h10_ h11_ h12_ h13_ h14_ h15_ h16_ h17_ h18_ h19_
                                  have HO_6 := n0_
                                  have BK257 := n1_
                                  have BK262 := n2_
                                  have BK273 := n3_
                                  have BK274 := n4_
                                  have GW273 := n5_
                                  have GE273 := n6_
                                  have NB257_273 := n7_
                                  have NB273_257 := n8_
                                  have NB262_273 := n9_
                                  have NB273_262 := n10_
                                  have NB274_273 := n11_
                                  have NB273_274 := n12_
                                  have GW274 := n13_
                                  have GE274 := n14_
                                  have NB257_274 := n15_
                                  have NB274_257 := n16_
                                  have NB262_274 := n17_
                                  have NB274_262 := n18_
                                  have HB := n19_
                                  clear n0_ n1_ n2_ n3_ n4_ n5_ n6_ n7_ n8_ n9_ n10_ n11_ n12_ n13_ n14_ n15_ n16_ n17_ n18_ n19_
                                  have hHeld : w52.cell? (ad271.add (((ji38)).toNat * 3)) = some (.int .i64 ((rd_T31 x6_20 (ji38)).f0)) ∧ w52.cell? ⟨(ad271.add (((ji38)).toNat * 3)).block, (ad271.add (((ji38)).toNat * 3)).off + 1, none⟩ = some (.int .i64 ((rd_T31 x6_20 (ji38)).f1)) ∧ w52.cell? ⟨(ad271.add (((ji38)).toNat * 3)).block, (ad271.add (((ji38)).toNat * 3)).off + 2, none⟩ = some (.string ((rd_T31 x6_20 (ji38)).f2)) ∧ w52.cell? (ad271.add (((ji41)).toNat * 3)) = some (.int .i64 ((rd_T31 x6_20 (ji41)).f0)) ∧ w52.cell? ⟨(ad271.add (((ji41)).toNat * 3)).block, (ad271.add (((ji41)).toNat * 3)).off + 1, none⟩ = some (.int .i64 ((rd_T31 x6_20 (ji41)).f1)) ∧ w52.cell? ⟨(ad271.add (((ji41)).toNat * 3)).block, (ad271.add (((ji41)).toNat * 3)).off + 2, none⟩ = some (.string ((rd_T31 x6_20 (ji41)).f2)) := hS_
                                  refine norm_ (a' := ?_) ?_ ?_
                                  rotate_left
                                  · simp only [putAll, Act.put, List.setIfInBounds_toArray, List.set_cons_zero, List.set_cons_succ]
                                    rfl
                                  refine one_ (i := 12) (N := none) #[true, true, true, true, true, true, true, true, true, true, true, true, true, false] rfl rfl (one_of HT_.out (by kernel_rfl)) (by decide) (fun K hK => ?_)
                                  have hs53 : w52.cell? ⟨gb273, 0, none⟩ = some (.int .i64 0) := (blk_cell BK273.out 0).trans rfl
                                  have hfs53 := blk_frozen BK273.out 0
                                  have hns53_0 := NB257_273.out
                                  have hns53_1 := NB262_273.out
                                  have hns53_3 := NB274_273.out
                                  have hms53_0 := NB273_257.out
                                  have hms53_1 := NB273_262.out
                                  have hms53_3 := NB273_274.out
                                  have hs54 : w52.cell? ⟨gb273, 1, none⟩ = some (.int .i64 0) := (blk_cell BK273.out 1).trans rfl
                                  have hfs54 := blk_frozen BK273.out 1
                                  have hns54_0 := NB257_273.out
                                  have hns54_1 := NB262_273.out
                                  have hns54_3 := NB274_273.out
                                  have hms54_0 := NB273_257.out
                                  have hms54_1 := NB273_262.out
                                  have hms54_3 := NB273_274.out
                                  have hs55 : w52.cell? ⟨gb273, 2, none⟩ = some (.string (⟨#[]⟩ : ByteArray)) := (blk_cell BK273.out 2).trans rfl
                                  have hfs55 := blk_frozen BK273.out 2
                                  have hns55_0 := NB257_273.out
                                  have hns55_1 := NB262_273.out
                                  have hns55_3 := NB274_273.out
                                  have hms55_0 := NB273_257.out
                                  have hms55_1 := NB273_262.out
                                  have hms55_3 := NB273_274.out
                                  refine skip_ (w1 := ?_) (by rfl) rfl ?_ ?_
                                  rotate_left
                                  · go_simp
                                    rfl
                                  refine hK.out _ _ ⟨((cell_far (p := ⟨gb273, _, none⟩) q9_ _).trans (((cell_far (p := ⟨gb273, _, none⟩) q9_ _).trans (((cell_far (p := ⟨gb273, _, none⟩) q9_ _).trans (hHeld.1)))))), ((cell_far (p := ⟨gb273, _, none⟩) q9_ _).trans (((cell_far (p := ⟨gb273, _, none⟩) q9_ _).trans (((cell_far (p := ⟨gb273, _, none⟩) q9_ _).trans (hHeld.2.1)))))), ((cell_far (p := ⟨gb273, _, none⟩) q9_ _).trans (((cell_far (p := ⟨gb273, _, none⟩) q9_ _).trans (((cell_far (p := ⟨gb273, _, none⟩) q9_ _).trans (hHeld.2.2.1)))))), ((cell_far (p := ⟨gb273, _, none⟩) q9_ _).trans (((cell_far (p := ⟨gb273, _, none⟩) q9_ _).trans (((cell_far (p := ⟨gb273, _, none⟩) q9_ _).trans (hHeld.2.2.2.1)))))), ((cell_far (p := ⟨gb273, _, none⟩) q9_ _).trans (((cell_far (p := ⟨gb273, _, none⟩) q9_ _).trans (((cell_far (p := ⟨gb273, _, none⟩) q9_ _).trans (hHeld.2.2.2.2.1)))))), ((cell_far (p := ⟨gb273, _, none⟩) q9_ _).trans (((cell_far (p := ⟨gb273, _, none⟩) q9_ _).trans (((cell_far (p := ⟨gb273, _, none⟩) q9_ _).trans (hHeld.2.2.2.2.2))))))⟩ (fun hHeld => ?_)
                                  clear hK K
                                  refine one_ (i := 13) (N := none) #[true, true, true, true, true, true, true, true, true, true, true, true, true, true] rfl rfl (one_of HT_.out (by kernel_rfl)) (by decide) (fun K hK => ?_)
                                  have hs56 : w52.cell? ⟨gb274, 0, none⟩ = some (.int .i64 0) := (blk_cell BK274.out 0).trans rfl
                                  have hfs56 := blk_frozen BK274.out 0
                                  have hns56_0 := NB257_274.out
                                  have hns56_1 := NB262_274.out
                                  have hns56_2 := NB273_274.out
                                  have hms56_0 := NB274_257.out
                                  have hms56_1 := NB274_262.out
                                  have hms56_2 := NB274_273.out
                                  have hs57 : w52.cell? ⟨gb274, 1, none⟩ = some (.int .i64 0) := (blk_cell BK274.out 1).trans rfl
                                  have hfs57 := blk_frozen BK274.out 1
                                  have hns57_0 := NB257_274.out
                                  have hns57_1 := NB262_274.out
                                  have hns57_2 := NB273_274.out
                                  have hms57_0 := NB274_257.out
                                  have hms57_1 := NB274_262.out
                                  have hms57_2 := NB274_273.out
                                  have hs58 : w52.cell? ⟨gb274, 2, none⟩ = some (.string (⟨#[]⟩ : ByteArray)) := (blk_cell BK274.out 2).trans rfl
                                  have hfs58 := blk_frozen BK274.out 2
                                  have hns58_0 := NB257_274.out
                                  have hns58_1 := NB262_274.out
                                  have hns58_2 := NB273_274.out
                                  have hms58_0 := NB274_257.out
                                  have hms58_1 := NB274_262.out
                                  have hms58_2 := NB274_273.out
                                  refine skip_ (w1 := ?_) (by rfl) rfl ?_ ?_
                                  rotate_left
                                  · go_simp
                                    rfl
                                  refine hK.out _ _ ⟨((cell_far (p := ⟨gb274, _, none⟩) q8_ _).trans (((cell_far (p := ⟨gb274, _, none⟩) q8_ _).trans (((cell_far (p := ⟨gb274, _, none⟩) q8_ _).trans (hHeld.1)))))), ((cell_far (p := ⟨gb274, _, none⟩) q8_ _).trans (((cell_far (p := ⟨gb274, _, none⟩) q8_ _).trans (((cell_far (p := ⟨gb274, _, none⟩) q8_ _).trans (hHeld.2.1)))))), ((cell_far (p := ⟨gb274, _, none⟩) q8_ _).trans (((cell_far (p := ⟨gb274, _, none⟩) q8_ _).trans (((cell_far (p := ⟨gb274, _, none⟩) q8_ _).trans (hHeld.2.2.1)))))), ((cell_far (p := ⟨gb274, _, none⟩) q8_ _).trans (((cell_far (p := ⟨gb274, _, none⟩) q8_ _).trans (((cell_far (p := ⟨gb274, _, none⟩) q8_ _).trans (hHeld.2.2.2.1)))))), ((cell_far (p := ⟨gb274, _, none⟩) q8_ _).trans (((cell_far (p := ⟨gb274, _, none⟩) q8_ _).trans (((cell_far (p := ⟨gb274, _, none⟩) q8_ _).trans (hHeld.2.2.2.2.1)))))), ((cell_far (p := ⟨gb274, _, none⟩) q8_ _).trans (((cell_far (p := ⟨gb274, _, none⟩) q8_ _).trans (((cell_far (p := ⟨gb274, _, none⟩) q8_ _).trans (hHeld.2.2.2.2.2))))))⟩ (fun hHeld => ?_)
                                  clear hK K
                                  refine done_ (done_of HT_.out (by kernel_rfl)) ?_
                                  have hnb59 := NB262_273.out
                                  have hnc59 := NB273_262.out
                                  have hnb60 := NB262_274.out
                                  have hnc60 := NB274_262.out
                                  have hcz61_0 : w52.cell? ⟨gb262, 0, none⟩ = some (.int .i64 ((rd_T39 l0 x26_3).f0)) := (blk_cell BK262.out 0).trans rfl
                                  have hcz61_1 : w52.cell? ⟨gb262, 1, none⟩ = some (.int .i64 ((rd_T39 l0 x26_3).f1)) := (blk_cell BK262.out 1).trans rfl
                                  have hcz61_2 : w52.cell? ⟨gb262, 2, none⟩ = some (.int .i64 ((rd_T39 l0 x26_3).f2.f0)) := (blk_cell BK262.out 2).trans rfl
                                  have hcz61_3 : w52.cell? ⟨gb262, 3, none⟩ = some (.int .i64 ((rd_T39 l0 x26_3).f2.f1)) := (blk_cell BK262.out 3).trans rfl
                                  have hcz61_4 : w52.cell? ⟨gb262, 4, none⟩ = some (.string ((rd_T39 l0 x26_3).f2.f2)) := (blk_cell BK262.out 4).trans rfl
                                  have hfz61_0 := blk_frozen BK262.out 0
                                  have hfz61_1 := blk_frozen BK262.out 1
                                  have hfz61_2 := blk_frozen BK262.out 2
                                  have hfz61_3 := blk_frozen BK262.out 3
                                  have hfz61_4 := blk_frozen BK262.out 4
                                  have hnb62 := NB273_257.out
                                  have hnc62 := NB257_273.out
                                  have hnb63 := NB273_274.out
                                  have hnc63 := NB274_273.out
                                  have hcz64_0 : w52.cell? ⟨gb273, 0, none⟩ = some (.int .i64 0) := (blk_cell BK273.out 0).trans rfl
                                  have hcz64_1 : w52.cell? ⟨gb273, 1, none⟩ = some (.int .i64 0) := (blk_cell BK273.out 1).trans rfl
                                  have hcz64_2 : w52.cell? ⟨gb273, 2, none⟩ = some (.string (⟨#[]⟩ : ByteArray)) := (blk_cell BK273.out 2).trans rfl
                                  have hfz64_0 := blk_frozen BK273.out 0
                                  have hfz64_1 := blk_frozen BK273.out 1
                                  have hfz64_2 := blk_frozen BK273.out 2
                                  have hnb65 := NB274_257.out
                                  have hnc65 := NB257_274.out
                                  have hcz66_0 : w52.cell? ⟨gb274, 0, none⟩ = some (.int .i64 0) := (blk_cell BK274.out 0).trans rfl
                                  have hcz66_1 : w52.cell? ⟨gb274, 1, none⟩ = some (.int .i64 0) := (blk_cell BK274.out 1).trans rfl
                                  have hcz66_2 : w52.cell? ⟨gb274, 2, none⟩ = some (.string (⟨#[]⟩ : ByteArray)) := (blk_cell BK274.out 2).trans rfl
                                  have hfz66_0 := blk_frozen BK274.out 0
                                  have hfz66_1 := blk_frozen BK274.out 1
                                  have hfz66_2 := blk_frozen BK274.out 2
                                  go_upto_if 72 with (first | ((with_reducible refine gate_callee (f := 19) rfl ?_); refine goesL_ (some 71) rfl rfl Tryd.func19 (by kernel_rfl) rfl #[.int .i64 ((rd_T39 l0 x26_3).f0), .int .i64 ((rd_T31 x6_20 (ji38)).f0), .int .i64 ((rd_T31 x6_20 (ji41)).f0)] rfl q142_ ?_; (with_reducible refine (expr_fits.calls ((rd_T39 l0 x26_3).f0) ((rd_T31 x6_20 (ji38)).f0) ((rd_T31 x6_20 (ji41)).f0) t275 _ A44.out).mono ?_); rintro e w' ⟨rfl, ⟨nd, rfl⟩⟩; refine ⟨_, rfl, ?_⟩))
                                  (try simp only [Act.put, List.setIfInBounds_toArray, List.set_cons_zero, List.set_cons_succ])
                                  go_cut [] (fun wc => ∃ (kq : Nat) (x258000_44 : Int) (x258001_44 : Int) (x258002_44 : ByteArray), Aside0 (expr_Eval.j5 kq l1 x6_20 ji38 l0 (l0.length : Int) x26_3 ((rd_T39 l0 x26_3).f0) ((rd_T39 l0 x26_3).f1) ((rd_T39 l0 x26_3).f2.f0) ((rd_T39 l0 x26_3).f2.f1) ((rd_T39 l0 x26_3).f2.f2) ((rd_T31 x6_20 (ji38)).f0) ((rd_T31 x6_20 (ji38)).f1) ((rd_T31 x6_20 (ji38)).f2) ((rd_T31 x6_20 (ji41)).f0) ((rd_T31 x6_20 (ji41)).f1) ((rd_T31 x6_20 (ji41)).f2) = some (r1, r2, r3, r4)) ∧ Aside0 (kq ≤ kj20) ∧ Aside0 (Kd.R k31 31 wc w.heap.size (fun k_ => k_ ≠ gb257 ∧ k_ ≠ gb273 ∧ k_ ≠ gb274) (.slice (some ad271) x6_20.length co46) x6_20) ∧ Aside0 (wc.heap[gb257]? = some (.cells #[.int .i64 x258000_44, .int .i64 x258001_44, .string x258002_44] 31 (0, 0))) ∧ Aside0 (wc.heap[gb262]? = some (.cells #[.int .i64 ((rd_T39 l0 x26_3).f0), .int .i64 ((rd_T39 l0 x26_3).f1), .int .i64 ((rd_T39 l0 x26_3).f2.f0), .int .i64 ((rd_T39 l0 x26_3).f2.f1), .string ((rd_T39 l0 x26_3).f2.f2)] 39 (0, 0))) ∧ Aside0 (wc.heap[gb273]? = some (.cells #[.int .i64 ((rd_T31 x6_20 (ji38)).f0), .int .i64 ((rd_T31 x6_20 (ji38)).f1), .string ((rd_T31 x6_20 (ji38)).f2)] 31 (0, 0))) ∧ Aside0 (wc.heap[gb274]? = some (.cells #[.int .i64 ((rd_T31 x6_20 (ji41)).f0), .int .i64 ((rd_T31 x6_20 (ji41)).f1), .string ((rd_T31 x6_20 (ji41)).f2)] 31 (0, 0))) ∧ Aside0 (Below w.heap.size w wc))
                                  case first =>
                                    have H := HC45.out
                                    clear HC45
                                    by_cases c67 : t275 = true
                                    · subst c67
                                      replace H := ifT_ H
                                      have H' := Aside0.mk H
                                      clear H
                                      go_wp2
                                      go_meet
                                      case rel => exact ⟨_, (x258000_3), (x258001_3), (x258002_3), H', ⟨by have := HJ2.out; have := HJ10.out; have := HK3.out; have := HJ13.out; have := HJ20.out; first | omega | exact Nat.le_refl _⟩, ⟨by (with_reducible repeat (first | apply Kd.R_alloc | apply Kd.R_drewN | apply Kd.R_drew)); exact Kd.R_mono (Kd.R_far (p := ⟨gb274, 2, none⟩) (Kd.R_far (p := ⟨gb274, 1, none⟩) (Kd.R_far (p := ⟨gb274, 0, none⟩) (Kd.R_far (p := ⟨gb273, 2, none⟩) (Kd.R_far (p := ⟨gb273, 1, none⟩) (Kd.R_far (p := ⟨gb273, 0, none⟩) (Kd.R_mono (Kd.R_mono HO_6.out (fun k_ hk => (⟨hk, hk.2.1⟩ : _ ∧ k_ ≠ gb273))) (fun k_ hk => (⟨hk, hk.1.2.2⟩ : _ ∧ k_ ≠ gb274))) (fun _ hk => hk.1.2) (.int .i64 ((rd_T31 x6_20 (ji38)).f0))) (fun _ hk => hk.1.2) (.int .i64 ((rd_T31 x6_20 (ji38)).f1))) (fun _ hk => hk.1.2) (.string ((rd_T31 x6_20 (ji38)).f2))) (fun _ hk => hk.2) (.int .i64 ((rd_T31 x6_20 (ji41)).f0))) (fun _ hk => hk.2) (.int .i64 ((rd_T31 x6_20 (ji41)).f1))) (fun _ hk => hk.2) (.string ((rd_T31 x6_20 (ji41)).f2))) (fun _ hk => ⟨hk.1.1.1, ⟨hk.1.1.2.1, hk.1.1.2.2⟩⟩)⟩, ⟨by (with_reducible repeat first | apply bN_ | apply bD_ | apply bA_); refine blk_far ?_ NB257_274.out _; (with_reducible repeat first | apply bN_ | apply bD_ | apply bA_); refine blk_far ?_ NB257_274.out _; (with_reducible repeat first | apply bN_ | apply bD_ | apply bA_); refine blk_far ?_ NB257_274.out _; (with_reducible repeat first | apply bN_ | apply bD_ | apply bA_); refine blk_far ?_ NB257_273.out _; (with_reducible repeat first | apply bN_ | apply bD_ | apply bA_); refine blk_far ?_ NB257_273.out _; (with_reducible repeat first | apply bN_ | apply bD_ | apply bA_); refine blk_far ?_ NB257_273.out _; (with_reducible repeat first | apply bN_ | apply bD_ | apply bA_); exact BK257.out⟩, ⟨by (with_reducible repeat first | apply bN_ | apply bD_ | apply bA_); refine blk_far ?_ NB262_274.out _; (with_reducible repeat first | apply bN_ | apply bD_ | apply bA_); refine blk_far ?_ NB262_274.out _; (with_reducible repeat first | apply bN_ | apply bD_ | apply bA_); refine blk_far ?_ NB262_274.out _; (with_reducible repeat first | apply bN_ | apply bD_ | apply bA_); refine blk_far ?_ NB262_273.out _; (with_reducible repeat first | apply bN_ | apply bD_ | apply bA_); refine blk_far ?_ NB262_273.out _; (with_reducible repeat first | apply bN_ | apply bD_ | apply bA_); refine blk_far ?_ NB262_273.out _; (with_reducible repeat first | apply bN_ | apply bD_ | apply bA_); exact BK262.out⟩, ⟨by (with_reducible repeat first | apply bN_ | apply bD_ | apply bA_); refine blk_far ?_ NB273_274.out _; (with_reducible repeat first | apply bN_ | apply bD_ | apply bA_); refine blk_far ?_ NB273_274.out _; (with_reducible repeat first | apply bN_ | apply bD_ | apply bA_); refine blk_far ?_ NB273_274.out _; (with_reducible repeat first | apply bN_ | apply bD_ | apply bA_); refine blk_put (cs := #[.int .i64 ((rd_T31 x6_20 (ji38)).f0), .int .i64 ((rd_T31 x6_20 (ji38)).f1), .string (⟨#[]⟩ : ByteArray)]) ?_ 2 _ rfl; (with_reducible repeat first | apply bN_ | apply bD_ | apply bA_); refine blk_put (cs := #[.int .i64 ((rd_T31 x6_20 (ji38)).f0), .int .i64 0, .string (⟨#[]⟩ : ByteArray)]) ?_ 1 _ rfl; (with_reducible repeat first | apply bN_ | apply bD_ | apply bA_); refine blk_put (cs := #[.int .i64 0, .int .i64 0, .string (⟨#[]⟩ : ByteArray)]) ?_ 0 _ rfl; (with_reducible repeat first | apply bN_ | apply bD_ | apply bA_); exact BK273.out⟩, ⟨by (with_reducible repeat first | apply bN_ | apply bD_ | apply bA_); refine blk_put (cs := #[.int .i64 ((rd_T31 x6_20 (ji41)).f0), .int .i64 ((rd_T31 x6_20 (ji41)).f1), .string (⟨#[]⟩ : ByteArray)]) ?_ 2 _ rfl; (with_reducible repeat first | apply bN_ | apply bD_ | apply bA_); refine blk_put (cs := #[.int .i64 ((rd_T31 x6_20 (ji41)).f0), .int .i64 0, .string (⟨#[]⟩ : ByteArray)]) ?_ 1 _ rfl; (with_reducible repeat first | apply bN_ | apply bD_ | apply bA_); refine blk_put (cs := #[.int .i64 0, .int .i64 0, .string (⟨#[]⟩ : ByteArray)]) ?_ 0 _ rfl; (with_reducible repeat first | apply bN_ | apply bD_ | apply bA_); refine blk_far ?_ NB274_273.out _; (with_reducible repeat first | apply bN_ | apply bD_ | apply bA_); refine blk_far ?_ NB274_273.out _; (with_reducible repeat first | apply bN_ | apply bD_ | apply bA_); refine blk_far ?_ NB274_273.out _; (with_reducible repeat first | apply bN_ | apply bD_ | apply bA_); exact BK274.out⟩, ⟨q0_⟩⟩
                                    · replace c67 := Bool.eq_false_iff.mpr c67
                                      subst c67
                                      replace H := ifF_ H
                                      simp only [Option.some.injEq, Prod.mk.injEq] at H
                                      obtain ⟨rfl, rfl, rfl, rfl⟩ := H
                                      have hnb68 := NB257_262.out
                                      have hnc68 := NB262_257.out
                                      have hnb69 := NB257_273.out
                                      have hnc69 := NB273_257.out
                                      have hnb70 := NB257_274.out
                                      have hnc70 := NB274_257.out
                                      have hcz71_0 : w52.cell? ⟨gb257, 0, none⟩ = some (.int .i64 x258000_3) := (blk_cell BK257.out 0).trans rfl
                                      have hcz71_1 : w52.cell? ⟨gb257, 1, none⟩ = some (.int .i64 x258001_3) := (blk_cell BK257.out 1).trans rfl
                                      have hcz71_2 : w52.cell? ⟨gb257, 2, none⟩ = some (.string x258002_3) := (blk_cell BK257.out 2).trans rfl
                                      have hfz71_0 := blk_frozen BK257.out 0
                                      have hfz71_1 := blk_frozen BK257.out 1
                                      have hfz71_2 := blk_frozen BK257.out 2
                                      go_wp2
                                      refine bodyPost_ret (results_ct rfl _ _ gb257 31 #[.int .i64 0, .int .i64 0, .string (⟨#[]⟩ : ByteArray)] (0, 0) _ rfl (by (with_reducible repeat first | apply bN_ | apply bD_ | apply bA_); refine blk_put (cs := #[.int .i64 0, .int .i64 0, .string x258002_3]) ?_ 2 _ rfl; (with_reducible repeat first | apply bN_ | apply bD_ | apply bA_); refine blk_put (cs := #[.int .i64 0, .int .i64 x258001_3, .string x258002_3]) ?_ 1 _ rfl; (with_reducible repeat first | apply bN_ | apply bD_ | apply bA_); refine blk_put (cs := #[.int .i64 x258000_3, .int .i64 x258001_3, .string x258002_3]) ?_ 0 _ rfl; (with_reducible repeat first | apply bN_ | apply bD_ | apply bA_); refine blk_far ?_ NB257_274.out _; (with_reducible repeat first | apply bN_ | apply bD_ | apply bA_); refine blk_far ?_ NB257_274.out _; (with_reducible repeat first | apply bN_ | apply bD_ | apply bA_); refine blk_far ?_ NB257_274.out _; (with_reducible repeat first | apply bN_ | apply bD_ | apply bA_); refine blk_far ?_ NB257_273.out _; (with_reducible repeat first | apply bN_ | apply bD_ | apply bA_); refine blk_far ?_ NB257_273.out _; (with_reducible repeat first | apply bN_ | apply bD_ | apply bA_); refine blk_far ?_ NB257_273.out _; (with_reducible repeat first | apply bN_ | apply bD_ | apply bA_); exact BK257.out) Tryd.underlying31 rfl (by kernel_rfl)) rfl ?_
                                      exact ⟨by first | rfl | (simp [errW_none, errW_some] <;> rfl) | (simp only [← hji38, ← hji41]; first | rfl | (simp [errW_none, errW_some] <;> rfl)) | (simp [*, errW_none, errW_some] <;> rfl), q0_⟩
                                  case rest =>
                                    clear HC45
                                    try clear c1
                                    try clear p2
                                    try clear q2
                                    try clear hx2
                                    try clear c3
                                    try clear c4
                                    try clear c5
                                    try clear c6
                                    try clear p6
                                    try clear c7
                                    try clear c18
                                    try clear c19
                                    try clear p26
                                    try clear q26
                                    try clear hx26
                                    try clear p27
                                    try clear q27
                                    try clear hx27
                                    try clear c39
                                    try clear c39b0
                                    try clear c40
                                    try clear c40b0
                                    try clear c42
                                    try clear c42b0
                                    try clear c43
                                    try clear c43b0
                                    try clear c47
                                    try clear c59
                                    try clear c60
                                    try clear c62
                                    try clear c63
                                    try clear p64
                                    try clear c65
                                    try clear c67
                                    try clear c68
                                    try clear c69
                                    try clear c70
                                    try clear hcz30_0
                                    try clear hcz30_1
                                    try clear hcz30_2
                                    try clear hcz30_3
                                    try clear hcz30_4
                                    try clear hcz35_0
                                    try clear hcz35_1
                                    try clear hcz35_2
                                    try clear hcz35_3
                                    try clear hcz35_4
                                    try clear hcz48_0
                                    try clear hcz48_1
                                    try clear hcz48_2
                                    try clear hcz48_3
                                    try clear hcz48_4
                                    try clear hcz61_0
                                    try clear hcz61_1
                                    try clear hcz61_2
                                    try clear hcz61_3
                                    try clear hcz61_4
                                    try clear hcz64_0
                                    try clear hcz64_1
                                    try clear hcz64_2
                                    try clear hcz66_0
                                    try clear hcz66_1
                                    try clear hcz66_2
                                    try clear hcz71_0
                                    try clear hcz71_1
                                    try clear hcz71_2
                                    try clear hfz13_0
                                    try clear hfz13_1
                                    try clear hfz13_2
                                    try clear hfz18_0
                                    try clear hfz18_1
                                    try clear hfz18_2
                                    try clear hfz24_0
                                    try clear hfz24_1
                                    try clear hfz24_2
                                    try clear hfz24_3
                                    try clear hfz24_4
                                    try clear hfz30_0
                                    try clear hfz30_1
                                    try clear hfz30_2
                                    try clear hfz30_3
                                    try clear hfz30_4
                                    try clear hfz35_0
                                    try clear hfz35_1
                                    try clear hfz35_2
                                    try clear hfz35_3
                                    try clear hfz35_4
                                    try clear hfz48_0
                                    try clear hfz48_1
                                    try clear hfz48_2
                                    try clear hfz48_3
                                    try clear hfz48_4
                                    try clear hfz61_0
                                    try clear hfz61_1
                                    try clear hfz61_2
                                    try clear hfz61_3
                                    try clear hfz61_4
                                    try clear hfz64_0
                                    try clear hfz64_1
                                    try clear hfz64_2
                                    try clear hfz66_0
                                    try clear hfz66_1
                                    try clear hfz66_2
                                    try clear hfz71_0
                                    try clear hfz71_1
                                    try clear hfz71_2
                                    try clear hx260_0
                                    try clear hx260_1
                                    try clear hx260_2
                                    try clear hx261_0
                                    try clear hx261_1
                                    try clear hx261_2
                                    try clear hx261_3
                                    try clear hx261_4
                                    try clear hx263_0
                                    try clear hx263_1
                                    try clear hx263_2
                                    try clear hx271_0
                                    try clear hx271_1
                                    try clear hx271_2
                                    try clear hx272_0
                                    try clear hx272_1
                                    try clear hx272_2
                                    try clear p2
                                    try clear p260
                                    try clear p261
                                    try clear p263
                                    try clear p271
                                    try clear p272
                                    try clear q2
                                    try clear q260
                                    try clear q261
                                    try clear q263
                                    try clear q271
                                    try clear q272
                                    obtain ⟨kq, x258000_44, x258001_44, x258002_44, HA, HJ44, HO_6, BK257, BK262, BK273, BK274, HB⟩ := hcut
                                    cases kq with
                                    | zero => exact absurd HA.out (by simp [expr_Eval.j5])
                                    | succ kj44 =>
                                      have H := HA.out
                                      clear HA
                                      simp only [expr_Eval.j5] at H
                                      replace H := Option.bind_eq_some_iff.mp H
                                      obtain ⟨⟨t276, t277, t278, t279⟩, A720, H⟩ := H
                                      replace H : (if t279 = 0 then (if 0 ≤ ji38 then (if ji38 ≤ (x6_20.length : Int) then ((some (x6_20.take (ji38 : Int).toNat : List (S31))).bind fun y281 => (if y281.length < 4398046511104 then (expr_Eval.l0 kj44 l1 (y281 ++ [(⟨t276, t277, t278⟩ : S31)]) l0 (l0.length : Int) (wrap64 (x26_3 + 1))) else (none))) else (none)) else (none)) else (some (0, 0, (⟨#[]⟩ : ByteArray), t279))) = some (r1, r2, r3, r4) := H
                                      have A72 := Aside0.mk A720
                                      clear A720
                                      by_cases c73 : t279 = 0
                                      · rw [if_pos c73] at H
                                        have c73b0 : (t279 == 0) = true := beq_iff_eq.mpr c73
                                        have c73b1 : (t279 != 0) = false := bne_eq_false_iff_eq.mpr c73
                                        clear c73
                                        by_cases c74 : 0 ≤ ji38
                                        · rw [if_pos c74] at H
                                          have c74b0 := eq_true c74
                                          have c74b1 : decide (0 ≤ ji38) = true := decide_eq_true c74
                                          clear c74
                                          by_cases c75 : ji38 ≤ (x6_20.length : Int)
                                          · rw [if_pos c75] at H
                                            have c75b0 := eq_true c75
                                            have c75b1 : decide (ji38 ≤ (x6_20.length : Int)) = true := decide_eq_true c75
                                            clear c75
                                            obtain ⟨y281, hy281⟩ : ∃ y_ : List (S31), y_ = (x6_20.take (ji38 : Int).toNat) := ⟨_, rfl⟩
                                            replace H : (if y281.length < 4398046511104 then (expr_Eval.l0 kj44 l1 (y281 ++ [(⟨t276, t277, t278⟩ : S31)]) l0 (l0.length : Int) (wrap64 (x26_3 + 1))) else (none)) = some (r1, r2, r3, r4) := by first | (rw [hy281]; with_reducible exact H) | (have H2_ := (Option.bind_some _ _).symm.trans H; rw [hy281]; with_reducible exact H2_) | (have H2_ := (Option.bind_some _ _).symm.trans H; with_reducible exact H2_) | with_reducible exact H | (rw [hy281]; exact H) | exact H
                                            have Ny281 := Aside0.mk hy281
                                            clear hy281
                                            by_cases c76 : y281.length < 4398046511104
                                            · rw [if_pos c76] at H
                                              have LMc76 := Aside0.mk c76
                                              clear c76
                                              obtain ⟨y284, hy284⟩ : ∃ y_ : List (S31), y_ = (y281 ++ [(⟨t276, t277, t278⟩ : S31)]) := ⟨_, rfl⟩
                                              replace H : (expr_Eval.l0 kj44 l1 y284 l0 (l0.length : Int) (wrap64 (x26_3 + 1))) = some (r1, r2, r3, r4) := by first | (rw [hy284]; with_reducible exact H) | (have H2_ := (Option.bind_some _ _).symm.trans H; rw [hy284]; with_reducible exact H2_) | (have H2_ := (Option.bind_some _ _).symm.trans H; with_reducible exact H2_) | with_reducible exact H | (rw [hy284]; exact H) | exact H
                                              have Ny284 := Aside0.mk hy284
                                              clear hy284
                                              have H' := Aside0.mk H
                                              clear H
                                              have hnb77 := NB262_257.out
                                              have hnc77 := NB257_262.out
                                              have hnb78 := NB262_273.out
                                              have hnc78 := NB273_262.out
                                              have hnb79 := NB262_274.out
                                              have hnc79 := NB274_262.out
                                              have hcz80_0 : wc.cell? ⟨gb262, 0, none⟩ = some (.int .i64 ((rd_T39 l0 x26_3).f0)) := (blk_cell BK262.out 0).trans rfl
                                              have hcz80_1 : wc.cell? ⟨gb262, 1, none⟩ = some (.int .i64 ((rd_T39 l0 x26_3).f1)) := (blk_cell BK262.out 1).trans rfl
                                              have hcz80_2 : wc.cell? ⟨gb262, 2, none⟩ = some (.int .i64 ((rd_T39 l0 x26_3).f2.f0)) := (blk_cell BK262.out 2).trans rfl
                                              have hcz80_3 : wc.cell? ⟨gb262, 3, none⟩ = some (.int .i64 ((rd_T39 l0 x26_3).f2.f1)) := (blk_cell BK262.out 3).trans rfl
                                              have hcz80_4 : wc.cell? ⟨gb262, 4, none⟩ = some (.string ((rd_T39 l0 x26_3).f2.f2)) := (blk_cell BK262.out 4).trans rfl
                                              have hfz80_0 := blk_frozen BK262.out 0
                                              have hfz80_1 := blk_frozen BK262.out 1
                                              have hfz80_2 := blk_frozen BK262.out 2
                                              have hfz80_3 := blk_frozen BK262.out 3
                                              have hfz80_4 := blk_frozen BK262.out 4
                                              have hnb81 := NB273_257.out
                                              have hnc81 := NB257_273.out
                                              have hnb82 := NB273_274.out
                                              have hnc82 := NB274_273.out
                                              have hcz83_0 : wc.cell? ⟨gb273, 0, none⟩ = some (.int .i64 ((rd_T31 x6_20 (ji38)).f0)) := (blk_cell BK273.out 0).trans rfl
                                              have hcz83_1 : wc.cell? ⟨gb273, 1, none⟩ = some (.int .i64 ((rd_T31 x6_20 (ji38)).f1)) := (blk_cell BK273.out 1).trans rfl
                                              have hcz83_2 : wc.cell? ⟨gb273, 2, none⟩ = some (.string ((rd_T31 x6_20 (ji38)).f2)) := (blk_cell BK273.out 2).trans rfl
                                              have hfz83_0 := blk_frozen BK273.out 0
                                              have hfz83_1 := blk_frozen BK273.out 1
                                              have hfz83_2 := blk_frozen BK273.out 2
                                              have hnb84 := NB274_257.out
                                              have hnc84 := NB257_274.out
                                              have hcz85_0 : wc.cell? ⟨gb274, 0, none⟩ = some (.int .i64 ((rd_T31 x6_20 (ji41)).f0)) := (blk_cell BK274.out 0).trans rfl
                                              have hcz85_1 : wc.cell? ⟨gb274, 1, none⟩ = some (.int .i64 ((rd_T31 x6_20 (ji41)).f1)) := (blk_cell BK274.out 1).trans rfl
                                              have hcz85_2 : wc.cell? ⟨gb274, 2, none⟩ = some (.string ((rd_T31 x6_20 (ji41)).f2)) := (blk_cell BK274.out 2).trans rfl
                                              have hfz85_0 := blk_frozen BK274.out 0
                                              have hfz85_1 := blk_frozen BK274.out 1
                                              have hfz85_2 := blk_frozen BK274.out 2
                                              try go_wp2_with (first | ((with_reducible refine gate_callee (f := 25) rfl ?_); refine goesL_ (some 79) rfl rfl Tryd.func25 (by kernel_rfl) rfl #[.int .i64 ((rd_T39 l0 x26_3).f0), .agg #[.int .i64 ((rd_T31 x6_20 (ji38)).f0), .int .i64 ((rd_T31 x6_20 (ji38)).f1), .string ((rd_T31 x6_20 (ji38)).f2)], .agg #[.int .i64 ((rd_T31 x6_20 (ji41)).f0), .int .i64 ((rd_T31 x6_20 (ji41)).f1), .string ((rd_T31 x6_20 (ji41)).f2)]] rfl q142_ ?_; (with_reducible refine (expr_do.calls kj44 ((rd_T39 l0 x26_3).f0) ((rd_T31 x6_20 (ji38)).f0) ((rd_T31 x6_20 (ji38)).f1) ((rd_T31 x6_20 (ji38)).f2) ((rd_T31 x6_20 (ji41)).f0) ((rd_T31 x6_20 (ji41)).f1) ((rd_T31 x6_20 (ji41)).f2) t276 t277 t278 t279 _ A72.out q124_).mono ?_); rintro e w86 ⟨rfl, hb⟩; refine ⟨_, rfl, ?_⟩; have n0_ := Aside0.mk (Kd.R_below q26_ hb); have n1_ := Aside0.mk (blk_below (g := gb257) (o := .cells #[.int .i64 x258000_44, .int .i64 x258001_44, .string x258002_44] 31 (0, 0)) q14_ hb); have n2_ := Aside0.mk (blk_below (g := gb262) (o := .cells #[.int .i64 ((rd_T39 l0 x26_3).f0), .int .i64 ((rd_T39 l0 x26_3).f1), .int .i64 ((rd_T39 l0 x26_3).f2.f0), .int .i64 ((rd_T39 l0 x26_3).f2.f1), .string ((rd_T39 l0 x26_3).f2.f2)] 39 (0, 0)) q31_ hb); have n3_ := Aside0.mk (blk_below (g := gb273) (o := .cells #[.int .i64 ((rd_T31 x6_20 (ji38)).f0), .int .i64 ((rd_T31 x6_20 (ji38)).f1), .string ((rd_T31 x6_20 (ji38)).f2)] 31 (0, 0)) q61_ hb); have n4_ := Aside0.mk (blk_below (g := gb274) (o := .cells #[.int .i64 ((rd_T31 x6_20 (ji41)).f0), .int .i64 ((rd_T31 x6_20 (ji41)).f1), .string ((rd_T31 x6_20 (ji41)).f2)] 31 (0, 0)) q60_ hb); have n5_ := Aside0.mk (below_step q0_ hb); clear HO_6; clear BK257; clear BK262; clear BK273; clear BK274; clear HB; have HO_6 := n0_; have BK257 := n1_; have BK262 := n2_; have BK273 := n3_; have BK274 := n4_; have HB := n5_; clear n0_ n1_ n2_ n3_ n4_ n5_; (try clear hb); (try clear hb2); (try clear hk); (try clear hi)) | ((with_reducible refine gate_dst (N := 12) rfl ?_); (try (refine gate_guard (by rfl) ?_; dsimp only)); refine box_event ?hg (N := 12) ?hd (cs := #[.int .i64 0, .int .i64 0, .string (⟨#[]⟩ : ByteArray)]) (t := 31) ?hr ?_; (case hd => rfl); (case hg => rfl); (case hr => first | (go_simp; done) | (go_simp; rfl)); intro gb280 hg w87 hbox hb; have n0_ := Aside0.mk (Kd.R_below (Kd.R_elderB q26_ gb280 (Nat.le_of_eq hg.symm)) hb); have n1_ := Aside0.mk (blk_below (g := gb257) (o := .cells #[.int .i64 x258000_44, .int .i64 x258001_44, .string x258002_44] 31 (0, 0)) q14_ hb); have n2_ := Aside0.mk (blk_below (g := gb262) (o := .cells #[.int .i64 ((rd_T39 l0 x26_3).f0), .int .i64 ((rd_T39 l0 x26_3).f1), .int .i64 ((rd_T39 l0 x26_3).f2.f0), .int .i64 ((rd_T39 l0 x26_3).f2.f1), .string ((rd_T39 l0 x26_3).f2.f2)] 39 (0, 0)) q31_ hb); have n3_ := Aside0.mk (blk_below (g := gb273) (o := .cells #[.int .i64 ((rd_T31 x6_20 (ji38)).f0), .int .i64 ((rd_T31 x6_20 (ji38)).f1), .string ((rd_T31 x6_20 (ji38)).f2)] 31 (0, 0)) q61_ hb); have n4_ := Aside0.mk (blk_below (g := gb274) (o := .cells #[.int .i64 ((rd_T31 x6_20 (ji41)).f0), .int .i64 ((rd_T31 x6_20 (ji41)).f1), .string ((rd_T31 x6_20 (ji41)).f2)] 31 (0, 0)) q60_ hb); have n5_ := Aside0.mk (below_step q0_ hb); have n6_ := Aside0.mk (hbox); have n7_ := Aside0.mk ((q1_ : w.heap.size ≤ gb280)); have n8_ := Aside0.mk ((q1_ : w.heap.size ≤ gb280)); have n9_ := Aside0.mk ((q178_ : gb257 ≠ gb280)); have n10_ := Aside0.mk ((q179_ : gb280 ≠ gb257)); have n11_ := Aside0.mk ((q37_ : gb262 ≠ gb280)); have n12_ := Aside0.mk ((q38_ : gb280 ≠ gb262)); have n13_ := Aside0.mk ((q151_ : gb273 ≠ gb280)); have n14_ := Aside0.mk ((q153_ : gb280 ≠ gb273)); have n15_ := Aside0.mk ((q150_ : gb274 ≠ gb280)); have n16_ := Aside0.mk ((q152_ : gb280 ≠ gb274)); clear HO_6; clear BK257; clear BK262; clear BK273; clear BK274; clear HB; have HO_6 := n0_; have BK257 := n1_; have BK262 := n2_; have BK273 := n3_; have BK274 := n4_; have HB := n5_; have BK280 := n6_; have GW280 := n7_; have GE280 := n8_; have NB257_280 := n9_; have NB280_257 := n10_; have NB262_280 := n11_; have NB280_262 := n12_; have NB273_280 := n13_; have NB280_273 := n14_; have NB274_280 := n15_; have NB280_274 := n16_; clear n0_ n1_ n2_ n3_ n4_ n5_ n6_ n7_ n8_ n9_ n10_ n11_ n12_ n13_ n14_ n15_ n16_; clear hb hbox hg; have hnb88 := NB280_257.out; have hnc88 := NB257_280.out; have hnb89 := NB280_262.out; have hnc89 := NB262_280.out; have hnb90 := NB280_273.out; have hnc90 := NB273_280.out; have hnb91 := NB280_274.out; have hnc91 := NB274_280.out; have hcz92_0 : w87.cell? ⟨gb280, 0, none⟩ = some (.int .i64 0) := (blk_cell BK280.out 0).trans rfl; have hcz92_1 : w87.cell? ⟨gb280, 1, none⟩ = some (.int .i64 0) := (blk_cell BK280.out 1).trans rfl; have hcz92_2 : w87.cell? ⟨gb280, 2, none⟩ = some (.string (⟨#[]⟩ : ByteArray)) := (blk_cell BK280.out 2).trans rfl; have hfz92_0 := blk_frozen BK280.out 0; have hfz92_1 := blk_frozen BK280.out 1; have hfz92_2 := blk_frozen BK280.out 2))
                                              have n0_ : Aside0 (Kd.R k31 31 (((w87.setCell ⟨gb280, 0, none⟩ (.int .i64 t276)).setCell ⟨gb280, 1, none⟩ (.int .i64 t277)).setCell ⟨gb280, 2, none⟩ (.string t278)) w.heap.size (fun k_ => k_ ≠ gb257 ∧ k_ ≠ gb273 ∧ k_ ≠ gb274 ∧ k_ ≠ gb280) (.slice (some ad271) x6_20.length co46) x6_20) := ⟨by (with_reducible repeat (first | apply Kd.R_alloc | apply Kd.R_drewN | apply Kd.R_drew)); exact Kd.R_mono (Kd.R_far (p := ⟨gb280, 2, none⟩) (Kd.R_far (p := ⟨gb280, 1, none⟩) (Kd.R_far (p := ⟨gb280, 0, none⟩) (Kd.R_mono HO_6.out (fun k_ hk => (⟨hk, hk.2⟩ : _ ∧ k_ ≠ gb280))) (fun _ hk => hk.2) (.int .i64 t276)) (fun _ hk => hk.2) (.int .i64 t277)) (fun _ hk => hk.2) (.string t278)) (fun _ hk => ⟨hk.1.1.1, ⟨hk.1.1.2.1, ⟨hk.1.1.2.2, hk.1.2⟩⟩⟩)⟩
                                              have n1_ : Aside0 ((((w87.setCell ⟨gb280, 0, none⟩ (.int .i64 t276)).setCell ⟨gb280, 1, none⟩ (.int .i64 t277)).setCell ⟨gb280, 2, none⟩ (.string t278)).heap[gb257]? = some (.cells #[.int .i64 x258000_44, .int .i64 x258001_44, .string x258002_44] 31 (0, 0))) := ⟨by (with_reducible repeat first | apply bN_ | apply bD_ | apply bA_); refine blk_far ?_ NB257_280.out _; (with_reducible repeat first | apply bN_ | apply bD_ | apply bA_); refine blk_far ?_ NB257_280.out _; (with_reducible repeat first | apply bN_ | apply bD_ | apply bA_); refine blk_far ?_ NB257_280.out _; (with_reducible repeat first | apply bN_ | apply bD_ | apply bA_); exact BK257.out⟩
                                              have n2_ : Aside0 ((((w87.setCell ⟨gb280, 0, none⟩ (.int .i64 t276)).setCell ⟨gb280, 1, none⟩ (.int .i64 t277)).setCell ⟨gb280, 2, none⟩ (.string t278)).heap[gb262]? = some (.cells #[.int .i64 ((rd_T39 l0 x26_3).f0), .int .i64 ((rd_T39 l0 x26_3).f1), .int .i64 ((rd_T39 l0 x26_3).f2.f0), .int .i64 ((rd_T39 l0 x26_3).f2.f1), .string ((rd_T39 l0 x26_3).f2.f2)] 39 (0, 0))) := ⟨by (with_reducible repeat first | apply bN_ | apply bD_ | apply bA_); refine blk_far ?_ NB262_280.out _; (with_reducible repeat first | apply bN_ | apply bD_ | apply bA_); refine blk_far ?_ NB262_280.out _; (with_reducible repeat first | apply bN_ | apply bD_ | apply bA_); refine blk_far ?_ NB262_280.out _; (with_reducible repeat first | apply bN_ | apply bD_ | apply bA_); exact BK262.out⟩
                                              have n3_ : Aside0 ((((w87.setCell ⟨gb280, 0, none⟩ (.int .i64 t276)).setCell ⟨gb280, 1, none⟩ (.int .i64 t277)).setCell ⟨gb280, 2, none⟩ (.string t278)).heap[gb273]? = some (.cells #[.int .i64 ((rd_T31 x6_20 (ji38)).f0), .int .i64 ((rd_T31 x6_20 (ji38)).f1), .string ((rd_T31 x6_20 (ji38)).f2)] 31 (0, 0))) := ⟨by (with_reducible repeat first | apply bN_ | apply bD_ | apply bA_); refine blk_far ?_ NB273_280.out _; (with_reducible repeat first | apply bN_ | apply bD_ | apply bA_); refine blk_far ?_ NB273_280.out _; (with_reducible repeat first | apply bN_ | apply bD_ | apply bA_); refine blk_far ?_ NB273_280.out _; (with_reducible repeat first | apply bN_ | apply bD_ | apply bA_); exact BK273.out⟩
                                              have n4_ : Aside0 ((((w87.setCell ⟨gb280, 0, none⟩ (.int .i64 t276)).setCell ⟨gb280, 1, none⟩ (.int .i64 t277)).setCell ⟨gb280, 2, none⟩ (.string t278)).heap[gb274]? = some (.cells #[.int .i64 ((rd_T31 x6_20 (ji41)).f0), .int .i64 ((rd_T31 x6_20 (ji41)).f1), .string ((rd_T31 x6_20 (ji41)).f2)] 31 (0, 0))) := ⟨by (with_reducible repeat first | apply bN_ | apply bD_ | apply bA_); refine blk_far ?_ NB274_280.out _; (with_reducible repeat first | apply bN_ | apply bD_ | apply bA_); refine blk_far ?_ NB274_280.out _; (with_reducible repeat first | apply bN_ | apply bD_ | apply bA_); refine blk_far ?_ NB274_280.out _; (with_reducible repeat first | apply bN_ | apply bD_ | apply bA_); exact BK274.out⟩
                                              have n5_ : Aside0 ((((w87.setCell ⟨gb280, 0, none⟩ (.int .i64 t276)).setCell ⟨gb280, 1, none⟩ (.int .i64 t277)).setCell ⟨gb280, 2, none⟩ (.string t278)).heap[gb280]? = some (.cells #[.int .i64 t276, .int .i64 t277, .string t278] 31 (0, 0))) := ⟨by (with_reducible repeat first | apply bN_ | apply bD_ | apply bA_); refine blk_put (cs := #[.int .i64 t276, .int .i64 t277, .string (⟨#[]⟩ : ByteArray)]) ?_ 2 _ rfl; (with_reducible repeat first | apply bN_ | apply bD_ | apply bA_); refine blk_put (cs := #[.int .i64 t276, .int .i64 0, .string (⟨#[]⟩ : ByteArray)]) ?_ 1 _ rfl; (with_reducible repeat first | apply bN_ | apply bD_ | apply bA_); refine blk_put (cs := #[.int .i64 0, .int .i64 0, .string (⟨#[]⟩ : ByteArray)]) ?_ 0 _ rfl; (with_reducible repeat first | apply bN_ | apply bD_ | apply bA_); exact BK280.out⟩
                                              have n6_ : Aside0 (Below w.heap.size w (((w87.setCell ⟨gb280, 0, none⟩ (.int .i64 t276)).setCell ⟨gb280, 1, none⟩ (.int .i64 t277)).setCell ⟨gb280, 2, none⟩ (.string t278))) := ⟨q0_⟩
                                              (try clear HO_6)
                                              (try clear BK257)
                                              (try clear BK262)
                                              (try clear BK273)
                                              (try clear BK274)
                                              (try clear BK280)
                                              (try clear HB)
                                              generalize (((w87.setCell ⟨gb280, 0, none⟩ (.int .i64 t276)).setCell ⟨gb280, 1, none⟩ (.int .i64 t277)).setCell ⟨gb280, 2, none⟩ (.string t278)) = w93 at n0_ n1_ n2_ n3_ n4_ n5_ n6_ ⊢
                                              have HO_6 := n0_
                                              have BK257 := n1_
                                              have BK262 := n2_
                                              have BK273 := n3_
                                              have BK274 := n4_
                                              have BK280 := n5_
                                              have HB := n6_
                                              clear n0_ n1_ n2_ n3_ n4_ n5_ n6_
                                              have n0_ := Aside0.mk (Kd.R_drew HO_6.out)
                                              have n1_ := Aside0.mk (blk_drew BK257.out)
                                              have n2_ := Aside0.mk (blk_drew BK262.out)
                                              have n3_ := Aside0.mk (blk_drew BK273.out)
                                              have n4_ := Aside0.mk (blk_drew BK274.out)
                                              have n5_ := Aside0.mk (blk_drew BK280.out)
                                              have n6_ := Aside0.mk (below_drew1 HB.out)
                                              clear HO_6
                                              clear BK257
                                              clear BK262
                                              clear BK273
                                              clear BK274
                                              clear BK280
                                              clear HB
                                              have HO_6 := n0_
                                              have BK257 := n1_
                                              have BK262 := n2_
                                              have BK273 := n3_
                                              have BK274 := n4_
                                              have BK280 := n5_
                                              have HB := n6_
                                              clear n0_ n1_ n2_ n3_ n4_ n5_ n6_
                                              have q95 : (ji38 : Int) ≤ ((x6_20.length : Int) : Int) := of_decide_eq_true q11_
                                              obtain ⟨i095, hi095, _, hsz95, _⟩ := info_parts info31
                                              have hcut95 := cut_to (P := Tryd.prog) 24 31 .i64 Tryd.underlying24 hi095 (some ad271) x6_20.length co46 ji38 (of_decide_eq_true q11_) q95 (Kd.R_reads' HO_6.out).2.1
                                              have hr95 := Kd.R_take (m := (ji38 : Int).toNat) HO_6.out (by omega)
                                              have hy95 : y281.length = (ji38 : Int).toNat := (by rw [Ny281.out, List.length_take]; omega)
                                              rw [← Ny281.out] at hr95
                                              rw [← hy95] at hr95 hcut95
                                              clear hy95 hi095 hsz95 HO_6
                                              have HO283 := Aside0.mk hr95
                                              clear hr95
                                              replace q95 := eq_true q95
                                              refine start_ (n := 7) (S := fun w' => w'.cell? ⟨gb280, 0, none⟩ = some (.int .i64 t276) ∧ w'.cell? ⟨gb280, 1, none⟩ = some (.int .i64 t277) ∧ w'.cell? ⟨gb280, 2, none⟩ = some (.string t278)) (ds := []) #[false, false, false, false, false, false, false] (by kernel_rfl) rfl rfl ⟨(blk_cell BK280.out 0).trans rfl, (blk_cell BK280.out 1).trans rfl, (blk_cell BK280.out 2).trans rfl⟩ (fun hHeld => ?_)
                                              generalize w93.drew = w94 at HO_6 BK257 BK262 BK273 BK274 BK280 HB HO283 hHeld ⊢
                                              refine pure_ (i := 0) (N := some 86) (v := ?_) (a' := ?_) #[true, false, false, false, false, false, false] rfl rfl (by kernel_rfl) (fun _ _ _ h => h) (Or.inl ⟨by rfl, ?_⟩) ?_ ?_
                                              rotate_left
                                              · intro w'
                                                go_simp
                                                with_reducible rfl
                                              rotate_left
                                              · simp only [Act.put, List.setIfInBounds_toArray, List.set_cons_zero, List.set_cons_succ, i64_w, i32_w]
                                                rfl
                                              refine pure_ (i := 1) (N := some 87) (v := ?_) (a' := ?_) #[true, true, false, false, false, false, false] rfl rfl (by kernel_rfl) (fun _ _ _ h => h) (Or.inl ⟨by rfl, ?_⟩) ?_ ?_
                                              rotate_left
                                              · intro w'
                                                go_simp
                                                with_reducible rfl
                                              rotate_left
                                              · simp only [Act.put, List.setIfInBounds_toArray, List.set_cons_zero, List.set_cons_succ, i64_w, i32_w]
                                                rfl
                                              refine pure_ (i := 2) (N := some 88) (v := ?_) (a' := ?_) #[true, true, true, false, false, false, false] rfl rfl (by kernel_rfl) (fun _ _ _ h => h) (Or.inl ⟨by rfl, ?_⟩) ?_ ?_
                                              rotate_left
                                              · intro w'
                                                go_simp
                                                with_reducible rfl
                                              rotate_left
                                              · simp only [Act.put, List.setIfInBounds_toArray, List.set_cons_zero, List.set_cons_succ, i64_w, i32_w]
                                                rfl
                                              refine take_ (i := 3) (N := some 89) (v := ?_) (a' := ?_) #[true, true, true, true, false, false, false] rfl rfl (by kernel_rfl) (fun _ _ _ h => h) (Or.inl ⟨by rfl, ?_⟩) hHeld ?_ ?_
                                              rotate_left
                                              · rintro w' ⟨s0, s1, s2⟩
                                                go_simp
                                                with_reducible rfl
                                              rotate_left
                                              · simp only [Act.put, List.setIfInBounds_toArray, List.set_cons_zero, List.set_cons_succ, i64_w, i32_w]
                                                rfl
                                              refine one_ (i := 4) (N := some 90) #[true, true, true, true, true, false, false] rfl rfl (by kernel_rfl) (by decide) (fun K hK => ?_)
                                              refine value_ (w1 := ?_) (v := ?_) (by rfl) rfl ?_ ?_
                                              rotate_left 2
                                              · go_simp
                                                constructor
                                                · rfl
                                                · rfl
                                              refine hK.out _ _ ⟨(blk_cell (blk_alloc BK280.out _) 0).trans rfl, (blk_cell (blk_alloc BK280.out _) 1).trans rfl, (blk_cell (blk_alloc BK280.out _) 2).trans rfl⟩ (fun hHeld => ?_)
                                              clear hK K
                                              refine norm_ (a' := ?_) ?_ ?_
                                              rotate_left
                                              · show Act.put _ (some 90) _ = _
                                                simp only [Act.put, List.setIfInBounds_toArray, List.set_cons_zero, List.set_cons_succ, i64_w, i32_w]
                                                rfl
                                              refine one_ (i := 5) (N := some 91) #[true, true, true, true, true, true, false] rfl rfl (by kernel_rfl) (by decide) (fun K hK => ?_)
                                              refine Kd.R_append_step k31 (w0 := w) w.heap.size (by rfl) (.tmp 88) (.tmp 90) 24 31 (.agg #[(.int .i64 0), (.int .i64 0), (.string ⟨#[]⟩)]) 32 rfl Tryd.underlying24 info31 rfl (by decide) (by omega) (.slice (some ad271) y281.length co46) y281 (⟨t276, t277, t278⟩ : S31) [.int .i64 t276, .int .i64 t277, .string t278] (fun k_ => k_ ≠ gb257 ∧ k_ ≠ gb273 ∧ k_ ≠ gb274 ∧ k_ ≠ gb280) (fun _ => False) rfl rfl ?aP (fun _ hk => hk.elim) ?aF ?aO ?aB ?aS ?aL ?_
                                              (case aP => exact k31_mkM _ _ _ (⟨t276, t277, t278⟩ : S31))
                                              (case aB => exact q0_)
                                              (case aF => exact (fun k_ hk => ⟨Kd.freshB (g := gb257) (o := .cells #[.int .i64 x258000_44, .int .i64 x258001_44, .string x258002_44] 31 (0, 0)) q14_ k_ hk, Kd.freshB (g := gb273) (o := .cells #[.int .i64 ((rd_T31 x6_20 (ji38)).f0), .int .i64 ((rd_T31 x6_20 (ji38)).f1), .string ((rd_T31 x6_20 (ji38)).f2)] 31 (0, 0)) q61_ k_ hk, Kd.freshB (g := gb274) (o := .cells #[.int .i64 ((rd_T31 x6_20 (ji41)).f0), .int .i64 ((rd_T31 x6_20 (ji41)).f1), .string ((rd_T31 x6_20 (ji41)).f2)] 31 (0, 0)) q60_ k_ hk, Kd.freshB (g := gb280) (o := .cells #[.int .i64 t276, .int .i64 t277, .string t278] 31 (0, 0)) (by (with_reducible repeat first | apply bN_ | apply bD_ | apply bA_); exact BK280.out) k_ hk⟩))
                                              (case aO => exact (by (with_reducible repeat (first | apply Kd.R_alloc | apply Kd.R_drewN | apply Kd.R_drew)); exact HO283.out))
                                              (case aS => exact (below_size q0_))
                                              (case aL => have := LMc76.out; omega)
                                              intro v285 w96 ho hb hg hat
                                              rw [← Ny284.out] at ho
                                              have n0_ := Aside0.mk (blk_grown (g := gb257) (o := .cells #[.int .i64 x258000_44, .int .i64 x258001_44, .string x258002_44] 31 (0, 0)) q14_ hg (Kd.R_away HO283.out (fun _ hk => hk.1)))
                                              have n1_ := Aside0.mk (blk_grown (g := gb262) (o := .cells #[.int .i64 ((rd_T39 l0 x26_3).f0), .int .i64 ((rd_T39 l0 x26_3).f1), .int .i64 ((rd_T39 l0 x26_3).f2.f0), .int .i64 ((rd_T39 l0 x26_3).f2.f1), .string ((rd_T39 l0 x26_3).f2.f2)] 39 (0, 0)) q31_ hg (Kd.R_ne HO283.out BK262.out (by decide)))
                                              have n2_ := Aside0.mk (blk_grown (g := gb273) (o := .cells #[.int .i64 ((rd_T31 x6_20 (ji38)).f0), .int .i64 ((rd_T31 x6_20 (ji38)).f1), .string ((rd_T31 x6_20 (ji38)).f2)] 31 (0, 0)) q61_ hg (Kd.R_away HO283.out (fun _ hk => hk.2.1)))
                                              have n3_ := Aside0.mk (blk_grown (g := gb274) (o := .cells #[.int .i64 ((rd_T31 x6_20 (ji41)).f0), .int .i64 ((rd_T31 x6_20 (ji41)).f1), .string ((rd_T31 x6_20 (ji41)).f2)] 31 (0, 0)) q60_ hg (Kd.R_away HO283.out (fun _ hk => hk.2.2.1)))
                                              have n4_ := Aside0.mk (blk_grown (g := gb280) (o := .cells #[.int .i64 t276, .int .i64 t277, .string t278] 31 (0, 0)) (by (with_reducible repeat first | apply bN_ | apply bD_ | apply bA_); exact BK280.out) hg (Kd.R_away HO283.out (fun _ hk => hk.2.2.2)))
                                              have n5_ := Aside0.mk (hb)
                                              have n6_ := Aside0.mk (ho)
                                              clear BK257
                                              clear BK262
                                              clear BK273
                                              clear BK274
                                              clear BK280
                                              clear HB
                                              clear HO283
                                              have BK257 := n0_
                                              have BK262 := n1_
                                              have BK273 := n2_
                                              have BK274 := n3_
                                              have BK280 := n4_
                                              have HB := n5_
                                              have HO286 := n6_
                                              clear n0_ n1_ n2_ n3_ n4_ n5_ n6_
                                              clear ho hb hg hat
                                              refine hK.out _ _ ⟨(blk_cell BK280.out 0).trans rfl, (blk_cell BK280.out 1).trans rfl, (blk_cell BK280.out 2).trans rfl⟩ (fun hHeld => ?_)
                                              clear hK K
                                              refine norm_ (a' := ?_) ?_ ?_
                                              rotate_left
                                              · show Act.put _ (some 91) _ = _
                                                simp only [Act.put, List.setIfInBounds_toArray, List.set_cons_zero, List.set_cons_succ, i64_w, i32_w]
                                                rfl
                                              refine pure_ (i := 6) (N := some 6) (v := ?_) (a' := ?_) #[true, true, true, true, true, true, true] rfl rfl (by kernel_rfl) (fun _ _ _ h => h) (Or.inl ⟨by rfl, ?_⟩) ?_ ?_
                                              rotate_left
                                              · intro w'
                                                go_simp
                                                with_reducible rfl
                                              rotate_left
                                              · simp only [Act.put, List.setIfInBounds_toArray, List.set_cons_zero, List.set_cons_succ, i64_w, i32_w]
                                                rfl
                                              refine done_ (by kernel_rfl) ?_
                                              try go_wp2
                                              go_roundg kj44
                                              case measure => have := HJ2.out; have := HJ10.out; have := HK3.out; have := HJ13.out; have := HJ20.out; have := HJ44.out; omega
                                              case rel => exact ⟨(y284), (wrap64 (x26_3 + 1)), (x258000_44), (x258001_44), (x258002_44), q7_, H', ⟨by have := HJ2.out; have := HJ10.out; have := HK3.out; have := HJ13.out; have := HJ20.out; have := HJ44.out; omega⟩, ⟨by (with_reducible repeat (first | apply Kd.R_alloc | apply Kd.R_drewN | apply Kd.R_drew)); exact Kd.R_mono HO286.out (fun _ hk => hk.1)⟩, ⟨q14_⟩, ⟨q0_⟩⟩
                                            · rw [if_neg c76] at H
                                              exact absurd H (by simp)
                                          · rw [if_neg c75] at H
                                            exact absurd H (by simp)
                                        · rw [if_neg c74] at H
                                          exact absurd H (by simp)
                                      · rw [if_neg c73] at H
                                        have c73b0 : (t279 == 0) = false := beq_eq_false_iff_ne.mpr c73
                                        have c73b1 : (t279 != 0) = true := bne_iff_ne.mpr c73
                                        simp only [Option.some.injEq, Prod.mk.injEq] at H
                                        obtain ⟨rfl, rfl, rfl, rfl⟩ := H
                                        have hnb97 := NB262_257.out
                                        have hnc97 := NB257_262.out
                                        have hnb98 := NB262_273.out
                                        have hnc98 := NB273_262.out
                                        have hnb99 := NB262_274.out
                                        have hnc99 := NB274_262.out
                                        have hcz100_0 : wc.cell? ⟨gb262, 0, none⟩ = some (.int .i64 ((rd_T39 l0 x26_3).f0)) := (blk_cell BK262.out 0).trans rfl
                                        have hcz100_1 : wc.cell? ⟨gb262, 1, none⟩ = some (.int .i64 ((rd_T39 l0 x26_3).f1)) := (blk_cell BK262.out 1).trans rfl
                                        have hcz100_2 : wc.cell? ⟨gb262, 2, none⟩ = some (.int .i64 ((rd_T39 l0 x26_3).f2.f0)) := (blk_cell BK262.out 2).trans rfl
                                        have hcz100_3 : wc.cell? ⟨gb262, 3, none⟩ = some (.int .i64 ((rd_T39 l0 x26_3).f2.f1)) := (blk_cell BK262.out 3).trans rfl
                                        have hcz100_4 : wc.cell? ⟨gb262, 4, none⟩ = some (.string ((rd_T39 l0 x26_3).f2.f2)) := (blk_cell BK262.out 4).trans rfl
                                        have hfz100_0 := blk_frozen BK262.out 0
                                        have hfz100_1 := blk_frozen BK262.out 1
                                        have hfz100_2 := blk_frozen BK262.out 2
                                        have hfz100_3 := blk_frozen BK262.out 3
                                        have hfz100_4 := blk_frozen BK262.out 4
                                        have hnb101 := NB273_257.out
                                        have hnc101 := NB257_273.out
                                        have hnb102 := NB273_274.out
                                        have hnc102 := NB274_273.out
                                        have hcz103_0 : wc.cell? ⟨gb273, 0, none⟩ = some (.int .i64 ((rd_T31 x6_20 (ji38)).f0)) := (blk_cell BK273.out 0).trans rfl
                                        have hcz103_1 : wc.cell? ⟨gb273, 1, none⟩ = some (.int .i64 ((rd_T31 x6_20 (ji38)).f1)) := (blk_cell BK273.out 1).trans rfl
                                        have hcz103_2 : wc.cell? ⟨gb273, 2, none⟩ = some (.string ((rd_T31 x6_20 (ji38)).f2)) := (blk_cell BK273.out 2).trans rfl
                                        have hfz103_0 := blk_frozen BK273.out 0
                                        have hfz103_1 := blk_frozen BK273.out 1
                                        have hfz103_2 := blk_frozen BK273.out 2
                                        have hnb104 := NB274_257.out
                                        have hnc104 := NB257_274.out
                                        have hcz105_0 : wc.cell? ⟨gb274, 0, none⟩ = some (.int .i64 ((rd_T31 x6_20 (ji41)).f0)) := (blk_cell BK274.out 0).trans rfl
                                        have hcz105_1 : wc.cell? ⟨gb274, 1, none⟩ = some (.int .i64 ((rd_T31 x6_20 (ji41)).f1)) := (blk_cell BK274.out 1).trans rfl
                                        have hcz105_2 : wc.cell? ⟨gb274, 2, none⟩ = some (.string ((rd_T31 x6_20 (ji41)).f2)) := (blk_cell BK274.out 2).trans rfl
                                        have hfz105_0 := blk_frozen BK274.out 0
                                        have hfz105_1 := blk_frozen BK274.out 1
                                        have hfz105_2 := blk_frozen BK274.out 2
                                        go_wp2_with (first | ((with_reducible refine gate_callee (f := 25) rfl ?_); refine goesL_ (some 79) rfl rfl Tryd.func25 (by kernel_rfl) rfl #[.int .i64 ((rd_T39 l0 x26_3).f0), .agg #[.int .i64 ((rd_T31 x6_20 (ji38)).f0), .int .i64 ((rd_T31 x6_20 (ji38)).f1), .string ((rd_T31 x6_20 (ji38)).f2)], .agg #[.int .i64 ((rd_T31 x6_20 (ji41)).f0), .int .i64 ((rd_T31 x6_20 (ji41)).f1), .string ((rd_T31 x6_20 (ji41)).f2)]] rfl q142_ ?_; (with_reducible refine (expr_do.calls kj44 ((rd_T39 l0 x26_3).f0) ((rd_T31 x6_20 (ji38)).f0) ((rd_T31 x6_20 (ji38)).f1) ((rd_T31 x6_20 (ji38)).f2) ((rd_T31 x6_20 (ji41)).f0) ((rd_T31 x6_20 (ji41)).f1) ((rd_T31 x6_20 (ji41)).f2) t276 t277 t278 t279 _ A72.out q124_).mono ?_); rintro e w106 ⟨rfl, hb⟩; refine ⟨_, rfl, ?_⟩; have n0_ := Aside0.mk (Kd.R_below q26_ hb); have n1_ := Aside0.mk (blk_below (g := gb257) (o := .cells #[.int .i64 x258000_44, .int .i64 x258001_44, .string x258002_44] 31 (0, 0)) q14_ hb); have n2_ := Aside0.mk (blk_below (g := gb262) (o := .cells #[.int .i64 ((rd_T39 l0 x26_3).f0), .int .i64 ((rd_T39 l0 x26_3).f1), .int .i64 ((rd_T39 l0 x26_3).f2.f0), .int .i64 ((rd_T39 l0 x26_3).f2.f1), .string ((rd_T39 l0 x26_3).f2.f2)] 39 (0, 0)) q31_ hb); have n3_ := Aside0.mk (blk_below (g := gb273) (o := .cells #[.int .i64 ((rd_T31 x6_20 (ji38)).f0), .int .i64 ((rd_T31 x6_20 (ji38)).f1), .string ((rd_T31 x6_20 (ji38)).f2)] 31 (0, 0)) q61_ hb); have n4_ := Aside0.mk (blk_below (g := gb274) (o := .cells #[.int .i64 ((rd_T31 x6_20 (ji41)).f0), .int .i64 ((rd_T31 x6_20 (ji41)).f1), .string ((rd_T31 x6_20 (ji41)).f2)] 31 (0, 0)) q60_ hb); have n5_ := Aside0.mk (below_step q0_ hb); clear HO_6; clear BK257; clear BK262; clear BK273; clear BK274; clear HB; have HO_6 := n0_; have BK257 := n1_; have BK262 := n2_; have BK273 := n3_; have BK274 := n4_; have HB := n5_; clear n0_ n1_ n2_ n3_ n4_ n5_; (try clear hb); (try clear hb2); (try clear hk); (try clear hi)) | ((with_reducible refine gate_dst (N := 12) rfl ?_); (try (refine gate_guard (by rfl) ?_; dsimp only)); refine box_event ?hg (N := 12) ?hd (cs := #[.int .i64 0, .int .i64 0, .string (⟨#[]⟩ : ByteArray)]) (t := 31) ?hr ?_; (case hd => rfl); (case hg => rfl); (case hr => first | (go_simp; done) | (go_simp; rfl)); intro gb280 hg w107 hbox hb; have n0_ := Aside0.mk (Kd.R_below (Kd.R_elderB q26_ gb280 (Nat.le_of_eq hg.symm)) hb); have n1_ := Aside0.mk (blk_below (g := gb257) (o := .cells #[.int .i64 x258000_44, .int .i64 x258001_44, .string x258002_44] 31 (0, 0)) q14_ hb); have n2_ := Aside0.mk (blk_below (g := gb262) (o := .cells #[.int .i64 ((rd_T39 l0 x26_3).f0), .int .i64 ((rd_T39 l0 x26_3).f1), .int .i64 ((rd_T39 l0 x26_3).f2.f0), .int .i64 ((rd_T39 l0 x26_3).f2.f1), .string ((rd_T39 l0 x26_3).f2.f2)] 39 (0, 0)) q31_ hb); have n3_ := Aside0.mk (blk_below (g := gb273) (o := .cells #[.int .i64 ((rd_T31 x6_20 (ji38)).f0), .int .i64 ((rd_T31 x6_20 (ji38)).f1), .string ((rd_T31 x6_20 (ji38)).f2)] 31 (0, 0)) q61_ hb); have n4_ := Aside0.mk (blk_below (g := gb274) (o := .cells #[.int .i64 ((rd_T31 x6_20 (ji41)).f0), .int .i64 ((rd_T31 x6_20 (ji41)).f1), .string ((rd_T31 x6_20 (ji41)).f2)] 31 (0, 0)) q60_ hb); have n5_ := Aside0.mk (below_step q0_ hb); have n6_ := Aside0.mk (hbox); have n7_ := Aside0.mk ((q1_ : w.heap.size ≤ gb280)); have n8_ := Aside0.mk ((q1_ : w.heap.size ≤ gb280)); have n9_ := Aside0.mk ((q178_ : gb257 ≠ gb280)); have n10_ := Aside0.mk ((q179_ : gb280 ≠ gb257)); have n11_ := Aside0.mk ((q37_ : gb262 ≠ gb280)); have n12_ := Aside0.mk ((q38_ : gb280 ≠ gb262)); have n13_ := Aside0.mk ((q151_ : gb273 ≠ gb280)); have n14_ := Aside0.mk ((q153_ : gb280 ≠ gb273)); have n15_ := Aside0.mk ((q150_ : gb274 ≠ gb280)); have n16_ := Aside0.mk ((q152_ : gb280 ≠ gb274)); clear HO_6; clear BK257; clear BK262; clear BK273; clear BK274; clear HB; have HO_6 := n0_; have BK257 := n1_; have BK262 := n2_; have BK273 := n3_; have BK274 := n4_; have HB := n5_; have BK280 := n6_; have GW280 := n7_; have GE280 := n8_; have NB257_280 := n9_; have NB280_257 := n10_; have NB262_280 := n11_; have NB280_262 := n12_; have NB273_280 := n13_; have NB280_273 := n14_; have NB274_280 := n15_; have NB280_274 := n16_; clear n0_ n1_ n2_ n3_ n4_ n5_ n6_ n7_ n8_ n9_ n10_ n11_ n12_ n13_ n14_ n15_ n16_; clear hb hbox hg; have hnb108 := NB280_257.out; have hnc108 := NB257_280.out; have hnb109 := NB280_262.out; have hnc109 := NB262_280.out; have hnb110 := NB280_273.out; have hnc110 := NB273_280.out; have hnb111 := NB280_274.out; have hnc111 := NB274_280.out; have hcz112_0 : w107.cell? ⟨gb280, 0, none⟩ = some (.int .i64 0) := (blk_cell BK280.out 0).trans rfl; have hcz112_1 : w107.cell? ⟨gb280, 1, none⟩ = some (.int .i64 0) := (blk_cell BK280.out 1).trans rfl; have hcz112_2 : w107.cell? ⟨gb280, 2, none⟩ = some (.string (⟨#[]⟩ : ByteArray)) := (blk_cell BK280.out 2).trans rfl; have hfz112_0 := blk_frozen BK280.out 0; have hfz112_1 := blk_frozen BK280.out 1; have hfz112_2 := blk_frozen BK280.out 2; have hcz113_0 : w107.cell? ⟨gb257, 0, none⟩ = some (.int .i64 x258000_44) := (blk_cell BK257.out 0).trans rfl; have hcz113_1 : w107.cell? ⟨gb257, 1, none⟩ = some (.int .i64 x258001_44) := (blk_cell BK257.out 1).trans rfl; have hcz113_2 : w107.cell? ⟨gb257, 2, none⟩ = some (.string x258002_44) := (blk_cell BK257.out 2).trans rfl; have hfz113_0 := blk_frozen BK257.out 0; have hfz113_1 := blk_frozen BK257.out 1; have hfz113_2 := blk_frozen BK257.out 2))
                                        refine bodyPost_ret (results_ct rfl _ _ gb257 31 #[.int .i64 0, .int .i64 0, .string (⟨#[]⟩ : ByteArray)] (0, 0) _ rfl (by (with_reducible repeat first | apply bN_ | apply bD_ | apply bA_); refine blk_put (cs := #[.int .i64 0, .int .i64 0, .string x258002_44]) ?_ 2 _ rfl; (with_reducible repeat first | apply bN_ | apply bD_ | apply bA_); refine blk_put (cs := #[.int .i64 0, .int .i64 x258001_44, .string x258002_44]) ?_ 1 _ rfl; (with_reducible repeat first | apply bN_ | apply bD_ | apply bA_); refine blk_put (cs := #[.int .i64 x258000_44, .int .i64 x258001_44, .string x258002_44]) ?_ 0 _ rfl; (with_reducible repeat first | apply bN_ | apply bD_ | apply bA_); refine blk_far ?_ NB257_280.out _; (with_reducible repeat first | apply bN_ | apply bD_ | apply bA_); refine blk_far ?_ NB257_280.out _; (with_reducible repeat first | apply bN_ | apply bD_ | apply bA_); refine blk_far ?_ NB257_280.out _; (with_reducible repeat first | apply bN_ | apply bD_ | apply bA_); exact BK257.out) Tryd.underlying31 rfl (by kernel_rfl)) rfl ?_
                                        exact ⟨by first | rfl | (simp [errW_none, errW_some] <;> rfl) | (simp only [← hji38, ← hji41]; first | rfl | (simp [errW_none, errW_some] <;> rfl)) | (simp [*, errW_none, errW_some] <;> rfl), q0_⟩
                                · rw [if_neg c43] at H
                                  exact absurd H (by simp)
                              · rw [if_neg c42] at H
                                exact absurd H (by simp)
                            · rw [if_neg c40] at H
                              exact absurd H (by simp)
                          · rw [if_neg c39] at H
                            exact absurd H (by simp)
                    · rw [if_neg c20] at H
                      exact absurd H (by simp)
                  · rw [if_neg c19] at H
                    exact absurd H (by simp)

end Go.Proofs.YtiamgfpeffjcjaaDoor.P
