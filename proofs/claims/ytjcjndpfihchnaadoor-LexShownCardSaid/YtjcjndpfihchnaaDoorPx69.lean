-- Written by our own program (wip/xprint) over the seat's translation. Lean checks it.
import Derived.Test.YtjcjndpfihchnaaDoorPx0
import Derived.Test.YtjcjndpfihchnaaDoorPx1
import Derived.Test.YtjcjndpfihchnaaDoorPx36
import Derived.Test.YtjcjndpfihchnaaDoorPx38
import Derived.Test.YtjcjndpfihchnaaDoorPx39
namespace Go.Proofs.YtjcjndpfihchnaaDoor.P
open Go.RowKit Go.Proofs.YtjcjndpfihchnaaDoorW.PrintWords Go.Proofs.YtjcjndpfihchnaaDoorW.PrintLast Go.Proofs.YtjcjndpfihchnaaDoorW.PrintMore
attribute [local go_sem] max2_int min2_mn max_two min_two max_three min_three max_four min_four   -- for this text's walks alone
set_option linter.unusedVariables false
set_option linter.unusedSimpArgs false


attribute [local go_sem high] eqA36
/-! ### corollarylaw11_LexShown: function 6 -/
mutual
def corollarylaw11_LexShown.j0 : Nat → Int → Bool → Int → Int → ByteArray → Option (Bool)
  | 0, _, _, _, _, _ => none
  | k + 1, x1, x24, x174000, x174001, x174002 => if x24 = true then ((corollarylaw11_awake.f k).bind fun t175 => (some t175)) else ((value_Show.f x174000 x174001 x174002).bind fun t176 => (corollarylaw11_LexShown.l0 k x1 t176 0 x174000 x174001 x174002))
def corollarylaw11_LexShown.l0 : Nat → Int → ByteArray → Int → Int → Int → ByteArray → Option (Bool)
  | 0, _, _, _, _, _, _ => none
  | k + 1, x1, x5, x6, x174000, x174001, x174002 => if x6 < (wrap64 (Int.tmod x1 8)) then (if 1 + x5.size ≤ 9223372036854775807 then (if ((⟨#[32]⟩ : ByteArray) ++ x5).size + 1 ≤ 9223372036854775807 then (corollarylaw11_LexShown.l0 k x1 (((⟨#[32]⟩ : ByteArray) ++ x5) ++ (⟨#[32]⟩ : ByteArray)) (wrap64 (x6 + 1)) x174000 x174001 x174002) else (none)) else (none)) else ((lex_Scan.f k x5).bind fun bt177 => (if bt177.2 = 0 then (corollarylaw11_LexShown.j2 k bt177.1 ((bt177.1.length : Int) != 1) x174000 x174001 x174002) else (corollarylaw11_LexShown.j2 k bt177.1 true x174000 x174001 x174002)))
def corollarylaw11_LexShown.j2 : Nat → List (S41) → Bool → Int → Int → ByteArray → Option (Bool)
  | 0, _, _, _, _, _ => none
  | k + 1, x7, x49, x174000, x174001, x174002 => if x49 = true then (some false) else (if 0 < (x7.length : Int) then ((lex_Literal.f ((rd_T41 x7 0).f0) ((rd_T41 x7 0).f1) ((rd_T41 x7 0).f2)).bind fun bt182 => (if (bt182.1 == x174000 && (bt182.2.1 == x174001 && (bt182.2.2.1.toList == x174002.toList))) = true then (if bt182.2.2.2 = true then ((corollarylaw11_awake.f k).bind fun t187 => (some t187)) else (some false)) else (some false))) else (none))
end
def corollarylaw11_LexShown.f (k : Nat) (a0_0 : Int) (a0_1 : Int) (a0_2 : ByteArray) (a1 : Int) : Option (Bool) := (value_Right.f a0_0 a0_1 a0_2).bind fun t174 => (if t174 = true then (if a0_1 < 0 then (corollarylaw11_LexShown.j0 k a1 true a0_0 a0_1 a0_2) else (corollarylaw11_LexShown.j0 k a1 (decide ((a0_2.size : Int) > 60)) a0_0 a0_1 a0_2)) else (corollarylaw11_LexShown.j0 k a1 true a0_0 a0_1 a0_2))
theorem corollarylaw11_LexShown.mono_l : ∀ k, (∀ y0 y1 y2 y3 y4, LeO (corollarylaw11_LexShown.j0 k y0 y1 y2 y3 y4) (corollarylaw11_LexShown.j0 (k + 1) y0 y1 y2 y3 y4)) ∧ (∀ y0 y1 y2 y3 y4 y5, LeO (corollarylaw11_LexShown.l0 k y0 y1 y2 y3 y4 y5) (corollarylaw11_LexShown.l0 (k + 1) y0 y1 y2 y3 y4 y5)) ∧ (∀ y0 y1 y2 y3 y4, LeO (corollarylaw11_LexShown.j2 k y0 y1 y2 y3 y4) (corollarylaw11_LexShown.j2 (k + 1) y0 y1 y2 y3 y4))
  | 0 => ⟨fun _ _ _ _ _ r h => by simp [corollarylaw11_LexShown.j0] at h, fun _ _ _ _ _ _ r h => by simp [corollarylaw11_LexShown.l0] at h, fun _ _ _ _ _ r h => by simp [corollarylaw11_LexShown.j2] at h⟩
  | k + 1 => by
    obtain ⟨ih0, ih1, ih2⟩ := corollarylaw11_LexShown.mono_l k
    refine ⟨?_, ?_, ?_⟩
    all_goals intros
    all_goals first
      | unfold corollarylaw11_LexShown.j0
      | unfold corollarylaw11_LexShown.l0
      | unfold corollarylaw11_LexShown.j2
    all_goals repeat' first
      | (with_reducible exact ih0 _ _ _ _ _)
      | (with_reducible exact ih1 _ _ _ _ _ _)
      | (with_reducible exact ih2 _ _ _ _ _)
      | (with_reducible exact corollarylaw11_awake.mono _)
      | (with_reducible exact lex_Scan.mono _ _)
      | (with_reducible exact LeO.refl _)
      | (with_reducible exact LeO.none _)
      | (with_reducible refine LeO.ite ?_ ?_)
      | (with_reducible refine LeO.bind ?_ (fun _ => ?_))
      | exact ih0 _ _ _ _ _
      | exact ih1 _ _ _ _ _ _
      | exact ih2 _ _ _ _ _
      | exact corollarylaw11_awake.mono _
      | exact lex_Scan.mono _ _
      | exact LeO.none _
      | refine LeO.ite ?_ ?_
      | refine LeO.bind ?_ (fun _ => ?_)
theorem corollarylaw11_LexShown.mono : ∀ a0 a1 a2 a3 k, LeO (corollarylaw11_LexShown.f k a0 a1 a2 a3) (corollarylaw11_LexShown.f (k + 1) a0 a1 a2 a3) := by
  intro a0 a1 a2 a3 k
  obtain ⟨ih0, ih1, ih2⟩ := corollarylaw11_LexShown.mono_l k
  unfold corollarylaw11_LexShown.f
  repeat' first
      | (with_reducible exact ih0 _ _ _ _ _)
      | (with_reducible exact ih1 _ _ _ _ _ _)
      | (with_reducible exact ih2 _ _ _ _ _)
      | (with_reducible exact corollarylaw11_awake.mono _)
      | (with_reducible exact lex_Scan.mono _ _)
      | (with_reducible exact LeO.refl _)
      | (with_reducible exact LeO.none _)
      | (with_reducible refine LeO.ite ?_ ?_)
      | (with_reducible refine LeO.bind ?_ (fun _ => ?_))
      | exact ih0 _ _ _ _ _
      | exact ih1 _ _ _ _ _ _
      | exact ih2 _ _ _ _ _
      | exact corollarylaw11_awake.mono _
      | exact lex_Scan.mono _ _
      | exact LeO.none _
      | refine LeO.ite ?_ ?_
      | refine LeO.bind ?_ (fun _ => ?_)
set_option maxHeartbeats 8000000 in
set_option maxRecDepth 100000 in
theorem corollarylaw11_LexShown.calls (k : Nat) (a0_0 : Int) (a0_1 : Int) (a0_2 : ByteArray) (a1 : Int) (r : Bool) (w : World) (h : corollarylaw11_LexShown.f k a0_0 a0_1 a0_2 a1 = some r) (hG : Glob w) :
    Calls Tryd.prog 6 #[.agg #[.int .i64 a0_0, .int .i64 a0_1, .string a0_2], .int .u8 a1] w fun e w' => e = .returned (.bool r) ∧ Below w.heap.size w w' := by
  have hu36 := Tryd.underlying36
  have hu41 := Tryd.underlying41
  have HG := Aside0.mk hG
  clear hG
  have HB := Aside0.mk (Below.refl w.heap.size w)
  have H : ((value_Right.f a0_0 a0_1 a0_2).bind fun t174 => (if t174 = true then (if a0_1 < 0 then (corollarylaw11_LexShown.j0 k a1 true a0_0 a0_1 a0_2) else (corollarylaw11_LexShown.j0 k a1 (decide ((a0_2.size : Int) > 60)) a0_0 a0_1 a0_2)) else (corollarylaw11_LexShown.j0 k a1 true a0_0 a0_1 a0_2))) = some r := h
  clear h
  have HC3 := Aside0.mk H
  clear H
  go_enter Tryd.func6, Tryd.ntmps6
  go_upto_region 1 with (first | ((with_reducible refine gate_dst (N := 2) rfl ?_); (try (refine gate_guard (by rfl) ?_; dsimp only)); refine box_event ?hg (N := 2) ?hd (cs := #[.int .i64 a0_0, .int .i64 a0_1, .string a0_2]) (t := 36) ?hr ?_; (case hd => rfl); (case hg => rfl); (case hr => first | (go_simp; done) | (go_simp; rfl)); intro gb173 hg w4 hbox hb; have n0_ := Aside0.mk (below_step q0_ hb); have n1_ := Aside0.mk (hbox); have n2_ := Aside0.mk ((q1_ : w.heap.size ≤ gb173)); have n3_ := Aside0.mk ((q1_ : w.heap.size ≤ gb173)); clear HB; have HB := n0_; have BK173 := n1_; have GW173 := n2_; have GE173 := n3_; clear n0_ n1_ n2_ n3_; clear hb hbox hg))
  (try simp only [Act.put, List.setIfInBounds_toArray, List.set_cons_zero, List.set_cons_succ])
  go_cut [24] (fun v24 wc => ∃ (kq : Nat) (x24_2 : Bool), v24 = .bool x24_2 ∧ Aside0 (corollarylaw11_LexShown.j0 kq a1 x24_2 a0_0 a0_1 a0_2 = some r) ∧ Aside0 (kq ≤ k) ∧ Aside0 (wc.heap[gb173]? = some (.cells #[.int .i64 a0_0, .int .i64 a0_1, .string a0_2] 36 (0, 0))) ∧ Aside0 (Below w.heap.size w wc))
  case first =>
    have H := HC3.out
    clear HC3
    replace H := Option.bind_eq_some_iff.mp H
    obtain ⟨t174, A50, H⟩ := H
    replace H : (if t174 = true then (if a0_1 < 0 then (corollarylaw11_LexShown.j0 k a1 true a0_0 a0_1 a0_2) else (corollarylaw11_LexShown.j0 k a1 (decide ((a0_2.size : Int) > 60)) a0_0 a0_1 a0_2)) else (corollarylaw11_LexShown.j0 k a1 true a0_0 a0_1 a0_2)) = some r := H
    have A5 := Aside0.mk A50
    clear A50
    by_cases c6 : t174 = true
    · subst c6
      replace H := ifT_ H
      by_cases c7 : a0_1 < 0
      · rw [if_pos c7] at H
        have c7b0 : decide (a0_1 < 0) = true := decide_eq_true c7
        clear c7
        (first | rw [c7b0] | (simp only [i64_w, i32_w]; rw [c7b0]) | skip)
        have H' := Aside0.mk H
        clear H
        have hcz8_0 : w4.cell? ⟨gb173, 0, none⟩ = some (.int .i64 a0_0) := (blk_cell BK173.out 0).trans rfl
        have hcz8_1 : w4.cell? ⟨gb173, 1, none⟩ = some (.int .i64 a0_1) := (blk_cell BK173.out 1).trans rfl
        have hcz8_2 : w4.cell? ⟨gb173, 2, none⟩ = some (.string a0_2) := (blk_cell BK173.out 2).trans rfl
        have hfz8_0 := blk_frozen BK173.out 0
        have hfz8_1 := blk_frozen BK173.out 1
        have hfz8_2 := blk_frozen BK173.out 2
        go_wp2_with (first | ((with_reducible refine gate_callee (f := 12) rfl ?_); refine goesL_ (some 12) rfl rfl Tryd.func12 (by kernel_rfl) rfl #[.agg #[.int .i64 a0_0, .int .i64 a0_1, .string a0_2]] rfl q2_ ?_; (with_reducible refine (value_Right.calls a0_0 a0_1 a0_2 true _ A5.out q10_).mono ?_); rintro e w9 ⟨rfl, hb⟩; refine ⟨_, rfl, ?_⟩; have n0_ := Aside0.mk (blk_below (g := gb173) (o := .cells #[.int .i64 a0_0, .int .i64 a0_1, .string a0_2] 36 (0, 0)) q6_ hb); have n1_ := Aside0.mk (below_step q0_ hb); clear BK173; clear HB; have BK173 := n0_; have HB := n1_; clear n0_ n1_; (try clear hb); (try clear hb2); (try clear hk); (try clear hi); have hcz10_0 : w9.cell? ⟨gb173, 0, none⟩ = some (.int .i64 a0_0) := (blk_cell BK173.out 0).trans rfl; have hcz10_1 : w9.cell? ⟨gb173, 1, none⟩ = some (.int .i64 a0_1) := (blk_cell BK173.out 1).trans rfl; have hcz10_2 : w9.cell? ⟨gb173, 2, none⟩ = some (.string a0_2) := (blk_cell BK173.out 2).trans rfl; have hfz10_0 := blk_frozen BK173.out 0; have hfz10_1 := blk_frozen BK173.out 1; have hfz10_2 := blk_frozen BK173.out 2))
        go_meet
        case rel => exact ⟨_, (true), q11_, H', ⟨by first | omega | exact Nat.le_refl _⟩, ⟨q6_⟩, ⟨q0_⟩⟩
      · rw [if_neg c7] at H
        have c7b0 : decide (a0_1 < 0) = false := decide_eq_false c7
        clear c7
        (first | rw [c7b0] | (simp only [i64_w, i32_w]; rw [c7b0]) | skip)
        have H' := Aside0.mk H
        clear H
        have hcz11_0 : w4.cell? ⟨gb173, 0, none⟩ = some (.int .i64 a0_0) := (blk_cell BK173.out 0).trans rfl
        have hcz11_1 : w4.cell? ⟨gb173, 1, none⟩ = some (.int .i64 a0_1) := (blk_cell BK173.out 1).trans rfl
        have hcz11_2 : w4.cell? ⟨gb173, 2, none⟩ = some (.string a0_2) := (blk_cell BK173.out 2).trans rfl
        have hfz11_0 := blk_frozen BK173.out 0
        have hfz11_1 := blk_frozen BK173.out 1
        have hfz11_2 := blk_frozen BK173.out 2
        go_wp2_with (first | ((with_reducible refine gate_callee (f := 12) rfl ?_); refine goesL_ (some 12) rfl rfl Tryd.func12 (by kernel_rfl) rfl #[.agg #[.int .i64 a0_0, .int .i64 a0_1, .string a0_2]] rfl q2_ ?_; (with_reducible refine (value_Right.calls a0_0 a0_1 a0_2 true _ A5.out q10_).mono ?_); rintro e w12 ⟨rfl, hb⟩; refine ⟨_, rfl, ?_⟩; have n0_ := Aside0.mk (blk_below (g := gb173) (o := .cells #[.int .i64 a0_0, .int .i64 a0_1, .string a0_2] 36 (0, 0)) q6_ hb); have n1_ := Aside0.mk (below_step q0_ hb); clear BK173; clear HB; have BK173 := n0_; have HB := n1_; clear n0_ n1_; (try clear hb); (try clear hb2); (try clear hk); (try clear hi); have hcz13_0 : w12.cell? ⟨gb173, 0, none⟩ = some (.int .i64 a0_0) := (blk_cell BK173.out 0).trans rfl; have hcz13_1 : w12.cell? ⟨gb173, 1, none⟩ = some (.int .i64 a0_1) := (blk_cell BK173.out 1).trans rfl; have hcz13_2 : w12.cell? ⟨gb173, 2, none⟩ = some (.string a0_2) := (blk_cell BK173.out 2).trans rfl; have hfz13_0 := blk_frozen BK173.out 0; have hfz13_1 := blk_frozen BK173.out 1; have hfz13_2 := blk_frozen BK173.out 2))
        go_meet
        case rel => exact ⟨_, (decide ((a0_2.size : Int) > 60)), q11_, H', ⟨by first | omega | exact Nat.le_refl _⟩, ⟨q6_⟩, ⟨q0_⟩⟩
    · replace c6 := Bool.eq_false_iff.mpr c6
      subst c6
      replace H := ifF_ H
      have H' := Aside0.mk H
      clear H
      have hcz14_0 : w4.cell? ⟨gb173, 0, none⟩ = some (.int .i64 a0_0) := (blk_cell BK173.out 0).trans rfl
      have hcz14_1 : w4.cell? ⟨gb173, 1, none⟩ = some (.int .i64 a0_1) := (blk_cell BK173.out 1).trans rfl
      have hcz14_2 : w4.cell? ⟨gb173, 2, none⟩ = some (.string a0_2) := (blk_cell BK173.out 2).trans rfl
      have hfz14_0 := blk_frozen BK173.out 0
      have hfz14_1 := blk_frozen BK173.out 1
      have hfz14_2 := blk_frozen BK173.out 2
      go_wp2_with (first | ((with_reducible refine gate_callee (f := 12) rfl ?_); refine goesL_ (some 12) rfl rfl Tryd.func12 (by kernel_rfl) rfl #[.agg #[.int .i64 a0_0, .int .i64 a0_1, .string a0_2]] rfl q2_ ?_; (with_reducible refine (value_Right.calls a0_0 a0_1 a0_2 false _ A5.out q10_).mono ?_); rintro e w15 ⟨rfl, hb⟩; refine ⟨_, rfl, ?_⟩; have n0_ := Aside0.mk (blk_below (g := gb173) (o := .cells #[.int .i64 a0_0, .int .i64 a0_1, .string a0_2] 36 (0, 0)) q6_ hb); have n1_ := Aside0.mk (below_step q0_ hb); clear BK173; clear HB; have BK173 := n0_; have HB := n1_; clear n0_ n1_; (try clear hb); (try clear hb2); (try clear hk); (try clear hi)))
      go_meet
      case rel => exact ⟨_, (true), q11_, H', ⟨by first | omega | exact Nat.le_refl _⟩, ⟨q6_⟩, ⟨q0_⟩⟩
  case rest =>
    clear HC3
    try clear c1
    try clear p2
    try clear c6
    try clear c7
    try clear c7b0
    try clear c12
    try clear hcz10_0
    try clear hcz10_1
    try clear hcz10_2
    try clear hcz11_0
    try clear hcz11_1
    try clear hcz11_2
    try clear hcz13_0
    try clear hcz13_1
    try clear hcz13_2
    try clear hcz14_0
    try clear hcz14_1
    try clear hcz14_2
    try clear hcz8_0
    try clear hcz8_1
    try clear hcz8_2
    try clear hfz10_0
    try clear hfz10_1
    try clear hfz10_2
    try clear hfz11_0
    try clear hfz11_1
    try clear hfz11_2
    try clear hfz13_0
    try clear hfz13_1
    try clear hfz13_2
    try clear hfz14_0
    try clear hfz14_1
    try clear hfz14_2
    try clear hfz8_0
    try clear hfz8_1
    try clear hfz8_2
    obtain ⟨kq, x24_2, rfl, HA, HJ2, BK173, HB⟩ := hcut
    cases kq with
    | zero => exact absurd HA.out (by simp [corollarylaw11_LexShown.j0])
    | succ kj2 =>
      have H := HA.out
      clear HA
      simp only [corollarylaw11_LexShown.j0] at H
      by_cases c16 : x24_2 = true
      · subst c16
        replace H := ifT_ H
        replace H := Option.bind_eq_some_iff.mp H
        obtain ⟨t175, A170, H⟩ := H
        replace H : (some t175) = some r := H
        have A17 := Aside0.mk A170
        clear A170
        obtain rfl := Option.some.inj H
        go_wp2_with (first | ((with_reducible refine gate_callee (f := 7) rfl ?_); refine goesL_ (some 25) rfl rfl Tryd.func7 (by kernel_rfl) rfl #[] rfl q2_ ?_; (with_reducible refine (corollarylaw11_awake.calls kj2  t175 _ A17.out q10_).mono ?_); rintro e w18 ⟨rfl, hb⟩; refine ⟨_, rfl, ?_⟩; have n0_ := Aside0.mk (blk_below (g := gb173) (o := .cells #[.int .i64 a0_0, .int .i64 a0_1, .string a0_2] 36 (0, 0)) q6_ hb); have n1_ := Aside0.mk (below_step q0_ hb); clear BK173; clear HB; have BK173 := n0_; have HB := n1_; clear n0_ n1_; (try clear hb); (try clear hb2); (try clear hk); (try clear hi)))
        go_ret
        exact ⟨q3_, q0_⟩
      · replace c16 := Bool.eq_false_iff.mpr c16
        subst c16
        replace H := ifF_ H
        replace H := Option.bind_eq_some_iff.mp H
        obtain ⟨t176, A190, H⟩ := H
        replace H : (corollarylaw11_LexShown.l0 kj2 a1 t176 0 a0_0 a0_1 a0_2) = some r := H
        have A19 := Aside0.mk A190
        clear A190
        have H' := Aside0.mk H
        clear H
        have hcz20_0 : wc.cell? ⟨gb173, 0, none⟩ = some (.int .i64 a0_0) := (blk_cell BK173.out 0).trans rfl
        have hcz20_1 : wc.cell? ⟨gb173, 1, none⟩ = some (.int .i64 a0_1) := (blk_cell BK173.out 1).trans rfl
        have hcz20_2 : wc.cell? ⟨gb173, 2, none⟩ = some (.string a0_2) := (blk_cell BK173.out 2).trans rfl
        have hfz20_0 := blk_frozen BK173.out 0
        have hfz20_1 := blk_frozen BK173.out 1
        have hfz20_2 := blk_frozen BK173.out 2
        go_wp2_with (first | ((with_reducible refine gate_callee (f := 13) rfl ?_); refine goesL_ (some 27) rfl rfl Tryd.func13 (by kernel_rfl) rfl #[.agg #[.int .i64 a0_0, .int .i64 a0_1, .string a0_2]] rfl q2_ ?_; (with_reducible refine (value_Show.calls a0_0 a0_1 a0_2 t176 _ A19.out q10_).mono ?_); rintro e w21 ⟨rfl, hb⟩; refine ⟨_, rfl, ?_⟩; have n0_ := Aside0.mk (blk_below (g := gb173) (o := .cells #[.int .i64 a0_0, .int .i64 a0_1, .string a0_2] 36 (0, 0)) q6_ hb); have n1_ := Aside0.mk (below_step q0_ hb); clear BK173; clear HB; have BK173 := n0_; have HB := n1_; clear n0_ n1_; (try clear hb); (try clear hb2); (try clear hk); (try clear hi)))
        go_loopg [5, 6] kj2 (fun kq v5 v6 w' => ∃ (x5_2 : ByteArray) (x6_2 : Int), v5 = .string x5_2 ∧ v6 = .int .i64 x6_2 ∧ Aside0 (corollarylaw11_LexShown.l0 kq a1 x5_2 x6_2 a0_0 a0_1 a0_2 = some r) ∧ Aside0 (kq ≤ kj2) ∧ Aside0 (w'.heap[gb173]? = some (.cells #[.int .i64 a0_0, .int .i64 a0_1, .string a0_2] 36 (0, 0))) ∧ Aside0 (Below w.heap.size w w'))
        case atStart => exact ⟨(t176), (0), q11_, q11_, H', ⟨Nat.le_refl _⟩, ⟨q6_⟩, ⟨q0_⟩⟩
        case round =>
          clear H'
          try clear c1
          try clear p2
          try clear c6
          try clear c7
          try clear c7b0
          try clear c12
          try clear c13
          try clear c16
          try clear hcz10_0
          try clear hcz10_1
          try clear hcz10_2
          try clear hcz11_0
          try clear hcz11_1
          try clear hcz11_2
          try clear hcz13_0
          try clear hcz13_1
          try clear hcz13_2
          try clear hcz14_0
          try clear hcz14_1
          try clear hcz14_2
          try clear hcz20_0
          try clear hcz20_1
          try clear hcz20_2
          try clear hcz8_0
          try clear hcz8_1
          try clear hcz8_2
          try clear hfz10_0
          try clear hfz10_1
          try clear hfz10_2
          try clear hfz11_0
          try clear hfz11_1
          try clear hfz11_2
          try clear hfz13_0
          try clear hfz13_1
          try clear hfz13_2
          try clear hfz14_0
          try clear hfz14_1
          try clear hfz14_2
          try clear hfz20_0
          try clear hfz20_1
          try clear hfz20_2
          try clear hfz8_0
          try clear hfz8_1
          try clear hfz8_2
          try clear p2
          obtain ⟨x5_2, x6_2, rfl, rfl, HA, HK2, BK173, HB⟩ := hrel
          cases gk with
          | zero => exact absurd HA.out (by simp [corollarylaw11_LexShown.l0])
          | succ k2 =>
            have H := HA.out
            clear HA
            simp only [corollarylaw11_LexShown.l0] at H
            by_cases c22 : x6_2 < (wrap64 (Int.tmod a1 8))
            · rw [if_pos c22] at H
              have c22b0 : decide (x6_2 < (wrap64 (Int.tmod a1 8))) = true := decide_eq_true c22
              clear c22
              by_cases c23 : 1 + x5_2.size ≤ 9223372036854775807
              · rw [if_pos c23] at H
                have c23b0 := eq_true c23
                have c23b1 : decide (1 + x5_2.size ≤ 9223372036854775807) = true := decide_eq_true c23
                try have c23b2 : (9223372036854775807 < 1 + x5_2.size) = False := eq_false (Nat.not_lt.2 c23)
                by_cases c24 : ((⟨#[32]⟩ : ByteArray) ++ x5_2).size + 1 ≤ 9223372036854775807
                · rw [if_pos c24] at H
                  have c24b0 := eq_true c24
                  have c24b1 : decide (((⟨#[32]⟩ : ByteArray) ++ x5_2).size + 1 ≤ 9223372036854775807) = true := decide_eq_true c24
                  try have c24b2 : (9223372036854775807 < ((⟨#[32]⟩ : ByteArray) ++ x5_2).size + 1) = False := eq_false (Nat.not_lt.2 c24)
                  (try (have c24b3 : 1 + x5_2.size + 1 ≤ 9223372036854775807 := by first | (have hq_ := c24; simp only [ByteArray.size_append] at hq_; exact hq_) | simpa [ByteArray.size_append] using c24))
                  (try (have c24b4 : (9223372036854775807 < 1 + x5_2.size + 1) = False := eq_false (Nat.not_lt.2 c24b3)))
                  have H' := Aside0.mk H
                  clear H
                  go_wp2
                  go_roundg k2
                  case measure => have := HJ2.out; have := HK2.out; omega
                  case rel => exact ⟨(((⟨#[32]⟩ : ByteArray) ++ x5_2) ++ (⟨#[32]⟩ : ByteArray)), (wrap64 (x6_2 + 1)), q11_, q11_, H', ⟨by have := HJ2.out; have := HK2.out; omega⟩, ⟨q6_⟩, ⟨q0_⟩⟩
                · rw [if_neg c24] at H
                  exact absurd H (by simp)
              · rw [if_neg c23] at H
                exact absurd H (by simp)
            · rw [if_neg c22] at H
              have c22b0 : decide (x6_2 < (wrap64 (Int.tmod a1 8))) = false := decide_eq_false c22
              clear c22
              replace H := Option.bind_eq_some_iff.mp H
              obtain ⟨⟨t177, t178⟩, A250, H⟩ := H
              replace H : (if t178 = 0 then (corollarylaw11_LexShown.j2 k2 t177 ((t177.length : Int) != 1) a0_0 a0_1 a0_2) else (corollarylaw11_LexShown.j2 k2 t177 true a0_0 a0_1 a0_2)) = some r := H
              have A25 := Aside0.mk A250
              clear A250
              have HC26 := Aside0.mk H
              clear H
              go_upto_region 9 with (first | ((with_reducible refine gate_callee (f := 8) rfl ?_); refine goesL_ (some 40) rfl rfl Tryd.func8 (by kernel_rfl) rfl #[.string x5_2] rfl q2_ ?_; (with_reducible refine (lex_Scan.calls k2 x5_2 t177 t178 _ A25.out q10_).mono ?_); rintro e w27 ⟨v179, rfl, ho0, hb⟩; refine ⟨_, rfl, ?_⟩; have n0_ := Aside0.mk (Kd.R_lower ho0 (below_size q0_)); have n1_ := Aside0.mk (blk_below (g := gb173) (o := .cells #[.int .i64 a0_0, .int .i64 a0_1, .string a0_2] 36 (0, 0)) q6_ hb); have n2_ := Aside0.mk (below_step q0_ hb); clear BK173; clear HB; have HO180 := n0_; have BK173 := n1_; have HB := n2_; clear n0_ n1_ n2_; (try clear hb); (try clear hb2); (try clear hk); (try clear hi); (try clear ho0)))
              (try simp only [Act.put, List.setIfInBounds_toArray, List.set_cons_zero, List.set_cons_succ])
              go_cut [49] (fun v49 wc => ∃ (kq : Nat) (x49_25 : Bool), v49 = .bool x49_25 ∧ Aside0 (corollarylaw11_LexShown.j2 kq t177 x49_25 a0_0 a0_1 a0_2 = some r) ∧ Aside0 (kq ≤ k2) ∧ Aside0 (Kd.R k41 41 wc w.heap.size (fun _ => True) v179 t177) ∧ Aside0 (wc.heap[gb173]? = some (.cells #[.int .i64 a0_0, .int .i64 a0_1, .string a0_2] 36 (0, 0))) ∧ Aside0 (Below w.heap.size w wc))
              case first =>
                have H := HC26.out
                clear HC26
                by_cases c28 : t178 = 0
                · rw [if_pos c28] at H
                  have c28b0 : (t178 == 0) = true := beq_iff_eq.mpr c28
                  have c28b1 : (t178 != 0) = false := bne_eq_false_iff_eq.mpr c28
                  clear c28
                  (first | rw [c28b0] | (simp only [i64_w, i32_w]; rw [c28b0]) | skip)
                  have H' := Aside0.mk H
                  clear H
                  obtain ⟨Ao29, co29, eo29⟩ := Kd.R_slice HO180.out
                  subst eo29
                  go_wp2
                  go_meet
                  case rel => exact ⟨_, (((t177.length : Int) != 1)), q11_, H', ⟨by have := HJ2.out; have := HK2.out; first | omega | exact Nat.le_refl _⟩, ⟨by (with_reducible repeat (first | apply Kd.R_alloc | apply Kd.R_drewN | apply Kd.R_drew)); exact HO180.out⟩, ⟨q6_⟩, ⟨q0_⟩⟩
                · rw [if_neg c28] at H
                  have c28b0 : (t178 == 0) = false := beq_eq_false_iff_ne.mpr c28
                  have c28b1 : (t178 != 0) = true := bne_iff_ne.mpr c28
                  (first | rw [c28b0] | (simp only [i64_w, i32_w]; rw [c28b0]) | skip)
                  have H' := Aside0.mk H
                  clear H
                  go_wp2
                  go_meet
                  case rel => exact ⟨_, (true), q11_, H', ⟨by have := HJ2.out; have := HK2.out; first | omega | exact Nat.le_refl _⟩, ⟨by (with_reducible repeat (first | apply Kd.R_alloc | apply Kd.R_drewN | apply Kd.R_drew)); exact HO180.out⟩, ⟨q6_⟩, ⟨q0_⟩⟩
              case rest =>
                clear HC26
                try clear c1
                try clear c2
                try clear p2
                try clear c6
                try clear p6
                try clear c7
                try clear c7b0
                try clear c8
                try clear c12
                try clear c13
                try clear c16
                try clear c22
                try clear c22b0
                try clear c23
                try clear c23b0
                try clear c23b1
                try clear c23b2
                try clear c24
                try clear c24b0
                try clear c24b1
                try clear c24b2
                try clear c28
                try clear c28b0
                try clear c28b1
                try clear hcz10_0
                try clear hcz10_1
                try clear hcz10_2
                try clear hcz11_0
                try clear hcz11_1
                try clear hcz11_2
                try clear hcz13_0
                try clear hcz13_1
                try clear hcz13_2
                try clear hcz14_0
                try clear hcz14_1
                try clear hcz14_2
                try clear hcz20_0
                try clear hcz20_1
                try clear hcz20_2
                try clear hcz8_0
                try clear hcz8_1
                try clear hcz8_2
                try clear hfz10_0
                try clear hfz10_1
                try clear hfz10_2
                try clear hfz11_0
                try clear hfz11_1
                try clear hfz11_2
                try clear hfz13_0
                try clear hfz13_1
                try clear hfz13_2
                try clear hfz14_0
                try clear hfz14_1
                try clear hfz14_2
                try clear hfz20_0
                try clear hfz20_1
                try clear hfz20_2
                try clear hfz8_0
                try clear hfz8_1
                try clear hfz8_2
                try clear p2
                obtain ⟨kq, x49_25, rfl, HA, HJ25, HO_7, BK173, HB⟩ := hcut
                cases kq with
                | zero => exact absurd HA.out (by simp [corollarylaw11_LexShown.j2])
                | succ kj25 =>
                  have H := HA.out
                  clear HA
                  simp only [corollarylaw11_LexShown.j2] at H
                  by_cases c30 : x49_25 = true
                  · subst c30
                    replace H := ifT_ H
                    obtain rfl := Option.some.inj H
                    go_wp2
                    go_ret
                    exact ⟨q3_, q0_⟩
                  · replace c30 := Bool.eq_false_iff.mpr c30
                    subst c30
                    replace H := ifF_ H
                    by_cases c31 : 0 < (t177.length : Int)
                    · rw [if_pos c31] at H
                      have c31b0 : decide (0 < (t177.length : Int)) = true := decide_eq_true c31
                      have c31b1 : decide (0 < t177.length) = true := decide_eq_true (by omega)
                      clear c31
                      replace H := Option.bind_eq_some_iff.mp H
                      obtain ⟨⟨t182, t183, t184, t185⟩, A320, H⟩ := H
                      replace H : (if (t182 == a0_0 && (t183 == a0_1 && (t184.toList == a0_2.toList))) = true then (if t185 = true then ((corollarylaw11_awake.f kj25).bind fun t187 => (some t187)) else (some false)) else (some false)) = some r := H
                      have A32 := Aside0.mk A320
                      clear A320
                      by_cases c33 : (t182 == a0_0 && (t183 == a0_1 && (t184.toList == a0_2.toList))) = true
                      · rw [if_pos c33] at H
                        have c33b0 : (t182 == a0_0 && (t183 == a0_1 && (t184.toList == a0_2.toList))) = true := c33
                        (try (have c33b1 : decide (t182 = a0_0 && (t183 == a0_1 && (t184.toList == a0_2.toList))) = true := by simpa using c33))
                        (try (have c33b2 : (t182 == a0_0 && (t183 == a0_1 && (t184.toList == a0_2.toList))) = true := by simpa using c33))
                        clear c33
                        by_cases c34 : t185 = true
                        · subst c34
                          replace H := ifT_ H
                          replace H := Option.bind_eq_some_iff.mp H
                          obtain ⟨t187, A350, H⟩ := H
                          replace H : (some t187) = some r := H
                          have A35 := Aside0.mk A350
                          clear A350
                          obtain rfl := Option.some.inj H
                          obtain ⟨Ao36, co36, eo36⟩ := Kd.R_slice HO_7.out
                          subst eo36
                          have p181 : 0 ≤ (0 : Int) := (by omega)
                          have q181 : 0 < (t177.length : Int) := of_decide_eq_true q5_
                          obtain ⟨ad181, e181, hx181_0, hx181_1, hx181_2⟩ := at_T41 (Kd.R_reads' HO_7.out).2.2 0 p181 q181
                          cases e181
                          have qi181 : (0 < t177.length) = True := eq_true (by omega)
                          (try rw [show ((0 : Int)).toNat = 0 from rfl] at hx181_0)
                          (try rw [show 0 * 3 = 0 from rfl] at hx181_0)
                          (try rw [Addr.add_zero'] at hx181_0)
                          (try rw [show ((0 : Int)).toNat = 0 from rfl] at hx181_1)
                          (try rw [show 0 * 3 = 0 from rfl] at hx181_1)
                          (try rw [Addr.add_zero'] at hx181_1)
                          (try rw [show ((0 : Int)).toNat = 0 from rfl] at hx181_2)
                          (try rw [show 0 * 3 = 0 from rfl] at hx181_2)
                          (try rw [Addr.add_zero'] at hx181_2)
                          replace p181 := eq_true p181
                          replace q181 := eq_true q181
                          go_wp2_with (first | ((with_reducible refine gate_callee (f := 14) rfl ?_); refine goesL_ (some 54) rfl rfl Tryd.func14 (by kernel_rfl) rfl #[.agg #[.int .i64 ((rd_T41 t177 0).f0), .int .i64 ((rd_T41 t177 0).f1), .string ((rd_T41 t177 0).f2)]] rfl q2_ ?_; (with_reducible refine (lex_Literal.calls ((rd_T41 t177 0).f0) ((rd_T41 t177 0).f1) ((rd_T41 t177 0).f2) t182 t183 t184 true _ A32.out).mono ?_); rintro e w37 ⟨rfl, hb⟩; refine ⟨_, rfl, ?_⟩; have n0_ := Aside0.mk (Kd.R_below q26_ hb); have n1_ := Aside0.mk (blk_below (g := gb173) (o := .cells #[.int .i64 a0_0, .int .i64 a0_1, .string a0_2] 36 (0, 0)) q6_ hb); have n2_ := Aside0.mk (below_step q0_ hb); clear HO_7; clear BK173; clear HB; have HO_7 := n0_; have BK173 := n1_; have HB := n2_; clear n0_ n1_ n2_; (try clear hb); (try clear hb2); (try clear hk); (try clear hi)) | ((with_reducible refine gate_dst (N := 9) rfl ?_); (try (refine gate_guard (by rfl) ?_; dsimp only)); refine box_event ?hg (N := 9) ?hd (cs := #[.int .i64 0, .int .i64 0, .string (⟨#[]⟩ : ByteArray)]) (t := 36) ?hr ?_; (case hd => rfl); (case hg => rfl); (case hr => first | (go_simp; done) | (go_simp; rfl)); intro gb186 hg w38 hbox hb; have n0_ := Aside0.mk (Kd.R_below q26_ hb); have n1_ := Aside0.mk (blk_below (g := gb173) (o := .cells #[.int .i64 a0_0, .int .i64 a0_1, .string a0_2] 36 (0, 0)) q6_ hb); have n2_ := Aside0.mk (below_step q0_ hb); have n3_ := Aside0.mk (hbox); have n4_ := Aside0.mk ((q1_ : w.heap.size ≤ gb186)); have n5_ := Aside0.mk ((q1_ : w.heap.size ≤ gb186)); have n6_ := Aside0.mk ((q30_ : gb173 ≠ gb186)); have n7_ := Aside0.mk ((q31_ : gb186 ≠ gb173)); clear HO_7; clear BK173; clear HB; have HO_7 := n0_; have BK173 := n1_; have HB := n2_; have BK186 := n3_; have GW186 := n4_; have GE186 := n5_; have NB173_186 := n6_; have NB186_173 := n7_; clear n0_ n1_ n2_ n3_ n4_ n5_ n6_ n7_; clear hb hbox hg; have hnb39 := NB186_173.out; have hnc39 := NB173_186.out; have hcz40_0 : w38.cell? ⟨gb186, 0, none⟩ = some (.int .i64 0) := (blk_cell BK186.out 0).trans rfl; have hcz40_1 : w38.cell? ⟨gb186, 1, none⟩ = some (.int .i64 0) := (blk_cell BK186.out 1).trans rfl; have hcz40_2 : w38.cell? ⟨gb186, 2, none⟩ = some (.string (⟨#[]⟩ : ByteArray)) := (blk_cell BK186.out 2).trans rfl; have hfz40_0 := blk_frozen BK186.out 0; have hfz40_1 := blk_frozen BK186.out 1; have hfz40_2 := blk_frozen BK186.out 2; have hcz41_0 : w38.cell? ⟨gb173, 0, none⟩ = some (.int .i64 a0_0) := (blk_cell BK173.out 0).trans rfl; have hcz41_1 : w38.cell? ⟨gb173, 1, none⟩ = some (.int .i64 a0_1) := (blk_cell BK173.out 1).trans rfl; have hcz41_2 : w38.cell? ⟨gb173, 2, none⟩ = some (.string a0_2) := (blk_cell BK173.out 2).trans rfl; have hfz41_0 := blk_frozen BK173.out 0; have hfz41_1 := blk_frozen BK173.out 1; have hfz41_2 := blk_frozen BK173.out 2) | (go_at_call 7; (with_reducible refine (corollarylaw11_awake.calls kj25  t187 _ A35.out (by first | exact HG.out | (refine Glob.below HG.out ?_; (repeat (first | (with_reducible first | exact HB.out | apply below_alloc | apply pw_below_drewN | apply below_drew1 | refine below_set ?_ GE173.out | refine below_set ?_ GE186.out) | exact HB.out))) | (repeat (first | exact HG.out | apply Glob.drewN | apply Glob.drew | apply Glob.alloc)))).mono ?_); rintro e w42 ⟨rfl, hb⟩; have n0_ := Aside0.mk (Kd.R_below (by (with_reducible repeat (first | apply Kd.R_alloc | apply Kd.R_drewN | apply Kd.R_drew)); exact (Kd.R_mono (Kd.R_far (p := ⟨gb186, 2, none⟩) (Kd.R_far (p := ⟨gb186, 1, none⟩) (Kd.R_far (p := ⟨gb186, 0, none⟩) (Kd.R_types HO_7.out BK186.out (by decide)) (fun _ hk => hk.2) (.int .i64 t182)) (fun _ hk => hk.2) (.int .i64 t183)) (fun _ hk => hk.2) (.string t184)) (fun _ h_ => h_.1))) hb); have n1_ := Aside0.mk (blk_below (g := gb173) (o := .cells #[.int .i64 a0_0, .int .i64 a0_1, .string a0_2] 36 (0, 0)) (by (with_reducible repeat first | apply bN_ | apply bD_ | apply bA_); refine blk_far ?_ NB173_186.out _; (with_reducible repeat first | apply bN_ | apply bD_ | apply bA_); refine blk_far ?_ NB173_186.out _; (with_reducible repeat first | apply bN_ | apply bD_ | apply bA_); refine blk_far ?_ NB173_186.out _; (with_reducible repeat first | apply bN_ | apply bD_ | apply bA_); exact BK173.out) hb); have n2_ := Aside0.mk (blk_below (g := gb186) (o := .cells #[.int .i64 t182, .int .i64 t183, .string t184] 36 (0, 0)) (by (with_reducible repeat first | apply bN_ | apply bD_ | apply bA_); refine blk_put (cs := #[.int .i64 t182, .int .i64 t183, .string (⟨#[]⟩ : ByteArray)]) ?_ 2 _ rfl; (with_reducible repeat first | apply bN_ | apply bD_ | apply bA_); refine blk_put (cs := #[.int .i64 t182, .int .i64 0, .string (⟨#[]⟩ : ByteArray)]) ?_ 1 _ rfl; (with_reducible repeat first | apply bN_ | apply bD_ | apply bA_); refine blk_put (cs := #[.int .i64 0, .int .i64 0, .string (⟨#[]⟩ : ByteArray)]) ?_ 0 _ rfl; (with_reducible repeat first | apply bN_ | apply bD_ | apply bA_); exact BK186.out) hb); have n3_ := Aside0.mk (below_step q0_ hb); clear HO_7; clear BK173; clear BK186; clear HB; have HO_7 := n0_; have BK173 := n1_; have BK186 := n2_; have HB := n3_; clear n0_ n1_ n2_ n3_; (try clear hb); (try clear hb2); (try clear hk); (try clear hi)))
                          go_ret
                          exact ⟨q3_, q0_⟩
                        · replace c34 := Bool.eq_false_iff.mpr c34
                          subst c34
                          replace H := ifF_ H
                          obtain rfl := Option.some.inj H
                          obtain ⟨Ao43, co43, eo43⟩ := Kd.R_slice HO_7.out
                          subst eo43
                          have p181 : 0 ≤ (0 : Int) := (by omega)
                          have q181 : 0 < (t177.length : Int) := of_decide_eq_true q5_
                          obtain ⟨ad181, e181, hx181_0, hx181_1, hx181_2⟩ := at_T41 (Kd.R_reads' HO_7.out).2.2 0 p181 q181
                          cases e181
                          have qi181 : (0 < t177.length) = True := eq_true (by omega)
                          (try rw [show ((0 : Int)).toNat = 0 from rfl] at hx181_0)
                          (try rw [show 0 * 3 = 0 from rfl] at hx181_0)
                          (try rw [Addr.add_zero'] at hx181_0)
                          (try rw [show ((0 : Int)).toNat = 0 from rfl] at hx181_1)
                          (try rw [show 0 * 3 = 0 from rfl] at hx181_1)
                          (try rw [Addr.add_zero'] at hx181_1)
                          (try rw [show ((0 : Int)).toNat = 0 from rfl] at hx181_2)
                          (try rw [show 0 * 3 = 0 from rfl] at hx181_2)
                          (try rw [Addr.add_zero'] at hx181_2)
                          replace p181 := eq_true p181
                          replace q181 := eq_true q181
                          go_wp2_with (first | ((with_reducible refine gate_callee (f := 14) rfl ?_); refine goesL_ (some 54) rfl rfl Tryd.func14 (by kernel_rfl) rfl #[.agg #[.int .i64 ((rd_T41 t177 0).f0), .int .i64 ((rd_T41 t177 0).f1), .string ((rd_T41 t177 0).f2)]] rfl q2_ ?_; (with_reducible refine (lex_Literal.calls ((rd_T41 t177 0).f0) ((rd_T41 t177 0).f1) ((rd_T41 t177 0).f2) t182 t183 t184 false _ A32.out).mono ?_); rintro e w44 ⟨rfl, hb⟩; refine ⟨_, rfl, ?_⟩; have n0_ := Aside0.mk (Kd.R_below q26_ hb); have n1_ := Aside0.mk (blk_below (g := gb173) (o := .cells #[.int .i64 a0_0, .int .i64 a0_1, .string a0_2] 36 (0, 0)) q6_ hb); have n2_ := Aside0.mk (below_step q0_ hb); clear HO_7; clear BK173; clear HB; have HO_7 := n0_; have BK173 := n1_; have HB := n2_; clear n0_ n1_ n2_; (try clear hb); (try clear hb2); (try clear hk); (try clear hi)) | ((with_reducible refine gate_dst (N := 9) rfl ?_); (try (refine gate_guard (by rfl) ?_; dsimp only)); refine box_event ?hg (N := 9) ?hd (cs := #[.int .i64 0, .int .i64 0, .string (⟨#[]⟩ : ByteArray)]) (t := 36) ?hr ?_; (case hd => rfl); (case hg => rfl); (case hr => first | (go_simp; done) | (go_simp; rfl)); intro gb186 hg w45 hbox hb; have n0_ := Aside0.mk (Kd.R_below q26_ hb); have n1_ := Aside0.mk (blk_below (g := gb173) (o := .cells #[.int .i64 a0_0, .int .i64 a0_1, .string a0_2] 36 (0, 0)) q6_ hb); have n2_ := Aside0.mk (below_step q0_ hb); have n3_ := Aside0.mk (hbox); have n4_ := Aside0.mk ((q1_ : w.heap.size ≤ gb186)); have n5_ := Aside0.mk ((q1_ : w.heap.size ≤ gb186)); have n6_ := Aside0.mk ((q30_ : gb173 ≠ gb186)); have n7_ := Aside0.mk ((q31_ : gb186 ≠ gb173)); clear HO_7; clear BK173; clear HB; have HO_7 := n0_; have BK173 := n1_; have HB := n2_; have BK186 := n3_; have GW186 := n4_; have GE186 := n5_; have NB173_186 := n6_; have NB186_173 := n7_; clear n0_ n1_ n2_ n3_ n4_ n5_ n6_ n7_; clear hb hbox hg; have hnb46 := NB186_173.out; have hnc46 := NB173_186.out; have hcz47_0 : w45.cell? ⟨gb186, 0, none⟩ = some (.int .i64 0) := (blk_cell BK186.out 0).trans rfl; have hcz47_1 : w45.cell? ⟨gb186, 1, none⟩ = some (.int .i64 0) := (blk_cell BK186.out 1).trans rfl; have hcz47_2 : w45.cell? ⟨gb186, 2, none⟩ = some (.string (⟨#[]⟩ : ByteArray)) := (blk_cell BK186.out 2).trans rfl; have hfz47_0 := blk_frozen BK186.out 0; have hfz47_1 := blk_frozen BK186.out 1; have hfz47_2 := blk_frozen BK186.out 2; have hcz48_0 : w45.cell? ⟨gb173, 0, none⟩ = some (.int .i64 a0_0) := (blk_cell BK173.out 0).trans rfl; have hcz48_1 : w45.cell? ⟨gb173, 1, none⟩ = some (.int .i64 a0_1) := (blk_cell BK173.out 1).trans rfl; have hcz48_2 : w45.cell? ⟨gb173, 2, none⟩ = some (.string a0_2) := (blk_cell BK173.out 2).trans rfl; have hfz48_0 := blk_frozen BK173.out 0; have hfz48_1 := blk_frozen BK173.out 1; have hfz48_2 := blk_frozen BK173.out 2))
                          go_ret
                          exact ⟨q3_, q0_⟩
                      · rw [if_neg c33] at H
                        have c33b0 : (t182 == a0_0 && (t183 == a0_1 && (t184.toList == a0_2.toList))) = false := by simpa using c33
                        (try (have c33b1 : decide (t182 = a0_0 && (t183 == a0_1 && (t184.toList == a0_2.toList))) = false := by simpa using c33))
                        (try (have c33b2 : (t182 == a0_0 && (t183 == a0_1 && (t184.toList == a0_2.toList))) = false := by simpa using c33))
                        (try (have c33b3 : ¬ (t182 = a0_0 && (t183 == a0_1 && (t184.toList == a0_2.toList))) := by simpa using c33))
                        clear c33
                        obtain rfl := Option.some.inj H
                        obtain ⟨Ao49, co49, eo49⟩ := Kd.R_slice HO_7.out
                        subst eo49
                        have p181 : 0 ≤ (0 : Int) := (by omega)
                        have q181 : 0 < (t177.length : Int) := of_decide_eq_true q5_
                        obtain ⟨ad181, e181, hx181_0, hx181_1, hx181_2⟩ := at_T41 (Kd.R_reads' HO_7.out).2.2 0 p181 q181
                        cases e181
                        have qi181 : (0 < t177.length) = True := eq_true (by omega)
                        (try rw [show ((0 : Int)).toNat = 0 from rfl] at hx181_0)
                        (try rw [show 0 * 3 = 0 from rfl] at hx181_0)
                        (try rw [Addr.add_zero'] at hx181_0)
                        (try rw [show ((0 : Int)).toNat = 0 from rfl] at hx181_1)
                        (try rw [show 0 * 3 = 0 from rfl] at hx181_1)
                        (try rw [Addr.add_zero'] at hx181_1)
                        (try rw [show ((0 : Int)).toNat = 0 from rfl] at hx181_2)
                        (try rw [show 0 * 3 = 0 from rfl] at hx181_2)
                        (try rw [Addr.add_zero'] at hx181_2)
                        replace p181 := eq_true p181
                        replace q181 := eq_true q181
                        go_wp2_with (first | ((with_reducible refine gate_callee (f := 14) rfl ?_); refine goesL_ (some 54) rfl rfl Tryd.func14 (by kernel_rfl) rfl #[.agg #[.int .i64 ((rd_T41 t177 0).f0), .int .i64 ((rd_T41 t177 0).f1), .string ((rd_T41 t177 0).f2)]] rfl q2_ ?_; (with_reducible refine (lex_Literal.calls ((rd_T41 t177 0).f0) ((rd_T41 t177 0).f1) ((rd_T41 t177 0).f2) t182 t183 t184 t185 _ A32.out).mono ?_); rintro e w50 ⟨rfl, hb⟩; refine ⟨_, rfl, ?_⟩; have n0_ := Aside0.mk (Kd.R_below q26_ hb); have n1_ := Aside0.mk (blk_below (g := gb173) (o := .cells #[.int .i64 a0_0, .int .i64 a0_1, .string a0_2] 36 (0, 0)) q6_ hb); have n2_ := Aside0.mk (below_step q0_ hb); clear HO_7; clear BK173; clear HB; have HO_7 := n0_; have BK173 := n1_; have HB := n2_; clear n0_ n1_ n2_; (try clear hb); (try clear hb2); (try clear hk); (try clear hi)) | ((with_reducible refine gate_dst (N := 9) rfl ?_); (try (refine gate_guard (by rfl) ?_; dsimp only)); refine box_event ?hg (N := 9) ?hd (cs := #[.int .i64 0, .int .i64 0, .string (⟨#[]⟩ : ByteArray)]) (t := 36) ?hr ?_; (case hd => rfl); (case hg => rfl); (case hr => first | (go_simp; done) | (go_simp; rfl)); intro gb186 hg w51 hbox hb; have n0_ := Aside0.mk (Kd.R_below q26_ hb); have n1_ := Aside0.mk (blk_below (g := gb173) (o := .cells #[.int .i64 a0_0, .int .i64 a0_1, .string a0_2] 36 (0, 0)) q6_ hb); have n2_ := Aside0.mk (below_step q0_ hb); have n3_ := Aside0.mk (hbox); have n4_ := Aside0.mk ((q1_ : w.heap.size ≤ gb186)); have n5_ := Aside0.mk ((q1_ : w.heap.size ≤ gb186)); have n6_ := Aside0.mk ((q30_ : gb173 ≠ gb186)); have n7_ := Aside0.mk ((q31_ : gb186 ≠ gb173)); clear HO_7; clear BK173; clear HB; have HO_7 := n0_; have BK173 := n1_; have HB := n2_; have BK186 := n3_; have GW186 := n4_; have GE186 := n5_; have NB173_186 := n6_; have NB186_173 := n7_; clear n0_ n1_ n2_ n3_ n4_ n5_ n6_ n7_; clear hb hbox hg; have hnb52 := NB186_173.out; have hnc52 := NB173_186.out; have hcz53_0 : w51.cell? ⟨gb186, 0, none⟩ = some (.int .i64 0) := (blk_cell BK186.out 0).trans rfl; have hcz53_1 : w51.cell? ⟨gb186, 1, none⟩ = some (.int .i64 0) := (blk_cell BK186.out 1).trans rfl; have hcz53_2 : w51.cell? ⟨gb186, 2, none⟩ = some (.string (⟨#[]⟩ : ByteArray)) := (blk_cell BK186.out 2).trans rfl; have hfz53_0 := blk_frozen BK186.out 0; have hfz53_1 := blk_frozen BK186.out 1; have hfz53_2 := blk_frozen BK186.out 2; have hcz54_0 : w51.cell? ⟨gb173, 0, none⟩ = some (.int .i64 a0_0) := (blk_cell BK173.out 0).trans rfl; have hcz54_1 : w51.cell? ⟨gb173, 1, none⟩ = some (.int .i64 a0_1) := (blk_cell BK173.out 1).trans rfl; have hcz54_2 : w51.cell? ⟨gb173, 2, none⟩ = some (.string a0_2) := (blk_cell BK173.out 2).trans rfl; have hfz54_0 := blk_frozen BK173.out 0; have hfz54_1 := blk_frozen BK173.out 1; have hfz54_2 := blk_frozen BK173.out 2))
                        go_ret
                        exact ⟨q3_, q0_⟩
                    · rw [if_neg c31] at H
                      exact absurd H (by simp)

end Go.Proofs.YtjcjndpfihchnaaDoor.P
