-- Written by our own program (wip/xprint) over the seat's translation. Lean checks it.
import Derived.Test.YtmdnnpahmoaicaaDoorPx0
import Derived.Test.YtmdnnpahmoaicaaDoorPx1
import Derived.Test.YtmdnnpahmoaicaaDoorPx48
import Derived.Test.YtmdnnpahmoaicaaDoorPx56
import Derived.Test.YtmdnnpahmoaicaaDoorPx72
import Derived.Test.YtmdnnpahmoaicaaDoorPx76
namespace Go.Proofs.YtmdnnpahmoaicaaDoor.P
open Go.RowKit Go.Proofs.YtmdnnpahmoaicaaDoorW.PrintWords Go.Proofs.YtmdnnpahmoaicaaDoorW.PrintLast Go.Proofs.YtmdnnpahmoaicaaDoorW.PrintMore
attribute [local go_sem] max2_int min2_mn max_two min_two max_three min_three max_four min_four   -- for this text's walks alone
set_option linter.unusedVariables false
set_option linter.unusedSimpArgs false


/-! ### corollarylaw01_ValueShows: function 10 -/
def corollarylaw01_ValueShows.j0 : Nat → List (S23) → ByteArray → Int → Int → ByteArray → Option (Bool)
  | 0, _, _, _, _, _ => none
  | k + 1, x1, x5, x380000, x380001, x380002 => (value_Show.f x380000 x380001 x380002).bind fun t383 => (if t383.toList = x5.toList then ((value_Row.f k x1).bind fun t384 => ((corollaryref01_Row.f k x1).bind fun t385 => (if t384.toList = t385.toList then ((corollarylaw01_awake.f k).bind fun t386 => (some t386)) else (some false)))) else (some false))
def corollarylaw01_ValueShows.f (k : Nat) (a0_0 : Int) (a0_1 : Int) (a0_2 : ByteArray) (l1 : List (S23)) : Option (Bool) := if (l1.length : Int) > 100 then ((corollarylaw01_awake.f k).bind fun t380 => (some t380)) else ((corollaryref01_Right.f k a0_0 a0_1 a0_2).bind fun t381 => (if t381 = true then ((corollaryref01_Show.f k a0_0 a0_1 a0_2).bind fun t382 => (corollarylaw01_ValueShows.j0 k l1 t382 a0_0 a0_1 a0_2)) else (corollarylaw01_ValueShows.j0 k l1 (⟨#[]⟩ : ByteArray) a0_0 a0_1 a0_2)))
theorem corollarylaw01_ValueShows.mono_l : ∀ k, (∀ y0 y1 y2 y3 y4, LeO (corollarylaw01_ValueShows.j0 k y0 y1 y2 y3 y4) (corollarylaw01_ValueShows.j0 (k + 1) y0 y1 y2 y3 y4))
  | 0 => fun _ _ _ _ _ r h => by simp [corollarylaw01_ValueShows.j0] at h
  | k + 1 => by
    have ih0 := corollarylaw01_ValueShows.mono_l k
    · intro y0 y1 y2 y3 y4
      unfold corollarylaw01_ValueShows.j0
      repeat' first
      | (with_reducible exact ih0 _ _ _ _ _)
      | (with_reducible exact corollarylaw01_awake.mono _)
      | (with_reducible exact corollaryref01_Right.mono _ _ _ _)
      | (with_reducible exact corollaryref01_Row.mono _ _)
      | (with_reducible exact corollaryref01_Show.mono _ _ _ _)
      | (with_reducible exact value_Row.mono _ _)
      | (with_reducible exact LeO.refl _)
      | (with_reducible exact LeO.none _)
      | (with_reducible refine LeO.ite ?_ ?_)
      | (with_reducible refine LeO.bind ?_ (fun _ => ?_))
      | exact ih0 _ _ _ _ _
      | exact corollarylaw01_awake.mono _
      | exact corollaryref01_Right.mono _ _ _ _
      | exact corollaryref01_Row.mono _ _
      | exact corollaryref01_Show.mono _ _ _ _
      | exact value_Row.mono _ _
      | exact LeO.none _
      | refine LeO.ite ?_ ?_
      | refine LeO.bind ?_ (fun _ => ?_)
theorem corollarylaw01_ValueShows.mono : ∀ a0 a1 a2 a3 k, LeO (corollarylaw01_ValueShows.f k a0 a1 a2 a3) (corollarylaw01_ValueShows.f (k + 1) a0 a1 a2 a3) := by
  intro a0 a1 a2 a3 k
  have ih0 := corollarylaw01_ValueShows.mono_l k
  unfold corollarylaw01_ValueShows.f
  repeat' first
      | (with_reducible exact ih0 _ _ _ _ _)
      | (with_reducible exact corollarylaw01_awake.mono _)
      | (with_reducible exact corollaryref01_Right.mono _ _ _ _)
      | (with_reducible exact corollaryref01_Row.mono _ _)
      | (with_reducible exact corollaryref01_Show.mono _ _ _ _)
      | (with_reducible exact value_Row.mono _ _)
      | (with_reducible exact LeO.refl _)
      | (with_reducible exact LeO.none _)
      | (with_reducible refine LeO.ite ?_ ?_)
      | (with_reducible refine LeO.bind ?_ (fun _ => ?_))
      | exact ih0 _ _ _ _ _
      | exact corollarylaw01_awake.mono _
      | exact corollaryref01_Right.mono _ _ _ _
      | exact corollaryref01_Row.mono _ _
      | exact corollaryref01_Show.mono _ _ _ _
      | exact value_Row.mono _ _
      | exact LeO.none _
      | refine LeO.ite ?_ ?_
      | refine LeO.bind ?_ (fun _ => ?_)
set_option maxHeartbeats 8000000 in
set_option maxRecDepth 100000 in
theorem corollarylaw01_ValueShows.calls (k : Nat) (a0_0 : Int) (a0_1 : Int) (a0_2 : ByteArray) (A1 : Option Addr) (c1 : Nat) (l1 : List (S23)) (r : Bool) (w : World) (hr1 : Kd.C k23 w A1 l1.length l1) (hc1 : l1.length ≤ c1) (h : corollarylaw01_ValueShows.f k a0_0 a0_1 a0_2 l1 = some r) (hG : Glob w) :
    Calls Tryd.prog 10 #[.agg #[.int .i64 a0_0, .int .i64 a0_1, .string a0_2], .slice A1 l1.length c1] w fun e w' => e = .returned (.bool r) ∧ Below w.heap.size w w' := by
  have hu23 := Tryd.underlying23
  have HG := Aside0.mk hG
  clear hG
  have HR1 := Aside0.mk hr1
  have HC1 := Aside0.mk hc1
  clear hr1 hc1
  have HB := Aside0.mk (Below.refl w.heap.size w)
  have H : (if (l1.length : Int) > 100 then ((corollarylaw01_awake.f k).bind fun t380 => (some t380)) else ((corollaryref01_Right.f k a0_0 a0_1 a0_2).bind fun t381 => (if t381 = true then ((corollaryref01_Show.f k a0_0 a0_1 a0_2).bind fun t382 => (corollarylaw01_ValueShows.j0 k l1 t382 a0_0 a0_1 a0_2)) else (corollarylaw01_ValueShows.j0 k l1 (⟨#[]⟩ : ByteArray) a0_0 a0_1 a0_2)))) = some r := h
  clear h
  by_cases c3 : (l1.length : Int) > 100
  · rw [if_pos c3] at H
    have c3b0 : decide (100 < (l1.length : Int)) = true := decide_eq_true c3
    have c3b1 : decide (100 < l1.length) = true := decide_eq_true (by omega)
    clear c3
    replace H := Option.bind_eq_some_iff.mp H
    obtain ⟨t380, A40, H⟩ := H
    replace H : (some t380) = some r := H
    have A4 := Aside0.mk A40
    clear A40
    obtain rfl := Option.some.inj H
    go_enter Tryd.func10, Tryd.ntmps10
    go_wp2_with (first | ((with_reducible refine gate_dst (N := 2) rfl ?_); refine box_event ?hg (N := 2) ?hd (cs := #[.int .i64 a0_0, .int .i64 a0_1, .string a0_2]) (t := 23) ?hr ?_; (case hd => rfl); (case hg => rfl); (case hr => first | (go_simp; done) | (go_simp; rfl)); intro gb379 hg w5 hbox hb; have n0_ := Aside0.mk (below_step q0_ hb); have n1_ := Aside0.mk (hbox); have n2_ := Aside0.mk ((q1_ : w.heap.size ≤ gb379)); have n3_ := Aside0.mk ((q1_ : w.heap.size ≤ gb379)); clear HB; have HB := n0_; have BK379 := n1_; have GW379 := n2_; have GE379 := n3_; clear n0_ n1_ n2_ n3_; clear hb hbox hg) | ((with_reducible refine gate_callee (f := 14) rfl ?_); refine goesL_ (some 9) rfl rfl Tryd.func14 (by kernel_rfl) rfl #[] rfl q2_ ?_; (with_reducible refine (corollarylaw01_awake.calls k  t380 _ A4.out q103_).mono ?_); rintro e w6 ⟨rfl, hb⟩; refine ⟨_, rfl, ?_⟩; have n0_ := Aside0.mk (blk_below (g := gb379) (o := .cells #[.int .i64 a0_0, .int .i64 a0_1, .string a0_2] 23 (0, 0)) q150_ hb); have n1_ := Aside0.mk (below_step q0_ hb); clear BK379; clear HB; have BK379 := n0_; have HB := n1_; clear n0_ n1_; (try clear hb); (try clear hb2); (try clear hk); (try clear hi)))
    go_ret
    exact ⟨q13_, q0_⟩
  · rw [if_neg c3] at H
    have c3b0 : decide (100 < (l1.length : Int)) = false := decide_eq_false c3
    have c3b1 : decide (100 < l1.length) = false := decide_eq_false (by omega)
    clear c3
    replace H := Option.bind_eq_some_iff.mp H
    obtain ⟨t381, A70, H⟩ := H
    replace H : (if t381 = true then ((corollaryref01_Show.f k a0_0 a0_1 a0_2).bind fun t382 => (corollarylaw01_ValueShows.j0 k l1 t382 a0_0 a0_1 a0_2)) else (corollarylaw01_ValueShows.j0 k l1 (⟨#[]⟩ : ByteArray) a0_0 a0_1 a0_2)) = some r := H
    have A7 := Aside0.mk A70
    clear A70
    have HC8 := Aside0.mk H
    clear H
    go_enter Tryd.func10, Tryd.ntmps10
    go_upto_if 11 with (first | ((with_reducible refine gate_dst (N := 2) rfl ?_); refine box_event ?hg (N := 2) ?hd (cs := #[.int .i64 a0_0, .int .i64 a0_1, .string a0_2]) (t := 23) ?hr ?_; (case hd => rfl); (case hg => rfl); (case hr => first | (go_simp; done) | (go_simp; rfl)); intro gb379 hg w9 hbox hb; have n0_ := Aside0.mk (below_step q0_ hb); have n1_ := Aside0.mk (hbox); have n2_ := Aside0.mk ((q1_ : w.heap.size ≤ gb379)); have n3_ := Aside0.mk ((q1_ : w.heap.size ≤ gb379)); clear HB; have HB := n0_; have BK379 := n1_; have GW379 := n2_; have GE379 := n3_; clear n0_ n1_ n2_ n3_; clear hb hbox hg; have hcz10_0 : w9.cell? ⟨gb379, 0, none⟩ = some (.int .i64 a0_0) := (blk_cell BK379.out 0).trans rfl; have hcz10_1 : w9.cell? ⟨gb379, 1, none⟩ = some (.int .i64 a0_1) := (blk_cell BK379.out 1).trans rfl; have hcz10_2 : w9.cell? ⟨gb379, 2, none⟩ = some (.string a0_2) := (blk_cell BK379.out 2).trans rfl; have hfz10_0 := blk_frozen BK379.out 0; have hfz10_1 := blk_frozen BK379.out 1; have hfz10_2 := blk_frozen BK379.out 2) | ((with_reducible refine gate_callee (f := 22) rfl ?_); refine goesL_ (some 11) rfl rfl Tryd.func22 (by kernel_rfl) rfl #[.agg #[.int .i64 a0_0, .int .i64 a0_1, .string a0_2]] rfl q2_ ?_; (with_reducible refine (corollaryref01_Right.calls k a0_0 a0_1 a0_2 t381 _ A7.out).mono ?_); rintro e w11 ⟨rfl, hb⟩; refine ⟨_, rfl, ?_⟩; have n0_ := Aside0.mk (blk_below (g := gb379) (o := .cells #[.int .i64 a0_0, .int .i64 a0_1, .string a0_2] 23 (0, 0)) q150_ hb); have n1_ := Aside0.mk (below_step q0_ hb); clear BK379; clear HB; have BK379 := n0_; have HB := n1_; clear n0_ n1_; (try clear hb); (try clear hb2); (try clear hk); (try clear hi)))
    (try simp only [Act.put, List.setIfInBounds_toArray, List.set_cons_zero, List.set_cons_succ])
    go_cut [5] (fun v5 wc => ∃ (kq : Nat) (x5_7 : ByteArray), v5 = .string x5_7 ∧ Aside0 (corollarylaw01_ValueShows.j0 kq l1 x5_7 a0_0 a0_1 a0_2 = some r) ∧ Aside0 (kq ≤ k) ∧ Aside0 (wc.heap[gb379]? = some (.cells #[.int .i64 a0_0, .int .i64 a0_1, .string a0_2] 23 (0, 0))) ∧ Aside0 (Below w.heap.size w wc))
    case first =>
      have H := HC8.out
      clear HC8
      by_cases c12 : t381 = true
      · subst c12
        replace H := ifT_ H
        replace H := Option.bind_eq_some_iff.mp H
        obtain ⟨t382, A130, H⟩ := H
        replace H : (corollarylaw01_ValueShows.j0 k l1 t382 a0_0 a0_1 a0_2) = some r := H
        have A13 := Aside0.mk A130
        clear A130
        have H' := Aside0.mk H
        clear H
        have hcz14_0 : w11.cell? ⟨gb379, 0, none⟩ = some (.int .i64 a0_0) := (blk_cell BK379.out 0).trans rfl
        have hcz14_1 : w11.cell? ⟨gb379, 1, none⟩ = some (.int .i64 a0_1) := (blk_cell BK379.out 1).trans rfl
        have hcz14_2 : w11.cell? ⟨gb379, 2, none⟩ = some (.string a0_2) := (blk_cell BK379.out 2).trans rfl
        have hfz14_0 := blk_frozen BK379.out 0
        have hfz14_1 := blk_frozen BK379.out 1
        have hfz14_2 := blk_frozen BK379.out 2
        go_wp2_with (first | ((with_reducible refine gate_callee (f := 24) rfl ?_); refine goesL_ (some 13) rfl rfl Tryd.func24 (by kernel_rfl) rfl #[.agg #[.int .i64 a0_0, .int .i64 a0_1, .string a0_2]] rfl q2_ ?_; (with_reducible refine (corollaryref01_Show.calls k a0_0 a0_1 a0_2 t382 _ A13.out).mono ?_); rintro e w15 ⟨rfl, hb⟩; refine ⟨_, rfl, ?_⟩; have n0_ := Aside0.mk (blk_below (g := gb379) (o := .cells #[.int .i64 a0_0, .int .i64 a0_1, .string a0_2] 23 (0, 0)) q150_ hb); have n1_ := Aside0.mk (below_step q0_ hb); clear BK379; clear HB; have BK379 := n0_; have HB := n1_; clear n0_ n1_; (try clear hb); (try clear hb2); (try clear hk); (try clear hi)))
        go_meet
        case rel => exact ⟨_, (t382), q20_, H', ⟨by first | omega | exact Nat.le_refl _⟩, ⟨q150_⟩, ⟨q0_⟩⟩
      · replace c12 := Bool.eq_false_iff.mpr c12
        subst c12
        replace H := ifF_ H
        have H' := Aside0.mk H
        clear H
        go_wp2
        go_meet
        case rel => exact ⟨_, ((⟨#[]⟩ : ByteArray)), q20_, H', ⟨by first | omega | exact Nat.le_refl _⟩, ⟨q150_⟩, ⟨q0_⟩⟩
    case rest =>
      clear HC8
      try clear c1
      try clear c2
      try clear p2
      try clear c3
      try clear c3b0
      try clear c3b1
      try clear c10
      try clear c12
      try clear c14
      try clear hcz10_0
      try clear hcz10_1
      try clear hcz10_2
      try clear hcz14_0
      try clear hcz14_1
      try clear hcz14_2
      try clear hfz10_0
      try clear hfz10_1
      try clear hfz10_2
      try clear hfz14_0
      try clear hfz14_1
      try clear hfz14_2
      obtain ⟨kq, x5_7, rfl, HA, HJ7, BK379, HB⟩ := hcut
      cases kq with
      | zero => exact absurd HA.out (by simp [corollarylaw01_ValueShows.j0])
      | succ kj7 =>
        have H := HA.out
        clear HA
        simp only [corollarylaw01_ValueShows.j0] at H
        replace H := Option.bind_eq_some_iff.mp H
        obtain ⟨t383, A160, H⟩ := H
        replace H : (if t383.toList = x5_7.toList then ((value_Row.f kj7 l1).bind fun t384 => ((corollaryref01_Row.f kj7 l1).bind fun t385 => (if t384.toList = t385.toList then ((corollarylaw01_awake.f kj7).bind fun t386 => (some t386)) else (some false)))) else (some false)) = some r := H
        have A16 := Aside0.mk A160
        clear A160
        by_cases c17 : t383.toList = x5_7.toList
        · rw [if_pos c17] at H
          have c17b0 : (t383.toList == x5_7.toList) = true := beq_iff_eq.mpr c17
          have c17b1 : (t383.toList != x5_7.toList) = false := bne_eq_false_iff_eq.mpr c17
          clear c17
          replace H := Option.bind_eq_some_iff.mp H
          obtain ⟨t384, A180, H⟩ := H
          replace H : ((corollaryref01_Row.f kj7 l1).bind fun t385 => (if t384.toList = t385.toList then ((corollarylaw01_awake.f kj7).bind fun t386 => (some t386)) else (some false))) = some r := H
          have A18 := Aside0.mk A180
          clear A180
          replace H := Option.bind_eq_some_iff.mp H
          obtain ⟨t385, A190, H⟩ := H
          replace H : (if t384.toList = t385.toList then ((corollarylaw01_awake.f kj7).bind fun t386 => (some t386)) else (some false)) = some r := H
          have A19 := Aside0.mk A190
          clear A190
          by_cases c20 : t384.toList = t385.toList
          · rw [if_pos c20] at H
            have c20b0 : (t384.toList == t385.toList) = true := beq_iff_eq.mpr c20
            have c20b1 : (t384.toList != t385.toList) = false := bne_eq_false_iff_eq.mpr c20
            clear c20
            replace H := Option.bind_eq_some_iff.mp H
            obtain ⟨t386, A210, H⟩ := H
            replace H : (some t386) = some r := H
            have A21 := Aside0.mk A210
            clear A210
            obtain rfl := Option.some.inj H
            have hcz22_0 : wc.cell? ⟨gb379, 0, none⟩ = some (.int .i64 a0_0) := (blk_cell BK379.out 0).trans rfl
            have hcz22_1 : wc.cell? ⟨gb379, 1, none⟩ = some (.int .i64 a0_1) := (blk_cell BK379.out 1).trans rfl
            have hcz22_2 : wc.cell? ⟨gb379, 2, none⟩ = some (.string a0_2) := (blk_cell BK379.out 2).trans rfl
            have hfz22_0 := blk_frozen BK379.out 0
            have hfz22_1 := blk_frozen BK379.out 1
            have hfz22_2 := blk_frozen BK379.out 2
            go_wp2_with (first | ((with_reducible refine gate_callee (f := 15) rfl ?_); refine goesL_ (some 15) rfl rfl Tryd.func15 (by kernel_rfl) rfl #[.agg #[.int .i64 a0_0, .int .i64 a0_1, .string a0_2]] rfl q2_ ?_; (with_reducible refine (value_Show.calls a0_0 a0_1 a0_2 t383 _ A16.out q103_).mono ?_); rintro e w23 ⟨rfl, hb⟩; refine ⟨_, rfl, ?_⟩; have n0_ := Aside0.mk (blk_below (g := gb379) (o := .cells #[.int .i64 a0_0, .int .i64 a0_1, .string a0_2] 23 (0, 0)) q150_ hb); have n1_ := Aside0.mk (below_step q0_ hb); clear BK379; clear HB; have BK379 := n0_; have HB := n1_; clear n0_ n1_; (try clear hb); (try clear hb2); (try clear hk); (try clear hi)) | (go_at_call 25; (with_reducible refine (value_Row.calls kj7 _ _ l1 t384 _ ?side1 ?side2 A18.out q103_).mono ?_); (case side1 => repeat (first | exact (Kd.C_below HR1.out HB.out) | (with_reducible refine Kd.C_alloc ?_ _) | (with_reducible refine Kd.C_drewN ?_ _) | (with_reducible refine Kd.C_drew ?_))); (case side2 => exact HC1.out); rintro e w24 ⟨rfl, hb⟩; have n0_ := Aside0.mk (blk_below (g := gb379) (o := .cells #[.int .i64 a0_0, .int .i64 a0_1, .string a0_2] 23 (0, 0)) q150_ hb); have n1_ := Aside0.mk (below_step q0_ hb); clear BK379; clear HB; have BK379 := n0_; have HB := n1_; clear n0_ n1_; (try clear hb); (try clear hb2); (try clear hk); (try clear hi)) | (go_at_call 26; (with_reducible refine (corollaryref01_Row.calls kj7 _ _ l1 t385 _ ?side1 ?side2 A19.out).mono ?_); (case side1 => repeat (first | exact (Kd.C_below HR1.out HB.out) | (with_reducible refine Kd.C_alloc ?_ _) | (with_reducible refine Kd.C_drewN ?_ _) | (with_reducible refine Kd.C_drew ?_))); (case side2 => exact HC1.out); rintro e w25 ⟨rfl, hb⟩; have n0_ := Aside0.mk (blk_below (g := gb379) (o := .cells #[.int .i64 a0_0, .int .i64 a0_1, .string a0_2] 23 (0, 0)) q150_ hb); have n1_ := Aside0.mk (below_step q0_ hb); clear BK379; clear HB; have BK379 := n0_; have HB := n1_; clear n0_ n1_; (try clear hb); (try clear hb2); (try clear hk); (try clear hi)) | (go_at_call 14; (with_reducible refine (corollarylaw01_awake.calls kj7  t386 _ A21.out q103_).mono ?_); rintro e w26 ⟨rfl, hb⟩; have n0_ := Aside0.mk (blk_below (g := gb379) (o := .cells #[.int .i64 a0_0, .int .i64 a0_1, .string a0_2] 23 (0, 0)) q150_ hb); have n1_ := Aside0.mk (below_step q0_ hb); clear BK379; clear HB; have BK379 := n0_; have HB := n1_; clear n0_ n1_; (try clear hb); (try clear hb2); (try clear hk); (try clear hi)))
            go_ret
            exact ⟨q13_, q0_⟩
          · rw [if_neg c20] at H
            have c20b0 : (t384.toList == t385.toList) = false := beq_eq_false_iff_ne.mpr c20
            have c20b1 : (t384.toList != t385.toList) = true := bne_iff_ne.mpr c20
            obtain rfl := Option.some.inj H
            have hcz27_0 : wc.cell? ⟨gb379, 0, none⟩ = some (.int .i64 a0_0) := (blk_cell BK379.out 0).trans rfl
            have hcz27_1 : wc.cell? ⟨gb379, 1, none⟩ = some (.int .i64 a0_1) := (blk_cell BK379.out 1).trans rfl
            have hcz27_2 : wc.cell? ⟨gb379, 2, none⟩ = some (.string a0_2) := (blk_cell BK379.out 2).trans rfl
            have hfz27_0 := blk_frozen BK379.out 0
            have hfz27_1 := blk_frozen BK379.out 1
            have hfz27_2 := blk_frozen BK379.out 2
            go_wp2_with (first | ((with_reducible refine gate_callee (f := 15) rfl ?_); refine goesL_ (some 15) rfl rfl Tryd.func15 (by kernel_rfl) rfl #[.agg #[.int .i64 a0_0, .int .i64 a0_1, .string a0_2]] rfl q2_ ?_; (with_reducible refine (value_Show.calls a0_0 a0_1 a0_2 t383 _ A16.out q103_).mono ?_); rintro e w28 ⟨rfl, hb⟩; refine ⟨_, rfl, ?_⟩; have n0_ := Aside0.mk (blk_below (g := gb379) (o := .cells #[.int .i64 a0_0, .int .i64 a0_1, .string a0_2] 23 (0, 0)) q150_ hb); have n1_ := Aside0.mk (below_step q0_ hb); clear BK379; clear HB; have BK379 := n0_; have HB := n1_; clear n0_ n1_; (try clear hb); (try clear hb2); (try clear hk); (try clear hi)) | (go_at_call 25; (with_reducible refine (value_Row.calls kj7 _ _ l1 t384 _ ?side1 ?side2 A18.out q103_).mono ?_); (case side1 => repeat (first | exact (Kd.C_below HR1.out HB.out) | (with_reducible refine Kd.C_alloc ?_ _) | (with_reducible refine Kd.C_drewN ?_ _) | (with_reducible refine Kd.C_drew ?_))); (case side2 => exact HC1.out); rintro e w29 ⟨rfl, hb⟩; have n0_ := Aside0.mk (blk_below (g := gb379) (o := .cells #[.int .i64 a0_0, .int .i64 a0_1, .string a0_2] 23 (0, 0)) q150_ hb); have n1_ := Aside0.mk (below_step q0_ hb); clear BK379; clear HB; have BK379 := n0_; have HB := n1_; clear n0_ n1_; (try clear hb); (try clear hb2); (try clear hk); (try clear hi)) | (go_at_call 26; (with_reducible refine (corollaryref01_Row.calls kj7 _ _ l1 t385 _ ?side1 ?side2 A19.out).mono ?_); (case side1 => repeat (first | exact (Kd.C_below HR1.out HB.out) | (with_reducible refine Kd.C_alloc ?_ _) | (with_reducible refine Kd.C_drewN ?_ _) | (with_reducible refine Kd.C_drew ?_))); (case side2 => exact HC1.out); rintro e w30 ⟨rfl, hb⟩; have n0_ := Aside0.mk (blk_below (g := gb379) (o := .cells #[.int .i64 a0_0, .int .i64 a0_1, .string a0_2] 23 (0, 0)) q150_ hb); have n1_ := Aside0.mk (below_step q0_ hb); clear BK379; clear HB; have BK379 := n0_; have HB := n1_; clear n0_ n1_; (try clear hb); (try clear hb2); (try clear hk); (try clear hi)))
            go_ret
            exact ⟨q13_, q0_⟩
        · rw [if_neg c17] at H
          have c17b0 : (t383.toList == x5_7.toList) = false := beq_eq_false_iff_ne.mpr c17
          have c17b1 : (t383.toList != x5_7.toList) = true := bne_iff_ne.mpr c17
          obtain rfl := Option.some.inj H
          have hcz31_0 : wc.cell? ⟨gb379, 0, none⟩ = some (.int .i64 a0_0) := (blk_cell BK379.out 0).trans rfl
          have hcz31_1 : wc.cell? ⟨gb379, 1, none⟩ = some (.int .i64 a0_1) := (blk_cell BK379.out 1).trans rfl
          have hcz31_2 : wc.cell? ⟨gb379, 2, none⟩ = some (.string a0_2) := (blk_cell BK379.out 2).trans rfl
          have hfz31_0 := blk_frozen BK379.out 0
          have hfz31_1 := blk_frozen BK379.out 1
          have hfz31_2 := blk_frozen BK379.out 2
          go_wp2_with (first | ((with_reducible refine gate_callee (f := 15) rfl ?_); refine goesL_ (some 15) rfl rfl Tryd.func15 (by kernel_rfl) rfl #[.agg #[.int .i64 a0_0, .int .i64 a0_1, .string a0_2]] rfl q2_ ?_; (with_reducible refine (value_Show.calls a0_0 a0_1 a0_2 t383 _ A16.out q103_).mono ?_); rintro e w32 ⟨rfl, hb⟩; refine ⟨_, rfl, ?_⟩; have n0_ := Aside0.mk (blk_below (g := gb379) (o := .cells #[.int .i64 a0_0, .int .i64 a0_1, .string a0_2] 23 (0, 0)) q150_ hb); have n1_ := Aside0.mk (below_step q0_ hb); clear BK379; clear HB; have BK379 := n0_; have HB := n1_; clear n0_ n1_; (try clear hb); (try clear hb2); (try clear hk); (try clear hi)))
          go_ret
          exact ⟨q13_, q0_⟩

end Go.Proofs.YtmdnnpahmoaicaaDoor.P
