-- Written by our own program (wip/xprint) over the seat's translation. Lean checks it.
import Derived.Test.YtmdnnpahmoaicaaDoorPx0
import Derived.Test.YtmdnnpahmoaicaaDoorPx56
import Derived.Test.YtmdnnpahmoaicaaDoorPx72
namespace Go.Proofs.YtmdnnpahmoaicaaDoor.P
open Go.RowKit Go.Proofs.YtmdnnpahmoaicaaDoorW.PrintWords Go.Proofs.YtmdnnpahmoaicaaDoorW.PrintLast Go.Proofs.YtmdnnpahmoaicaaDoorW.PrintMore
attribute [local go_sem] max2_int min2_mn max_two min_two max_three min_three max_four min_four   -- for this text's walks alone
set_option linter.unusedVariables false
set_option linter.unusedSimpArgs false


/-! ### corollaryref01_Row: function 26 -/
mutual
def corollaryref01_Row.l0 : Nat → List (S23) → ByteArray → Int → Option (ByteArray)
  | 0, _, _, _ => none
  | k + 1, x0, x3, x4 => if x4 < (x0.length : Int) then (if x4 > 0 then (if x3.size + 2 ≤ 9223372036854775807 then (corollaryref01_Row.j1 k x0 (x3 ++ (⟨#[44, 32]⟩ : ByteArray)) x4) else (none)) else (corollaryref01_Row.j1 k x0 x3 x4)) else (if x3.size + 1 ≤ 9223372036854775807 then (some (x3 ++ (⟨#[41]⟩ : ByteArray))) else (none))
def corollaryref01_Row.j1 : Nat → List (S23) → ByteArray → Int → Option (ByteArray)
  | 0, _, _, _ => none
  | k + 1, x0, x3, x4 => if 0 ≤ x4 then (if x4 < (x0.length : Int) then ((corollaryref01_Right.f k ((rd_T23 x0 x4).f0) ((rd_T23 x0 x4).f1) ((rd_T23 x0 x4).f2)).bind fun t376 => (if t376 = true then ((corollaryref01_Show.f k ((rd_T23 x0 x4).f0) ((rd_T23 x0 x4).f1) ((rd_T23 x0 x4).f2)).bind fun t378 => (if x3.size + t378.size ≤ 9223372036854775807 then (corollaryref01_Row.l0 k x0 (x3 ++ t378) (wrap64 (x4 + 1))) else (none))) else (corollaryref01_Row.l0 k x0 x3 (wrap64 (x4 + 1))))) else (none)) else (none)
end
def corollaryref01_Row.f (k : Nat) (l0 : List (S23)) : Option (ByteArray) := corollaryref01_Row.l0 k l0 (⟨#[40]⟩ : ByteArray) 0
theorem corollaryref01_Row.mono_l : ∀ k, (∀ y0 y1 y2, LeO (corollaryref01_Row.l0 k y0 y1 y2) (corollaryref01_Row.l0 (k + 1) y0 y1 y2)) ∧ (∀ y0 y1 y2, LeO (corollaryref01_Row.j1 k y0 y1 y2) (corollaryref01_Row.j1 (k + 1) y0 y1 y2))
  | 0 => ⟨fun _ _ _ r h => by simp [corollaryref01_Row.l0] at h, fun _ _ _ r h => by simp [corollaryref01_Row.j1] at h⟩
  | k + 1 => by
    obtain ⟨ih0, ih1⟩ := corollaryref01_Row.mono_l k
    refine ⟨?_, ?_⟩
    all_goals intros
    all_goals first
      | unfold corollaryref01_Row.l0
      | unfold corollaryref01_Row.j1
    all_goals repeat' first
      | (with_reducible exact ih0 _ _ _)
      | (with_reducible exact ih1 _ _ _)
      | (with_reducible exact corollaryref01_Right.mono _ _ _ _)
      | (with_reducible exact corollaryref01_Show.mono _ _ _ _)
      | (with_reducible exact LeO.refl _)
      | (with_reducible exact LeO.none _)
      | (with_reducible refine LeO.ite ?_ ?_)
      | (with_reducible refine LeO.bind ?_ (fun _ => ?_))
      | exact ih0 _ _ _
      | exact ih1 _ _ _
      | exact corollaryref01_Right.mono _ _ _ _
      | exact corollaryref01_Show.mono _ _ _ _
      | exact LeO.none _
      | refine LeO.ite ?_ ?_
      | refine LeO.bind ?_ (fun _ => ?_)
theorem corollaryref01_Row.mono : ∀ a0 k, LeO (corollaryref01_Row.f k a0) (corollaryref01_Row.f (k + 1) a0) := by
  intro a0 k
  obtain ⟨ih0, ih1⟩ := corollaryref01_Row.mono_l k
  unfold corollaryref01_Row.f
  repeat' first
      | (with_reducible exact ih0 _ _ _)
      | (with_reducible exact ih1 _ _ _)
      | (with_reducible exact corollaryref01_Right.mono _ _ _ _)
      | (with_reducible exact corollaryref01_Show.mono _ _ _ _)
      | (with_reducible exact LeO.refl _)
      | (with_reducible exact LeO.none _)
      | (with_reducible refine LeO.ite ?_ ?_)
      | (with_reducible refine LeO.bind ?_ (fun _ => ?_))
      | exact ih0 _ _ _
      | exact ih1 _ _ _
      | exact corollaryref01_Right.mono _ _ _ _
      | exact corollaryref01_Show.mono _ _ _ _
      | exact LeO.none _
      | refine LeO.ite ?_ ?_
      | refine LeO.bind ?_ (fun _ => ?_)
set_option maxHeartbeats 8000000 in
set_option maxRecDepth 100000 in
theorem corollaryref01_Row.calls (k : Nat) (A0 : Option Addr) (c0 : Nat) (l0 : List (S23)) (r : ByteArray) (w : World) (hr0 : Kd.C k23 w A0 l0.length l0) (hc0 : l0.length ≤ c0) (h : corollaryref01_Row.f k l0 = some r) :
    Calls Tryd.prog 26 #[.slice A0 l0.length c0] w fun e w' => e = .returned (.string r) ∧ Below w.heap.size w w' := by
  have hu23 := Tryd.underlying23
  have HR0 := Aside0.mk hr0
  have HC0 := Aside0.mk hc0
  clear hr0 hc0
  have HB := Aside0.mk (Below.refl w.heap.size w)
  have H : (corollaryref01_Row.l0 k l0 (⟨#[40]⟩ : ByteArray) 0) = some r := h
  clear h
  have H' := Aside0.mk H
  clear H
  go_enter Tryd.func26, Tryd.ntmps26
  go_wp2
  go_loopg [3, 4] k (fun kq v3 v4 w' => ∃ (x3_1 : ByteArray) (x4_1 : Int), v3 = .string x3_1 ∧ v4 = .int .i64 x4_1 ∧ Aside0 (corollaryref01_Row.l0 kq l0 x3_1 x4_1 = some r) ∧ Aside0 (kq ≤ k) ∧ Aside0 (Below w.heap.size w w'))
  case atStart => exact ⟨((⟨#[40]⟩ : ByteArray)), (0), q20_, q20_, H', ⟨Nat.le_refl _⟩, ⟨q0_⟩⟩
  case round =>
    clear H'
    obtain ⟨x3_1, x4_1, rfl, rfl, HA, HK1, HB⟩ := hrel
    cases gk with
    | zero => exact absurd HA.out (by simp [corollaryref01_Row.l0])
    | succ k1 =>
      have H := HA.out
      clear HA
      simp only [corollaryref01_Row.l0] at H
      by_cases c2 : x4_1 < (l0.length : Int)
      · rw [if_pos c2] at H
        have c2b0 : decide (x4_1 < (l0.length : Int)) = true := decide_eq_true c2
        clear c2
        have HC3 := Aside0.mk H
        clear H
        go_upto_if 12 with (fail)
        go_cut [3] (fun v3 wc => ∃ (kq : Nat) (x3_2 : ByteArray), v3 = .string x3_2 ∧ Aside0 (corollaryref01_Row.j1 kq l0 x3_2 x4_1 = some r) ∧ Aside0 (kq ≤ k1) ∧ Aside0 (Below w.heap.size w wc))
        case first =>
          have H := HC3.out
          clear HC3
          by_cases c4 : x4_1 > 0
          · rw [if_pos c4] at H
            have c4b0 : decide (0 < x4_1) = true := decide_eq_true c4
            clear c4
            (first | rw [c4b0] | (simp only [i64_w, i32_w]; rw [c4b0]) | skip)
            by_cases c5 : x3_1.size + 2 ≤ 9223372036854775807
            · rw [if_pos c5] at H
              have c5b0 := eq_true c5
              have c5b1 : decide (x3_1.size + 2 ≤ 9223372036854775807) = true := decide_eq_true c5
              try have c5b2 : (9223372036854775807 < x3_1.size + 2) = False := eq_false (Nat.not_lt.2 c5)
              have H' := Aside0.mk H
              clear H
              go_wp2
              go_meet
              case rel => exact ⟨_, (x3_1 ++ (⟨#[44, 32]⟩ : ByteArray)), q20_, H', ⟨q181_⟩, ⟨q0_⟩⟩
            · rw [if_neg c5] at H
              exact absurd H (by simp)
          · rw [if_neg c4] at H
            have c4b0 : decide (0 < x4_1) = false := decide_eq_false c4
            clear c4
            (first | rw [c4b0] | (simp only [i64_w, i32_w]; rw [c4b0]) | skip)
            have H' := Aside0.mk H
            clear H
            go_wp2
            go_meet
            case rel => exact ⟨_, (x3_1), q20_, H', ⟨q181_⟩, ⟨q0_⟩⟩
        case rest =>
          clear HC3
          try clear c2
          try clear c2b0
          try clear p2
          try clear c4
          try clear c4b0
          try clear c5
          try clear c5b0
          try clear c5b1
          try clear c5b2
          obtain ⟨kq, x3_2, rfl, HA, HJ2, HB⟩ := hcut
          cases kq with
          | zero => exact absurd HA.out (by simp [corollaryref01_Row.j1])
          | succ kj2 =>
            have H := HA.out
            clear HA
            simp only [corollaryref01_Row.j1] at H
            by_cases c6 : 0 ≤ x4_1
            · rw [if_pos c6] at H
              have c6b0 : decide (0 ≤ x4_1) = true := decide_eq_true c6
              clear c6
              by_cases c7 : x4_1 < (l0.length : Int)
              · rw [if_pos c7] at H
                have c7b0 : decide (x4_1 < (l0.length : Int)) = true := decide_eq_true c7
                clear c7
                replace H := Option.bind_eq_some_iff.mp H
                obtain ⟨t376, A80, H⟩ := H
                replace H : (if t376 = true then ((corollaryref01_Show.f kj2 ((rd_T23 l0 x4_1).f0) ((rd_T23 l0 x4_1).f1) ((rd_T23 l0 x4_1).f2)).bind fun t378 => (if x3_2.size + t378.size ≤ 9223372036854775807 then (corollaryref01_Row.l0 kj2 l0 (x3_2 ++ t378) (wrap64 (x4_1 + 1))) else (none))) else (corollaryref01_Row.l0 kj2 l0 x3_2 (wrap64 (x4_1 + 1)))) = some r := H
                have A8 := Aside0.mk A80
                clear A80
                by_cases c9 : t376 = true
                · subst c9
                  replace H := ifT_ H
                  replace H := Option.bind_eq_some_iff.mp H
                  obtain ⟨t378, A100, H⟩ := H
                  replace H : (if x3_2.size + t378.size ≤ 9223372036854775807 then (corollaryref01_Row.l0 kj2 l0 (x3_2 ++ t378) (wrap64 (x4_1 + 1))) else (none)) = some r := H
                  have A10 := Aside0.mk A100
                  clear A100
                  by_cases c11 : x3_2.size + t378.size ≤ 9223372036854775807
                  · rw [if_pos c11] at H
                    have c11b0 := eq_true c11
                    have c11b1 : decide (x3_2.size + t378.size ≤ 9223372036854775807) = true := decide_eq_true c11
                    try have c11b2 : (9223372036854775807 < x3_2.size + t378.size) = False := eq_false (Nat.not_lt.2 c11)
                    have H' := Aside0.mk H
                    clear H
                    have p375 : 0 ≤ (x4_1 : Int) := of_decide_eq_true q47_
                    have q375 : x4_1 < (l0.length : Int) := of_decide_eq_true q47_
                    obtain ⟨ad375, e375, hx375_0, hx375_1, hx375_2⟩ := at_T23 HR0.out x4_1 p375 q375
                    cases e375
                    replace hx375_0 := (HB.out.cell (World.block_lt_of_cell? w _ hx375_0)).trans hx375_0
                    replace hx375_1 := (HB.out.cell (World.block_lt_of_cell? w _ hx375_1)).trans hx375_1
                    replace hx375_2 := (HB.out.cell (World.block_lt_of_cell? w _ hx375_2)).trans hx375_2
                    replace p375 := eq_true p375
                    replace q375 := eq_true q375
                    go_wp2_with (first | ((with_reducible refine gate_callee (f := 22) rfl ?_); refine goesL_ (some 19) rfl rfl Tryd.func22 (by kernel_rfl) rfl #[.agg #[.int .i64 ((rd_T23 l0 x4_1).f0), .int .i64 ((rd_T23 l0 x4_1).f1), .string ((rd_T23 l0 x4_1).f2)]] rfl q2_ ?_; (with_reducible refine (corollaryref01_Right.calls kj2 ((rd_T23 l0 x4_1).f0) ((rd_T23 l0 x4_1).f1) ((rd_T23 l0 x4_1).f2) true _ A8.out).mono ?_); rintro e w12 ⟨rfl, hb⟩; refine ⟨_, rfl, ?_⟩; have n0_ := Aside0.mk (below_step q0_ hb); clear HB; have HB := n0_; clear n0_; (try clear hb); (try clear hb2); (try clear hk); (try clear hi); have p377 : 0 ≤ (x4_1 : Int) := of_decide_eq_true q47_; have q377 : x4_1 < (l0.length : Int) := of_decide_eq_true q47_; obtain ⟨ad377, e377, hx377_0, hx377_1, hx377_2⟩ := at_T23 HR0.out x4_1 p377 q377; obtain rfl : ad375 = ad377 := (by injection e377); replace hx377_0 := (HB.out.cell (World.block_lt_of_cell? w _ hx377_0)).trans hx377_0; replace hx377_1 := (HB.out.cell (World.block_lt_of_cell? w _ hx377_1)).trans hx377_1; replace hx377_2 := (HB.out.cell (World.block_lt_of_cell? w _ hx377_2)).trans hx377_2; replace p377 := eq_true p377; replace q377 := eq_true q377) | ((with_reducible refine gate_callee (f := 24) rfl ?_); refine goesL_ (some 25) rfl rfl Tryd.func24 (by kernel_rfl) rfl #[.agg #[.int .i64 ((rd_T23 l0 x4_1).f0), .int .i64 ((rd_T23 l0 x4_1).f1), .string ((rd_T23 l0 x4_1).f2)]] rfl q2_ ?_; (with_reducible refine (corollaryref01_Show.calls kj2 ((rd_T23 l0 x4_1).f0) ((rd_T23 l0 x4_1).f1) ((rd_T23 l0 x4_1).f2) t378 _ A10.out).mono ?_); rintro e w13 ⟨rfl, hb⟩; refine ⟨_, rfl, ?_⟩; have n0_ := Aside0.mk (below_step q0_ hb); clear HB; have HB := n0_; clear n0_; (try clear hb); (try clear hb2); (try clear hk); (try clear hi)))
                    go_roundg kj2
                    case measure => have := HK1.out; have := HJ2.out; omega
                    case rel => exact ⟨(x3_2 ++ t378), (wrap64 (x4_1 + 1)), q20_, q20_, H', ⟨by have := HK1.out; have := HJ2.out; omega⟩, ⟨q0_⟩⟩
                  · rw [if_neg c11] at H
                    exact absurd H (by simp)
                · replace c9 := Bool.eq_false_iff.mpr c9
                  subst c9
                  replace H := ifF_ H
                  have H' := Aside0.mk H
                  clear H
                  have p375 : 0 ≤ (x4_1 : Int) := of_decide_eq_true q47_
                  have q375 : x4_1 < (l0.length : Int) := of_decide_eq_true q47_
                  obtain ⟨ad375, e375, hx375_0, hx375_1, hx375_2⟩ := at_T23 HR0.out x4_1 p375 q375
                  cases e375
                  replace hx375_0 := (HB.out.cell (World.block_lt_of_cell? w _ hx375_0)).trans hx375_0
                  replace hx375_1 := (HB.out.cell (World.block_lt_of_cell? w _ hx375_1)).trans hx375_1
                  replace hx375_2 := (HB.out.cell (World.block_lt_of_cell? w _ hx375_2)).trans hx375_2
                  replace p375 := eq_true p375
                  replace q375 := eq_true q375
                  go_wp2_with (first | ((with_reducible refine gate_callee (f := 22) rfl ?_); refine goesL_ (some 19) rfl rfl Tryd.func22 (by kernel_rfl) rfl #[.agg #[.int .i64 ((rd_T23 l0 x4_1).f0), .int .i64 ((rd_T23 l0 x4_1).f1), .string ((rd_T23 l0 x4_1).f2)]] rfl q2_ ?_; (with_reducible refine (corollaryref01_Right.calls kj2 ((rd_T23 l0 x4_1).f0) ((rd_T23 l0 x4_1).f1) ((rd_T23 l0 x4_1).f2) false _ A8.out).mono ?_); rintro e w14 ⟨rfl, hb⟩; refine ⟨_, rfl, ?_⟩; have n0_ := Aside0.mk (below_step q0_ hb); clear HB; have HB := n0_; clear n0_; (try clear hb); (try clear hb2); (try clear hk); (try clear hi)))
                  go_roundg kj2
                  case measure => have := HK1.out; have := HJ2.out; omega
                  case rel => exact ⟨(x3_2), (wrap64 (x4_1 + 1)), q20_, q20_, H', ⟨by have := HK1.out; have := HJ2.out; omega⟩, ⟨q0_⟩⟩
              · rw [if_neg c7] at H
                exact absurd H (by simp)
            · rw [if_neg c6] at H
              exact absurd H (by simp)
      · rw [if_neg c2] at H
        have c2b0 : decide (x4_1 < (l0.length : Int)) = false := decide_eq_false c2
        clear c2
        by_cases c15 : x3_1.size + 1 ≤ 9223372036854775807
        · rw [if_pos c15] at H
          have c15b0 := eq_true c15
          have c15b1 : decide (x3_1.size + 1 ≤ 9223372036854775807) = true := decide_eq_true c15
          try have c15b2 : (9223372036854775807 < x3_1.size + 1) = False := eq_false (Nat.not_lt.2 c15)
          obtain rfl := Option.some.inj H
          go_wp2
          go_ret
          exact ⟨q13_, q0_⟩
        · rw [if_neg c15] at H
          exact absurd H (by simp)

end Go.Proofs.YtmdnnpahmoaicaaDoor.P
