-- Written by our own program (wip/xprint) over the seat's translation. Lean checks it.
import Derived.Test.YtjcjndpfihchnaaDoorPx0
import Derived.Test.YtjcjndpfihchnaaDoorPx36
import Derived.Test.YtjcjndpfihchnaaDoorPx38
namespace Go.Proofs.YtjcjndpfihchnaaDoor.P
open Go.RowKit Go.Proofs.YtjcjndpfihchnaaDoorW.PrintWords Go.Proofs.YtjcjndpfihchnaaDoorW.PrintLast Go.Proofs.YtjcjndpfihchnaaDoorW.PrintMore
attribute [local go_sem] max2_int min2_int max_two min_two max_three min_three max_four min_four   -- for this text's walks alone
set_option linter.unusedVariables false
set_option linter.unusedSimpArgs false


/-! ### corollarylaw11_LexShort: function 5 -/
mutual
def corollarylaw11_LexShort.j0 : Nat → Int → Bool → Option (Bool)
  | 0, _, _ => none
  | k + 1, x1, x33 => if x33 = true then (some false) else (corollarylaw11_LexShort.l0 k x1 (⟨#[]⟩ : ByteArray) 0)
def corollarylaw11_LexShort.l0 : Nat → Int → ByteArray → Int → Option (Bool)
  | 0, _, _, _ => none
  | k + 1, x1, x7, x8 => if x8 < (wrap64 (x1)) then (if x7.size + 1 ≤ 9223372036854775807 then (corollarylaw11_LexShort.l0 k x1 (x7 ++ (⟨#[32]⟩ : ByteArray)) (wrap64 (x8 + 1))) else (none)) else ((lex_Scan.f k x7).bind fun bt232 => (if (bt232.1.length : Int) = 0 then (if bt232.2 = 0 then ((corollarylaw11_awake.f k).bind fun t236 => (some t236)) else (some false)) else (some false)))
end
def corollarylaw11_LexShort.f (k : Nat) (a0 : ByteArray) (a1 : Int) : Option (Bool) := if (a0.size : Int) > 512 then ((corollarylaw11_awake.f k).bind fun t227 => (some t227)) else ((lex_Scan.f k a0).bind fun bt228 => (if (bt228.1.length : Int) > (a0.size : Int) then (corollarylaw11_LexShort.j0 k a1 true) else (if bt228.2 = 0 then (corollarylaw11_LexShort.j0 k a1 false) else (corollarylaw11_LexShort.j0 k a1 (decide ((bt228.1.length : Int) > 0))))))
theorem corollarylaw11_LexShort.mono_l : ∀ k, (∀ y0 y1, LeO (corollarylaw11_LexShort.j0 k y0 y1) (corollarylaw11_LexShort.j0 (k + 1) y0 y1)) ∧ (∀ y0 y1 y2, LeO (corollarylaw11_LexShort.l0 k y0 y1 y2) (corollarylaw11_LexShort.l0 (k + 1) y0 y1 y2))
  | 0 => ⟨fun _ _ r h => by simp [corollarylaw11_LexShort.j0] at h, fun _ _ _ r h => by simp [corollarylaw11_LexShort.l0] at h⟩
  | k + 1 => by
    obtain ⟨ih0, ih1⟩ := corollarylaw11_LexShort.mono_l k
    refine ⟨?_, ?_⟩
    all_goals intros
    all_goals first
      | unfold corollarylaw11_LexShort.j0
      | unfold corollarylaw11_LexShort.l0
    all_goals repeat' first
      | (with_reducible exact ih0 _ _)
      | (with_reducible exact ih1 _ _ _)
      | (with_reducible exact corollarylaw11_awake.mono _)
      | (with_reducible exact lex_Scan.mono _ _)
      | (with_reducible exact LeO.refl _)
      | (with_reducible exact LeO.none _)
      | (with_reducible refine LeO.ite ?_ ?_)
      | (with_reducible refine LeO.bind ?_ (fun _ => ?_))
      | exact ih0 _ _
      | exact ih1 _ _ _
      | exact corollarylaw11_awake.mono _
      | exact lex_Scan.mono _ _
      | exact LeO.none _
      | refine LeO.ite ?_ ?_
      | refine LeO.bind ?_ (fun _ => ?_)
theorem corollarylaw11_LexShort.mono : ∀ a0 a1 k, LeO (corollarylaw11_LexShort.f k a0 a1) (corollarylaw11_LexShort.f (k + 1) a0 a1) := by
  intro a0 a1 k
  obtain ⟨ih0, ih1⟩ := corollarylaw11_LexShort.mono_l k
  unfold corollarylaw11_LexShort.f
  repeat' first
      | (with_reducible exact ih0 _ _)
      | (with_reducible exact ih1 _ _ _)
      | (with_reducible exact corollarylaw11_awake.mono _)
      | (with_reducible exact lex_Scan.mono _ _)
      | (with_reducible exact LeO.refl _)
      | (with_reducible exact LeO.none _)
      | (with_reducible refine LeO.ite ?_ ?_)
      | (with_reducible refine LeO.bind ?_ (fun _ => ?_))
      | exact ih0 _ _
      | exact ih1 _ _ _
      | exact corollarylaw11_awake.mono _
      | exact lex_Scan.mono _ _
      | exact LeO.none _
      | refine LeO.ite ?_ ?_
      | refine LeO.bind ?_ (fun _ => ?_)
set_option maxHeartbeats 8000000 in
set_option maxRecDepth 100000 in
theorem corollarylaw11_LexShort.calls (k : Nat) (a0 : ByteArray) (a1 : Int) (r : Bool) (w : World) (h : corollarylaw11_LexShort.f k a0 a1 = some r) (hG : Glob w) :
    Calls Tryd.prog 5 #[.string a0, .int .u8 a1] w fun e w' => e = .returned (.bool r) ∧ Below w.heap.size w w' := by
  have HG := Aside0.mk hG
  clear hG
  have HB := Aside0.mk (Below.refl w.heap.size w)
  have H : (if (a0.size : Int) > 512 then ((corollarylaw11_awake.f k).bind fun t227 => (some t227)) else ((lex_Scan.f k a0).bind fun bt228 => (if (bt228.1.length : Int) > (a0.size : Int) then (corollarylaw11_LexShort.j0 k a1 true) else (if bt228.2 = 0 then (corollarylaw11_LexShort.j0 k a1 false) else (corollarylaw11_LexShort.j0 k a1 (decide ((bt228.1.length : Int) > 0))))))) = some r := h
  clear h
  by_cases c3 : (a0.size : Int) > 512
  · rw [if_pos c3] at H
    have c3b0 : decide (512 < (a0.size : Int)) = true := decide_eq_true c3
    have c3b1 : decide (512 < a0.size) = true := decide_eq_true (by omega)
    clear c3
    replace H := Option.bind_eq_some_iff.mp H
    obtain ⟨t227, A40, H⟩ := H
    replace H : (some t227) = some r := H
    have A4 := Aside0.mk A40
    clear A40
    obtain rfl := Option.some.inj H
    go_enter Tryd.func5, Tryd.ntmps5
    go_wp2_with (first | ((with_reducible refine gate_callee (f := 7) rfl ?_); refine goesL_ (some 14) rfl rfl Tryd.func7 (by kernel_rfl) rfl #[] rfl q2_ ?_; (with_reducible refine (corollarylaw11_awake.calls k  t227 _ A4.out q5_).mono ?_); rintro e w5 ⟨rfl, hb⟩; refine ⟨_, rfl, ?_⟩; have n0_ := Aside0.mk (below_step q0_ hb); clear HB; have HB := n0_; clear n0_; (try clear hb); (try clear hb2); (try clear hk); (try clear hi)))
    go_ret
    exact ⟨q4_, q0_⟩
  · rw [if_neg c3] at H
    have c3b0 : decide (512 < (a0.size : Int)) = false := decide_eq_false c3
    have c3b1 : decide (512 < a0.size) = false := decide_eq_false (by omega)
    clear c3
    replace H := Option.bind_eq_some_iff.mp H
    obtain ⟨⟨t228, t229⟩, A60, H⟩ := H
    replace H : (if (t228.length : Int) > (a0.size : Int) then (corollarylaw11_LexShort.j0 k a1 true) else (if t229 = 0 then (corollarylaw11_LexShort.j0 k a1 false) else (corollarylaw11_LexShort.j0 k a1 (decide ((t228.length : Int) > 0))))) = some r := H
    have A6 := Aside0.mk A60
    clear A60
    have HC7 := Aside0.mk H
    clear H
    go_enter Tryd.func5, Tryd.ntmps5
    go_upto_region 4 with (first | ((with_reducible refine gate_callee (f := 8) rfl ?_); refine goesL_ (some 17) rfl rfl Tryd.func8 (by kernel_rfl) rfl #[.string a0] rfl q2_ ?_; (with_reducible refine (lex_Scan.calls k a0 t228 t229 _ A6.out q5_).mono ?_); rintro e w8 ⟨v230, rfl, ho0, hb⟩; refine ⟨_, rfl, ?_⟩; have n0_ := Aside0.mk (Kd.R_lower ho0 (below_size q0_)); have n1_ := Aside0.mk (below_step q0_ hb); clear HB; have HO231 := n0_; have HB := n1_; clear n0_ n1_; (try clear hb); (try clear hb2); (try clear hk); (try clear hi); (try clear ho0)))
    (try simp only [Act.put, List.setIfInBounds_toArray, List.set_cons_zero, List.set_cons_succ])
    go_cut [33] (fun v33 wc => ∃ (kq : Nat) (x33_6 : Bool), v33 = .bool x33_6 ∧ Aside0 (corollarylaw11_LexShort.j0 kq a1 x33_6 = some r) ∧ Aside0 (kq ≤ k) ∧ Aside0 (Below w.heap.size w wc))
    case first =>
      have H := HC7.out
      clear HC7
      by_cases c9 : (t228.length : Int) > (a0.size : Int)
      · rw [if_pos c9] at H
        have c9b0 : decide ((a0.size : Int) < (t228.length : Int)) = true := decide_eq_true c9
        have c9b1 : decide (a0.size < t228.length) = true := decide_eq_true (Int.ofNat_lt.mp c9)
        clear c9
        (first | rw [c9b0] | (simp only [i64_w, i32_w]; rw [c9b0]) | skip)
        have H' := Aside0.mk H
        clear H
        obtain ⟨Ao10, co10, eo10⟩ := Kd.R_slice HO231.out
        subst eo10
        go_wp2
        go_meet
        case rel => exact ⟨_, (true), q3_, H', ⟨by first | omega | exact Nat.le_refl _⟩, ⟨q0_⟩⟩
      · rw [if_neg c9] at H
        have c9b0 : decide ((a0.size : Int) < (t228.length : Int)) = false := decide_eq_false c9
        have c9b1 : decide (a0.size < t228.length) = false := decide_eq_false (fun h => c9 (Int.ofNat_lt.mpr h))
        clear c9
        (first | rw [c9b0] | (simp only [i64_w, i32_w]; rw [c9b0]) | skip)
        by_cases c11 : t229 = 0
        · rw [if_pos c11] at H
          have c11b0 : (t229 == 0) = true := beq_iff_eq.mpr c11
          have c11b1 : (t229 != 0) = false := bne_eq_false_iff_eq.mpr c11
          clear c11
          have H' := Aside0.mk H
          clear H
          obtain ⟨Ao12, co12, eo12⟩ := Kd.R_slice HO231.out
          subst eo12
          go_wp2
          go_meet
          case rel => exact ⟨_, (false), q3_, H', ⟨by first | omega | exact Nat.le_refl _⟩, ⟨q0_⟩⟩
        · rw [if_neg c11] at H
          have c11b0 : (t229 == 0) = false := beq_eq_false_iff_ne.mpr c11
          have c11b1 : (t229 != 0) = true := bne_iff_ne.mpr c11
          have H' := Aside0.mk H
          clear H
          obtain ⟨Ao13, co13, eo13⟩ := Kd.R_slice HO231.out
          subst eo13
          go_wp2
          go_meet
          case rel => exact ⟨_, (decide ((t228.length : Int) > 0)), q3_, H', ⟨by first | omega | exact Nat.le_refl _⟩, ⟨q0_⟩⟩
    case rest =>
      clear HC7
      try clear c1
      try clear p2
      try clear c3
      try clear c3b0
      try clear c3b1
      try clear c5
      try clear c7
      try clear c8
      try clear c9
      try clear c9b0
      try clear c9b1
      try clear c11
      try clear c11b0
      try clear c11b1
      obtain ⟨kq, x33_6, rfl, HA, HJ6, HB⟩ := hcut
      cases kq with
      | zero => exact absurd HA.out (by simp [corollarylaw11_LexShort.j0])
      | succ kj6 =>
        have H := HA.out
        clear HA
        simp only [corollarylaw11_LexShort.j0] at H
        by_cases c14 : x33_6 = true
        · subst c14
          replace H := ifT_ H
          obtain rfl := Option.some.inj H
          go_wp2
          go_ret
          exact ⟨q4_, q0_⟩
        · replace c14 := Bool.eq_false_iff.mpr c14
          subst c14
          replace H := ifF_ H
          have H' := Aside0.mk H
          clear H
          go_wp2
          go_loopg [7, 8] kj6 (fun kq v7 v8 w' => ∃ (x7_2 : ByteArray) (x8_2 : Int), v7 = .string x7_2 ∧ v8 = .int .i64 x8_2 ∧ Aside0 (corollarylaw11_LexShort.l0 kq a1 x7_2 x8_2 = some r) ∧ Aside0 (kq ≤ kj6) ∧ Aside0 (Below w.heap.size w w'))
          case atStart => exact ⟨((⟨#[]⟩ : ByteArray)), (0), q3_, q3_, H', ⟨Nat.le_refl _⟩, ⟨q0_⟩⟩
          case round =>
            clear H'
            try clear c1
            try clear p2
            try clear c3
            try clear c3b0
            try clear c3b1
            try clear c5
            try clear c7
            try clear c8
            try clear c9
            try clear c9b0
            try clear c9b1
            try clear c11
            try clear c11b0
            try clear c11b1
            try clear c14
            try clear p2
            obtain ⟨x7_2, x8_2, rfl, rfl, HA, HK2, HB⟩ := hrel
            cases gk with
            | zero => exact absurd HA.out (by simp [corollarylaw11_LexShort.l0])
            | succ k2 =>
              have H := HA.out
              clear HA
              simp only [corollarylaw11_LexShort.l0] at H
              by_cases c15 : x8_2 < (wrap64 (a1))
              · rw [if_pos c15] at H
                have c15b0 : decide (x8_2 < (wrap64 (a1))) = true := decide_eq_true c15
                clear c15
                by_cases c16 : x7_2.size + 1 ≤ 9223372036854775807
                · rw [if_pos c16] at H
                  have c16b0 := eq_true c16
                  have c16b1 : decide (x7_2.size + 1 ≤ 9223372036854775807) = true := decide_eq_true c16
                  try have c16b2 : (9223372036854775807 < x7_2.size + 1) = False := eq_false (Nat.not_lt.2 c16)
                  have H' := Aside0.mk H
                  clear H
                  go_wp2
                  go_roundg k2
                  case measure => have := HJ6.out; have := HK2.out; omega
                  case rel => exact ⟨(x7_2 ++ (⟨#[32]⟩ : ByteArray)), (wrap64 (x8_2 + 1)), q3_, q3_, H', ⟨by have := HJ6.out; have := HK2.out; omega⟩, ⟨q0_⟩⟩
                · rw [if_neg c16] at H
                  exact absurd H (by simp)
              · rw [if_neg c15] at H
                have c15b0 : decide (x8_2 < (wrap64 (a1))) = false := decide_eq_false c15
                clear c15
                replace H := Option.bind_eq_some_iff.mp H
                obtain ⟨⟨t232, t233⟩, A170, H⟩ := H
                replace H : (if (t232.length : Int) = 0 then (if t233 = 0 then ((corollarylaw11_awake.f k2).bind fun t236 => (some t236)) else (some false)) else (some false)) = some r := H
                have A17 := Aside0.mk A170
                clear A170
                by_cases c18 : (t232.length : Int) = 0
                · rw [if_pos c18] at H
                  have c18b0 : ((t232.length : Int) == 0) = true := beq_iff_eq.mpr c18
                  have c18b1 : ((t232.length : Int) != 0) = false := bne_eq_false_iff_eq.mpr c18
                  clear c18
                  by_cases c19 : t233 = 0
                  · rw [if_pos c19] at H
                    have c19b0 : (t233 == 0) = true := beq_iff_eq.mpr c19
                    have c19b1 : (t233 != 0) = false := bne_eq_false_iff_eq.mpr c19
                    clear c19
                    replace H := Option.bind_eq_some_iff.mp H
                    obtain ⟨t236, A200, H⟩ := H
                    replace H : (some t236) = some r := H
                    have A20 := Aside0.mk A200
                    clear A200
                    obtain rfl := Option.some.inj H
                    go_wp2_with (first | ((with_reducible refine gate_callee (f := 8) rfl ?_); refine goesL_ (some 44) rfl rfl Tryd.func8 (by kernel_rfl) rfl #[.string x7_2] rfl q2_ ?_; (with_reducible refine (lex_Scan.calls k2 x7_2 t232 t233 _ A17.out q5_).mono ?_); rintro e w21 ⟨v234, rfl, ho0, hb⟩; refine ⟨_, rfl, ?_⟩; have n0_ := Aside0.mk (Kd.R_lower ho0 (below_size q0_)); have n1_ := Aside0.mk (below_step q0_ hb); clear HB; have HO235 := n0_; have HB := n1_; clear n0_ n1_; (try clear hb); (try clear hb2); (try clear hk); (try clear hi); (try clear ho0); obtain ⟨Ao22, co22, eo22⟩ := Kd.R_slice HO235.out; subst eo22) | (go_at_call 7; (with_reducible refine (corollarylaw11_awake.calls k2  t236 _ A20.out q5_).mono ?_); rintro e w23 ⟨rfl, hb⟩; have n0_ := Aside0.mk (Kd.R_below (by (with_reducible repeat (first | apply Kd.R_alloc | apply Kd.R_drewN | apply Kd.R_drew)); exact HO235.out) hb); have n1_ := Aside0.mk (below_step q0_ hb); clear HO235; clear HB; have HO235 := n0_; have HB := n1_; clear n0_ n1_; (try clear hb); (try clear hb2); (try clear hk); (try clear hi)))
                    go_ret
                    exact ⟨q4_, q0_⟩
                  · rw [if_neg c19] at H
                    have c19b0 : (t233 == 0) = false := beq_eq_false_iff_ne.mpr c19
                    have c19b1 : (t233 != 0) = true := bne_iff_ne.mpr c19
                    obtain rfl := Option.some.inj H
                    go_wp2_with (first | ((with_reducible refine gate_callee (f := 8) rfl ?_); refine goesL_ (some 44) rfl rfl Tryd.func8 (by kernel_rfl) rfl #[.string x7_2] rfl q2_ ?_; (with_reducible refine (lex_Scan.calls k2 x7_2 t232 t233 _ A17.out q5_).mono ?_); rintro e w24 ⟨v234, rfl, ho0, hb⟩; refine ⟨_, rfl, ?_⟩; have n0_ := Aside0.mk (Kd.R_lower ho0 (below_size q0_)); have n1_ := Aside0.mk (below_step q0_ hb); clear HB; have HO235 := n0_; have HB := n1_; clear n0_ n1_; (try clear hb); (try clear hb2); (try clear hk); (try clear hi); (try clear ho0); obtain ⟨Ao25, co25, eo25⟩ := Kd.R_slice HO235.out; subst eo25))
                    go_ret
                    exact ⟨q4_, q0_⟩
                · rw [if_neg c18] at H
                  have c18b0 : ((t232.length : Int) == 0) = false := beq_eq_false_iff_ne.mpr c18
                  have c18b1 : ((t232.length : Int) != 0) = true := bne_iff_ne.mpr c18
                  have c18b2 : ¬ (t232 = []) := fun h_ => c18 (by rw [h_]; rfl)
                  obtain rfl := Option.some.inj H
                  go_wp2_with (first | ((with_reducible refine gate_callee (f := 8) rfl ?_); refine goesL_ (some 44) rfl rfl Tryd.func8 (by kernel_rfl) rfl #[.string x7_2] rfl q2_ ?_; (with_reducible refine (lex_Scan.calls k2 x7_2 t232 t233 _ A17.out q5_).mono ?_); rintro e w26 ⟨v234, rfl, ho0, hb⟩; refine ⟨_, rfl, ?_⟩; have n0_ := Aside0.mk (Kd.R_lower ho0 (below_size q0_)); have n1_ := Aside0.mk (below_step q0_ hb); clear HB; have HO235 := n0_; have HB := n1_; clear n0_ n1_; (try clear hb); (try clear hb2); (try clear hk); (try clear hi); (try clear ho0); obtain ⟨Ao27, co27, eo27⟩ := Kd.R_slice HO235.out; subst eo27))
                  go_ret
                  exact ⟨q4_, q0_⟩

end Go.Proofs.YtjcjndpfihchnaaDoor.P
