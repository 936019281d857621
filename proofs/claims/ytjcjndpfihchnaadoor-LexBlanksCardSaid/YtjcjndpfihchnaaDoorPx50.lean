-- Written by our own program (wip/xprint) over the seat's translation. Lean checks it.
import Derived.Test.YtjcjndpfihchnaaDoorPx0
import Derived.Test.YtjcjndpfihchnaaDoorPx36
import Derived.Test.YtjcjndpfihchnaaDoorPx38
import Derived.Test.YtjcjndpfihchnaaDoorPx46
import Derived.Test.YtjcjndpfihchnaaDoorPx48
namespace Go.Proofs.YtjcjndpfihchnaaDoor.P
open Go.RowKit Go.Proofs.YtjcjndpfihchnaaDoorW.PrintWords Go.Proofs.YtjcjndpfihchnaaDoorW.PrintLast Go.Proofs.YtjcjndpfihchnaaDoorW.PrintMore
attribute [local go_sem] max2_int min2_int max_two min_two max_three min_three max_four min_four   -- for this text's walks alone
set_option linter.unusedVariables false
set_option linter.unusedSimpArgs false


/-! ### corollarylaw11_LexBlanks: function 4 -/
mutual
def corollarylaw11_LexBlanks.j0 : Nat → ByteArray → ByteArray → Bool → Option (Bool)
  | 0, _, _, _ => none
  | k + 1, x0, x1, x18 => if x18 = true then ((corollarylaw11_awake.f k).bind fun t199 => (some t199)) else ((lex_Scan.f k x0).bind fun bt200 => ((lex_Scan.f k x1).bind fun bt204 => (if bt200.2 = 0 then (corollarylaw11_LexBlanks.j1 k x0 x1 bt200.1 bt204.1 (bt204.2 != 0)) else (corollarylaw11_LexBlanks.j1 k x0 x1 bt200.1 bt204.1 true))))
def corollarylaw11_LexBlanks.j1 : Nat → ByteArray → ByteArray → List (S41) → List (S41) → Bool → Option (Bool)
  | 0, _, _, _, _, _ => none
  | k + 1, x0, x1, x5, x7, x35 => if x35 = true then ((corollarylaw11_awake.f k).bind fun t208 => (some t208)) else (if x0.size + 1 ≤ 9223372036854775807 then (if (x0 ++ (⟨#[32]⟩ : ByteArray)).size + x1.size ≤ 9223372036854775807 then ((lex_Scan.f k ((x0 ++ (⟨#[32]⟩ : ByteArray)) ++ x1)).bind fun bt209 => (if bt209.2 = 0 then ((corollarylaw11_tokens.f k bt209.1).bind fun t213 => ((corollarylaw11_tokens.f k x5).bind fun t216 => ((corollarylaw11_tokens.f k x7).bind fun t219 => (if t216.length + t219.length < 4398046511104 then ((corollaryref11_Same.f k t213 (t216 ++ t219)).bind fun t225 => (if t225 = true then ((corollarylaw11_awake.f k).bind fun t226 => (some t226)) else (some false))) else (none))))) else (some false))) else (none)) else (none))
end
def corollarylaw11_LexBlanks.f (k : Nat) (a0 : ByteArray) (a1 : ByteArray) : Option (Bool) := if (a0.size : Int) > 128 then (corollarylaw11_LexBlanks.j0 k a0 a1 true) else (corollarylaw11_LexBlanks.j0 k a0 a1 (decide ((a1.size : Int) > 128)))
theorem corollarylaw11_LexBlanks.mono_l : ∀ k, (∀ y0 y1 y2, LeO (corollarylaw11_LexBlanks.j0 k y0 y1 y2) (corollarylaw11_LexBlanks.j0 (k + 1) y0 y1 y2)) ∧ (∀ y0 y1 y2 y3 y4, LeO (corollarylaw11_LexBlanks.j1 k y0 y1 y2 y3 y4) (corollarylaw11_LexBlanks.j1 (k + 1) y0 y1 y2 y3 y4))
  | 0 => ⟨fun _ _ _ r h => by simp [corollarylaw11_LexBlanks.j0] at h, fun _ _ _ _ _ r h => by simp [corollarylaw11_LexBlanks.j1] at h⟩
  | k + 1 => by
    obtain ⟨ih0, ih1⟩ := corollarylaw11_LexBlanks.mono_l k
    refine ⟨?_, ?_⟩
    all_goals intros
    all_goals first
      | unfold corollarylaw11_LexBlanks.j0
      | unfold corollarylaw11_LexBlanks.j1
    all_goals repeat' first
      | (with_reducible exact ih0 _ _ _)
      | (with_reducible exact ih1 _ _ _ _ _)
      | (with_reducible exact corollarylaw11_awake.mono _)
      | (with_reducible exact corollarylaw11_tokens.mono _ _)
      | (with_reducible exact corollaryref11_Same.mono _ _ _)
      | (with_reducible exact lex_Scan.mono _ _)
      | (with_reducible exact LeO.refl _)
      | (with_reducible exact LeO.none _)
      | (with_reducible refine LeO.ite ?_ ?_)
      | (with_reducible refine LeO.bind ?_ (fun _ => ?_))
      | exact ih0 _ _ _
      | exact ih1 _ _ _ _ _
      | exact corollarylaw11_awake.mono _
      | exact corollarylaw11_tokens.mono _ _
      | exact corollaryref11_Same.mono _ _ _
      | exact lex_Scan.mono _ _
      | exact LeO.none _
      | refine LeO.ite ?_ ?_
      | refine LeO.bind ?_ (fun _ => ?_)
theorem corollarylaw11_LexBlanks.mono : ∀ a0 a1 k, LeO (corollarylaw11_LexBlanks.f k a0 a1) (corollarylaw11_LexBlanks.f (k + 1) a0 a1) := by
  intro a0 a1 k
  obtain ⟨ih0, ih1⟩ := corollarylaw11_LexBlanks.mono_l k
  unfold corollarylaw11_LexBlanks.f
  repeat' first
      | (with_reducible exact ih0 _ _ _)
      | (with_reducible exact ih1 _ _ _ _ _)
      | (with_reducible exact corollarylaw11_awake.mono _)
      | (with_reducible exact corollarylaw11_tokens.mono _ _)
      | (with_reducible exact corollaryref11_Same.mono _ _ _)
      | (with_reducible exact lex_Scan.mono _ _)
      | (with_reducible exact LeO.refl _)
      | (with_reducible exact LeO.none _)
      | (with_reducible refine LeO.ite ?_ ?_)
      | (with_reducible refine LeO.bind ?_ (fun _ => ?_))
      | exact ih0 _ _ _
      | exact ih1 _ _ _ _ _
      | exact corollarylaw11_awake.mono _
      | exact corollarylaw11_tokens.mono _ _
      | exact corollaryref11_Same.mono _ _ _
      | exact lex_Scan.mono _ _
      | exact LeO.none _
      | refine LeO.ite ?_ ?_
      | refine LeO.bind ?_ (fun _ => ?_)
set_option maxHeartbeats 8000000 in
set_option maxRecDepth 100000 in
theorem corollarylaw11_LexBlanks.calls (k : Nat) (a0 : ByteArray) (a1 : ByteArray) (r : Bool) (w : World) (h : corollarylaw11_LexBlanks.f k a0 a1 = some r) (hG : Glob w) :
    Calls Tryd.prog 4 #[.string a0, .string a1] w fun e w' => e = .returned (.bool r) ∧ Below w.heap.size w w' := by
  have HG := Aside0.mk hG
  clear hG
  have HB := Aside0.mk (Below.refl w.heap.size w)
  have H : (if (a0.size : Int) > 128 then (corollarylaw11_LexBlanks.j0 k a0 a1 true) else (corollarylaw11_LexBlanks.j0 k a0 a1 (decide ((a1.size : Int) > 128)))) = some r := h
  clear h
  have HC3 := Aside0.mk H
  clear H
  go_enter Tryd.func4, Tryd.ntmps4
  go_upto_region 1 with (fail)
  go_cut [18] (fun v18 wc => ∃ (kq : Nat) (x18_2 : Bool), v18 = .bool x18_2 ∧ Aside0 (corollarylaw11_LexBlanks.j0 kq a0 a1 x18_2 = some r) ∧ Aside0 (kq ≤ k) ∧ Aside0 (Below w.heap.size w wc))
  case first =>
    have H := HC3.out
    clear HC3
    by_cases c4 : (a0.size : Int) > 128
    · rw [if_pos c4] at H
      have c4b0 : decide (128 < (a0.size : Int)) = true := decide_eq_true c4
      have c4b1 : decide (128 < a0.size) = true := decide_eq_true (by omega)
      clear c4
      (first | rw [c4b0] | (simp only [i64_w, i32_w]; rw [c4b0]) | skip)
      have H' := Aside0.mk H
      clear H
      go_wp2
      go_meet
      case rel => exact ⟨_, (true), q3_, H', ⟨by first | omega | exact Nat.le_refl _⟩, ⟨q0_⟩⟩
    · rw [if_neg c4] at H
      have c4b0 : decide (128 < (a0.size : Int)) = false := decide_eq_false c4
      have c4b1 : decide (128 < a0.size) = false := decide_eq_false (by omega)
      clear c4
      (first | rw [c4b0] | (simp only [i64_w, i32_w]; rw [c4b0]) | skip)
      have H' := Aside0.mk H
      clear H
      go_wp2
      go_meet
      case rel => exact ⟨_, (decide ((a1.size : Int) > 128)), q3_, H', ⟨by first | omega | exact Nat.le_refl _⟩, ⟨q0_⟩⟩
  case rest =>
    clear HC3
    try clear p2
    try clear c4
    try clear c4b0
    try clear c4b1
    obtain ⟨kq, x18_2, rfl, HA, HJ2, HB⟩ := hcut
    cases kq with
    | zero => exact absurd HA.out (by simp [corollarylaw11_LexBlanks.j0])
    | succ kj2 =>
      have H := HA.out
      clear HA
      simp only [corollarylaw11_LexBlanks.j0] at H
      by_cases c5 : x18_2 = true
      · subst c5
        replace H := ifT_ H
        replace H := Option.bind_eq_some_iff.mp H
        obtain ⟨t199, A60, H⟩ := H
        replace H : (some t199) = some r := H
        have A6 := Aside0.mk A60
        clear A60
        obtain rfl := Option.some.inj H
        go_wp2_with (first | ((with_reducible refine gate_callee (f := 7) rfl ?_); refine goesL_ (some 19) rfl rfl Tryd.func7 (by kernel_rfl) rfl #[] rfl q2_ ?_; (with_reducible refine (corollarylaw11_awake.calls kj2  t199 _ A6.out q5_).mono ?_); rintro e w7 ⟨rfl, hb⟩; refine ⟨_, rfl, ?_⟩; have n0_ := Aside0.mk (below_step q0_ hb); clear HB; have HB := n0_; clear n0_; (try clear hb); (try clear hb2); (try clear hk); (try clear hi)))
        go_ret
        exact ⟨q4_, q0_⟩
      · replace c5 := Bool.eq_false_iff.mpr c5
        subst c5
        replace H := ifF_ H
        replace H := Option.bind_eq_some_iff.mp H
        obtain ⟨⟨t200, t201⟩, A80, H⟩ := H
        replace H : ((lex_Scan.f kj2 a1).bind fun bt204 => (if t201 = 0 then (corollarylaw11_LexBlanks.j1 kj2 a0 a1 t200 bt204.1 (bt204.2 != 0)) else (corollarylaw11_LexBlanks.j1 kj2 a0 a1 t200 bt204.1 true))) = some r := H
        have A8 := Aside0.mk A80
        clear A80
        replace H := Option.bind_eq_some_iff.mp H
        obtain ⟨⟨t204, t205⟩, A90, H⟩ := H
        replace H : (if t201 = 0 then (corollarylaw11_LexBlanks.j1 kj2 a0 a1 t200 t204 (t205 != 0)) else (corollarylaw11_LexBlanks.j1 kj2 a0 a1 t200 t204 true)) = some r := H
        have A9 := Aside0.mk A90
        clear A90
        have HC10 := Aside0.mk H
        clear H
        go_upto_region 5 with (first | ((with_reducible refine gate_callee (f := 8) rfl ?_); refine goesL_ (some 22) rfl rfl Tryd.func8 (by kernel_rfl) rfl #[.string a0] rfl q2_ ?_; (with_reducible refine (lex_Scan.calls kj2 a0 t200 t201 _ A8.out q5_).mono ?_); rintro e w11 ⟨v202, rfl, ho0, hb⟩; refine ⟨_, rfl, ?_⟩; have n0_ := Aside0.mk (Kd.R_lower ho0 (below_size q0_)); have n1_ := Aside0.mk (below_step q0_ hb); clear HB; have HO203 := n0_; have HB := n1_; clear n0_ n1_; (try clear hb); (try clear hb2); (try clear hk); (try clear hi); (try clear ho0)) | ((with_reducible refine gate_callee (f := 8) rfl ?_); refine goesL_ (some 27) rfl rfl Tryd.func8 (by kernel_rfl) rfl #[.string a1] rfl q2_ ?_; (with_reducible refine (lex_Scan.calls kj2 a1 t204 t205 _ A9.out q5_).mono ?_); rintro e w12 ⟨v206, rfl, ho0, hb⟩; refine ⟨_, rfl, ?_⟩; have n0_ := Aside0.mk (Kd.R_elder' (by (with_reducible repeat (first | apply Kd.R_alloc | apply Kd.R_drewN | apply Kd.R_drew)); exact HO203.out) (Kd.R_base ho0) hb); have n1_ := Aside0.mk (Kd.R_lower (Kd.R_new' ho0 (Kd.R_lt (by (with_reducible repeat (first | apply Kd.R_alloc | apply Kd.R_drewN | apply Kd.R_drew)); exact HO203.out))) (below_size q0_)); have n2_ := Aside0.mk (below_step q0_ hb); clear HO203; clear HB; have HO203 := n0_; have HO207 := n1_; have HB := n2_; clear n0_ n1_ n2_; (try clear hb); (try clear hb2); (try clear hk); (try clear hi); (try clear ho0)))
        (try simp only [Act.put, List.setIfInBounds_toArray, List.set_cons_zero, List.set_cons_succ])
        go_cut [35] (fun v35 wc => ∃ (kq : Nat) (x35_9 : Bool), v35 = .bool x35_9 ∧ Aside0 (corollarylaw11_LexBlanks.j1 kq a0 a1 t200 t204 x35_9 = some r) ∧ Aside0 (kq ≤ kj2) ∧ Aside0 (Kd.R k41 41 wc w.heap.size (fun k_ => some k_ ≠ (v206 : Value).ownBlock) v202 t200) ∧ Aside0 (Kd.R k41 41 wc w.heap.size (fun k_ => some k_ ≠ (v202 : Value).ownBlock) v206 t204) ∧ Aside0 (Below w.heap.size w wc))
        case first =>
          have H := HC10.out
          clear HC10
          by_cases c13 : t201 = 0
          · rw [if_pos c13] at H
            have c13b0 : (t201 == 0) = true := beq_iff_eq.mpr c13
            have c13b1 : (t201 != 0) = false := bne_eq_false_iff_eq.mpr c13
            clear c13
            (first | rw [c13b0] | (simp only [i64_w, i32_w]; rw [c13b0]) | skip)
            have H' := Aside0.mk H
            clear H
            go_wp2
            go_meet
            case rel => exact ⟨_, ((t205 != 0)), q3_, H', ⟨q42_⟩, ⟨by (with_reducible repeat (first | apply Kd.R_alloc | apply Kd.R_drewN | apply Kd.R_drew)); exact Kd.R_mono HO203.out (fun _ hk => hk.2)⟩, ⟨by (with_reducible repeat (first | apply Kd.R_alloc | apply Kd.R_drewN | apply Kd.R_drew)); exact Kd.R_mono HO207.out (fun _ hk => hk.2)⟩, ⟨q0_⟩⟩
          · rw [if_neg c13] at H
            have c13b0 : (t201 == 0) = false := beq_eq_false_iff_ne.mpr c13
            have c13b1 : (t201 != 0) = true := bne_iff_ne.mpr c13
            (first | rw [c13b0] | (simp only [i64_w, i32_w]; rw [c13b0]) | skip)
            have H' := Aside0.mk H
            clear H
            go_wp2
            go_meet
            case rel => exact ⟨_, (true), q3_, H', ⟨q42_⟩, ⟨by (with_reducible repeat (first | apply Kd.R_alloc | apply Kd.R_drewN | apply Kd.R_drew)); exact Kd.R_mono HO203.out (fun _ hk => hk.2)⟩, ⟨by (with_reducible repeat (first | apply Kd.R_alloc | apply Kd.R_drewN | apply Kd.R_drew)); exact Kd.R_mono HO207.out (fun _ hk => hk.2)⟩, ⟨q0_⟩⟩
        case rest =>
          clear HC10
          try clear c1
          try clear p2
          try clear c4
          try clear c4b0
          try clear c4b1
          try clear c5
          try clear c7
          try clear c8
          try clear c13
          try clear c13b0
          try clear c13b1
          try clear p2
          obtain ⟨kq, x35_9, rfl, HA, HJ9, HO_5, HO_7, HB⟩ := hcut
          cases kq with
          | zero => exact absurd HA.out (by simp [corollarylaw11_LexBlanks.j1])
          | succ kj9 =>
            have H := HA.out
            clear HA
            simp only [corollarylaw11_LexBlanks.j1] at H
            by_cases c14 : x35_9 = true
            · subst c14
              replace H := ifT_ H
              replace H := Option.bind_eq_some_iff.mp H
              obtain ⟨t208, A150, H⟩ := H
              replace H : (some t208) = some r := H
              have A15 := Aside0.mk A150
              clear A150
              obtain rfl := Option.some.inj H
              go_wp2_with (first | ((with_reducible refine gate_callee (f := 7) rfl ?_); refine goesL_ (some 36) rfl rfl Tryd.func7 (by kernel_rfl) rfl #[] rfl q2_ ?_; (with_reducible refine (corollarylaw11_awake.calls kj9  t208 _ A15.out q5_).mono ?_); rintro e w16 ⟨rfl, hb⟩; refine ⟨_, rfl, ?_⟩; have n0_ := Aside0.mk (Kd.R_below q16_ hb); have n1_ := Aside0.mk (Kd.R_below q15_ hb); have n2_ := Aside0.mk (below_step q0_ hb); clear HO_5; clear HO_7; clear HB; have HO_5 := n0_; have HO_7 := n1_; have HB := n2_; clear n0_ n1_ n2_; (try clear hb); (try clear hb2); (try clear hk); (try clear hi)))
              go_ret
              exact ⟨q4_, q0_⟩
            · replace c14 := Bool.eq_false_iff.mpr c14
              subst c14
              replace H := ifF_ H
              by_cases c17 : a0.size + 1 ≤ 9223372036854775807
              · rw [if_pos c17] at H
                have c17b0 := eq_true c17
                have c17b1 : decide (a0.size + 1 ≤ 9223372036854775807) = true := decide_eq_true c17
                try have c17b2 : (9223372036854775807 < a0.size + 1) = False := eq_false (Nat.not_lt.2 c17)
                by_cases c18 : (a0 ++ (⟨#[32]⟩ : ByteArray)).size + a1.size ≤ 9223372036854775807
                · rw [if_pos c18] at H
                  have c18b0 := eq_true c18
                  have c18b1 : decide ((a0 ++ (⟨#[32]⟩ : ByteArray)).size + a1.size ≤ 9223372036854775807) = true := decide_eq_true c18
                  try have c18b2 : (9223372036854775807 < (a0 ++ (⟨#[32]⟩ : ByteArray)).size + a1.size) = False := eq_false (Nat.not_lt.2 c18)
                  (try (have c18b3 : a0.size + 1 + a1.size ≤ 9223372036854775807 := by first | (have hq_ := c18; simp only [ByteArray.size_append] at hq_; exact hq_) | simpa [ByteArray.size_append] using c18))
                  (try (have c18b4 : (9223372036854775807 < a0.size + 1 + a1.size) = False := eq_false (Nat.not_lt.2 c18b3)))
                  replace H := Option.bind_eq_some_iff.mp H
                  obtain ⟨⟨t209, t210⟩, A190, H⟩ := H
                  replace H : (if t210 = 0 then ((corollarylaw11_tokens.f kj9 t209).bind fun t213 => ((corollarylaw11_tokens.f kj9 t200).bind fun t216 => ((corollarylaw11_tokens.f kj9 t204).bind fun t219 => (if t216.length + t219.length < 4398046511104 then ((corollaryref11_Same.f kj9 t213 (t216 ++ t219)).bind fun t225 => (if t225 = true then ((corollarylaw11_awake.f kj9).bind fun t226 => (some t226)) else (some false))) else (none))))) else (some false)) = some r := H
                  have A19 := Aside0.mk A190
                  clear A190
                  by_cases c20 : t210 = 0
                  · rw [if_pos c20] at H
                    have c20b0 : (t210 == 0) = true := beq_iff_eq.mpr c20
                    have c20b1 : (t210 != 0) = false := bne_eq_false_iff_eq.mpr c20
                    clear c20
                    replace H := Option.bind_eq_some_iff.mp H
                    obtain ⟨t213, A210, H⟩ := H
                    replace H : ((corollarylaw11_tokens.f kj9 t200).bind fun t216 => ((corollarylaw11_tokens.f kj9 t204).bind fun t219 => (if t216.length + t219.length < 4398046511104 then ((corollaryref11_Same.f kj9 t213 (t216 ++ t219)).bind fun t225 => (if t225 = true then ((corollarylaw11_awake.f kj9).bind fun t226 => (some t226)) else (some false))) else (none)))) = some r := H
                    have A21 := Aside0.mk A210
                    clear A210
                    replace H := Option.bind_eq_some_iff.mp H
                    obtain ⟨t216, A220, H⟩ := H
                    replace H : ((corollarylaw11_tokens.f kj9 t204).bind fun t219 => (if t216.length + t219.length < 4398046511104 then ((corollaryref11_Same.f kj9 t213 (t216 ++ t219)).bind fun t225 => (if t225 = true then ((corollarylaw11_awake.f kj9).bind fun t226 => (some t226)) else (some false))) else (none))) = some r := H
                    have A22 := Aside0.mk A220
                    clear A220
                    replace H := Option.bind_eq_some_iff.mp H
                    obtain ⟨t219, A230, H⟩ := H
                    replace H : (if t216.length + t219.length < 4398046511104 then ((corollaryref11_Same.f kj9 t213 (t216 ++ t219)).bind fun t225 => (if t225 = true then ((corollarylaw11_awake.f kj9).bind fun t226 => (some t226)) else (some false))) else (none)) = some r := H
                    have A23 := Aside0.mk A230
                    clear A230
                    by_cases c24 : t216.length + t219.length < 4398046511104
                    · rw [if_pos c24] at H
                      have LMc24 := Aside0.mk c24
                      clear c24
                      obtain ⟨y222, hy222⟩ : ∃ y_ : List (S46), y_ = (t216 ++ t219) := ⟨_, rfl⟩
                      replace H : ((corollaryref11_Same.f kj9 t213 y222).bind fun t225 => (if t225 = true then ((corollarylaw11_awake.f kj9).bind fun t226 => (some t226)) else (some false))) = some r := by first | (rw [hy222]; with_reducible exact H) | (have H2_ := (Option.bind_some _ _).symm.trans H; rw [hy222]; with_reducible exact H2_) | (have H2_ := (Option.bind_some _ _).symm.trans H; with_reducible exact H2_) | with_reducible exact H | (rw [hy222]; exact H) | exact H
                      have Ny222 := Aside0.mk hy222
                      clear hy222
                      replace H := Option.bind_eq_some_iff.mp H
                      obtain ⟨t225, A250, H⟩ := H
                      replace H : (if t225 = true then ((corollarylaw11_awake.f kj9).bind fun t226 => (some t226)) else (some false)) = some r := H
                      have A25 := Aside0.mk A250
                      clear A250
                      by_cases c26 : t225 = true
                      · subst c26
                        replace H := ifT_ H
                        replace H := Option.bind_eq_some_iff.mp H
                        obtain ⟨t226, A270, H⟩ := H
                        replace H : (some t226) = some r := H
                        have A27 := Aside0.mk A270
                        clear A270
                        obtain rfl := Option.some.inj H
                        go_wp2_with (first | ((with_reducible refine gate_callee (f := 8) rfl ?_); refine goesL_ (some 42) rfl rfl Tryd.func8 (by kernel_rfl) rfl #[.string ((a0 ++ (⟨#[32]⟩ : ByteArray)) ++ a1)] rfl q2_ ?_; (with_reducible refine (lex_Scan.calls kj9 ((a0 ++ (⟨#[32]⟩ : ByteArray)) ++ a1) t209 t210 _ A19.out q5_).mono ?_); rintro e w28 ⟨v211, rfl, ho0, hb⟩; refine ⟨_, rfl, ?_⟩; have n0_ := Aside0.mk (Kd.R_elder' q16_ (Kd.R_base ho0) hb); have n1_ := Aside0.mk (Kd.R_elder' q15_ (Kd.R_base ho0) hb); have n2_ := Aside0.mk (Kd.R_lower (Kd.R_new' (Kd.R_new' ho0 (Kd.R_lt q16_)) (Kd.R_lt q15_)) (below_size q0_)); have n3_ := Aside0.mk (below_step q0_ hb); clear HO_5; clear HO_7; clear HB; have HO_5 := n0_; have HO_7 := n1_; have HO212 := n2_; have HB := n3_; clear n0_ n1_ n2_ n3_; (try clear hb); (try clear hb2); (try clear hk); (try clear hi); (try clear ho0); obtain ⟨Ao29, co29, eo29⟩ := Kd.R_slice HO212.out; subst eo29) | (go_at_call 11; (with_reducible refine (corollarylaw11_tokens.calls kj9 _ _ t209 t213 _ ?side1 ?side2 A21.out).mono ?_); (case side1 => repeat (first | exact (Kd.R_reads' HO212.out).2.2 | (with_reducible refine Kd.C_alloc ?_ _) | (with_reducible refine Kd.C_drewN ?_ _) | (with_reducible refine Kd.C_drew ?_))); (case side2 => exact (Kd.R_reads' HO212.out).2.1); rintro e w30 ⟨v214, rfl, ho0, hb⟩; have n0_ := Aside0.mk (Kd.R_below q16_ hb); have n1_ := Aside0.mk (Kd.R_below q15_ hb); have n2_ := Aside0.mk (Kd.R_below q25_ hb); have n3_ := Aside0.mk (Kd.R_lower ho0 (below_size q0_)); have n4_ := Aside0.mk (below_step q0_ hb); clear HO_5; clear HO_7; clear HO212; clear HB; have HO_5 := n0_; have HO_7 := n1_; have HO212 := n2_; have HO215 := n3_; have HB := n4_; clear n0_ n1_ n2_ n3_ n4_; (try clear hb); (try clear hb2); (try clear hk); (try clear hi); (try clear ho0); obtain ⟨Ao31, co31, eo31⟩ := Kd.R_slice HO_5.out; subst eo31) | (go_at_call 11; (with_reducible refine (corollarylaw11_tokens.calls kj9 _ _ t200 t216 _ ?side1 ?side2 A22.out).mono ?_); (case side1 => repeat (first | exact (Kd.R_reads' HO_5.out).2.2 | (with_reducible refine Kd.C_alloc ?_ _) | (with_reducible refine Kd.C_drewN ?_ _) | (with_reducible refine Kd.C_drew ?_))); (case side2 => exact (Kd.R_reads' HO_5.out).2.1); rintro e w32 ⟨v217, rfl, ho0, hb⟩; have n0_ := Aside0.mk (Kd.R_below q16_ hb); have n1_ := Aside0.mk (Kd.R_below q15_ hb); have n2_ := Aside0.mk (Kd.R_below q25_ hb); have n3_ := Aside0.mk (Kd.R_elder' q22_ (Kd.R_base ho0) hb); have n4_ := Aside0.mk (Kd.R_lower (Kd.R_new' ho0 (Kd.R_lt q22_)) (below_size q0_)); have n5_ := Aside0.mk (below_step q0_ hb); clear HO_5; clear HO_7; clear HO212; clear HO215; clear HB; have HO_5 := n0_; have HO_7 := n1_; have HO212 := n2_; have HO215 := n3_; have HO218 := n4_; have HB := n5_; clear n0_ n1_ n2_ n3_ n4_ n5_; (try clear hb); (try clear hb2); (try clear hk); (try clear hi); (try clear ho0); obtain ⟨Ao33, co33, eo33⟩ := Kd.R_slice HO_7.out; subst eo33) | (go_at_call 11; (with_reducible refine (corollarylaw11_tokens.calls kj9 _ _ t204 t219 _ ?side1 ?side2 A23.out).mono ?_); (case side1 => repeat (first | exact (Kd.R_reads' HO_7.out).2.2 | (with_reducible refine Kd.C_alloc ?_ _) | (with_reducible refine Kd.C_drewN ?_ _) | (with_reducible refine Kd.C_drew ?_))); (case side2 => exact (Kd.R_reads' HO_7.out).2.1); rintro e w34 ⟨v220, rfl, ho0, hb⟩; have n0_ := Aside0.mk (Kd.R_below q16_ hb); have n1_ := Aside0.mk (Kd.R_below q15_ hb); have n2_ := Aside0.mk (Kd.R_below q25_ hb); have n3_ := Aside0.mk (Kd.R_elder' q22_ (Kd.R_base ho0) hb); have n4_ := Aside0.mk (Kd.R_elder' q24_ (Kd.R_base ho0) hb); have n5_ := Aside0.mk (Kd.R_lower (Kd.R_new' (Kd.R_new' ho0 (Kd.R_lt q22_)) (Kd.R_lt q24_)) (below_size q0_)); have n6_ := Aside0.mk (below_step q0_ hb); clear HO_5; clear HO_7; clear HO212; clear HO215; clear HO218; clear HB; have HO_5 := n0_; have HO_7 := n1_; have HO212 := n2_; have HO215 := n3_; have HO218 := n4_; have HO221 := n5_; have HB := n6_; clear n0_ n1_ n2_ n3_ n4_ n5_ n6_; (try clear hb); (try clear hb2); (try clear hk); (try clear hi); (try clear ho0); obtain ⟨Ao36, co36, eo36⟩ := Kd.R_slice HO221.out; subst eo36) | ((with_reducible refine gate_builtin (b := .append) (xs := #[.tmp 51, .tmp 53]) rfl ?_); (try (refine gate_guard (by rfl) ?_; dsimp only)); at_builtin; refine Kd.R_append_rows k46 (w0 := w) w.heap.size rfl (.tmp 51) (.tmp 53) 27 46 (.agg #[(.int .i64 0), (.int .i64 0), (.string ⟨#[]⟩)]) 32 rfl Tryd.underlying27 info46 rfl (by decide) (by omega) v217 t216 t219 _ _ _ (fun k_ => some k_ ≠ (v214 : Value).ownBlock ∧ some k_ ≠ (.slice Ao36 t219.length co36 : Value).ownBlock) (fun _ => False) rfl rfl ?aO ?aR (fun _ _ h => h) (fun _ h => h.elim) ?aF ?aB ?aS ?aL ?_; (case aR => repeat (first | exact (Kd.R_reads' HO221.out).2.2 | (with_reducible refine Kd.C_alloc ?_ _) | (with_reducible refine Kd.C_drewN ?_ _) | (with_reducible refine Kd.C_drew ?_))); (case aB => exact q0_); (case aF => exact (fun k_ hk => ⟨Kd.fresh' (Kd.R_lt q22_) k_ hk, Kd.fresh' (Kd.R_lt q61_) k_ hk⟩)); (case aO => exact (by (with_reducible repeat (first | apply Kd.R_alloc | apply Kd.R_drewN | apply Kd.R_drew)); exact Kd.R_mono HO218.out (fun _ hk => ⟨hk.1.2, hk.2⟩))); (case aS => exact (below_size q0_)); (case aL => have := LMc24.out; omega); intro v223 w35 ho hb hg hat; rw [← Ny222.out] at ho; have n0_ := Aside0.mk (Kd.R_over' q16_ (Kd.R_typed q24_) (by decide) hg); have n1_ := Aside0.mk (Kd.R_over' q15_ (Kd.R_typed q24_) (by decide) hg); have n2_ := Aside0.mk (Kd.R_over' q25_ (Kd.R_typed q24_) (by decide) hg); have n3_ := Aside0.mk (Kd.R_after (ok := (fun k_ => some k_ ≠ (.slice Ao36 t219.length co36 : Value).ownBlock)) (by (with_reducible repeat (first | apply Kd.R_alloc | apply Kd.R_drewN | apply Kd.R_drew)); exact Kd.R_mono HO215.out (fun _ hk => ⟨hk.2, hk.1.2⟩)) hg hat); have n4_ := Aside0.mk (Kd.R_after (ok := (fun k_ => some k_ ≠ (v214 : Value).ownBlock)) (by (with_reducible repeat (first | apply Kd.R_alloc | apply Kd.R_drewN | apply Kd.R_drew)); exact Kd.R_mono HO221.out (fun _ hk => ⟨hk.1.2, hk.2⟩)) hg hat); have n5_ := Aside0.mk (hb); have n6_ := Aside0.mk (ho); clear HO_5; clear HO_7; clear HO212; clear HO215; clear HO221; clear HB; clear HO218; have HO_5 := n0_; have HO_7 := n1_; have HO212 := n2_; have HO215 := n3_; have HO221 := n4_; have HB := n5_; have HO224 := n6_; clear n0_ n1_ n2_ n3_ n4_ n5_ n6_; clear ho hb hg hat; obtain ⟨Ao37, co37, eo37⟩ := Kd.R_slice HO215.out; subst eo37; obtain ⟨Ao38, co38, eo38⟩ := Kd.R_slice HO224.out; subst eo38) | (go_at_call 10; (with_reducible refine (corollaryref11_Same.calls kj9 _ _ t213 _ _ y222 true _ ?side1 ?side2 ?side3 ?side4 A25.out).mono ?_); (case side1 => repeat (first | exact (Kd.R_reads' HO215.out).2.2 | (with_reducible refine Kd.C_alloc ?_ _) | (with_reducible refine Kd.C_drewN ?_ _) | (with_reducible refine Kd.C_drew ?_))); (case side2 => exact (Kd.R_reads' HO215.out).2.1); (case side3 => repeat (first | exact (Kd.R_reads' HO224.out).2.2 | (with_reducible refine Kd.C_alloc ?_ _) | (with_reducible refine Kd.C_drewN ?_ _) | (with_reducible refine Kd.C_drew ?_))); (case side4 => exact (Kd.R_reads' HO224.out).2.1); rintro e w' ⟨rfl, ⟨nd, rfl⟩⟩) | (go_at_call 7; (with_reducible refine (corollarylaw11_awake.calls kj9  t226 _ A27.out q5_).mono ?_); rintro e w39 ⟨rfl, hb⟩; have n0_ := Aside0.mk (Kd.R_below q16_ hb); have n1_ := Aside0.mk (Kd.R_below q15_ hb); have n2_ := Aside0.mk (Kd.R_below q25_ hb); have n3_ := Aside0.mk (Kd.R_below q22_ hb); have n4_ := Aside0.mk (Kd.R_below q61_ hb); have n5_ := Aside0.mk (Kd.R_below (by (with_reducible repeat (first | apply Kd.R_alloc | apply Kd.R_drewN | apply Kd.R_drew)); exact HO224.out) hb); have n6_ := Aside0.mk (below_step q0_ hb); clear HO_5; clear HO_7; clear HO212; clear HO215; clear HO221; clear HO224; clear HB; have HO_5 := n0_; have HO_7 := n1_; have HO212 := n2_; have HO215 := n3_; have HO221 := n4_; have HO224 := n5_; have HB := n6_; clear n0_ n1_ n2_ n3_ n4_ n5_ n6_; (try clear hb); (try clear hb2); (try clear hk); (try clear hi)))
                        go_ret
                        exact ⟨q4_, q0_⟩
                      · replace c26 := Bool.eq_false_iff.mpr c26
                        subst c26
                        replace H := ifF_ H
                        obtain rfl := Option.some.inj H
                        go_wp2_with (first | ((with_reducible refine gate_callee (f := 8) rfl ?_); refine goesL_ (some 42) rfl rfl Tryd.func8 (by kernel_rfl) rfl #[.string ((a0 ++ (⟨#[32]⟩ : ByteArray)) ++ a1)] rfl q2_ ?_; (with_reducible refine (lex_Scan.calls kj9 ((a0 ++ (⟨#[32]⟩ : ByteArray)) ++ a1) t209 t210 _ A19.out q5_).mono ?_); rintro e w40 ⟨v211, rfl, ho0, hb⟩; refine ⟨_, rfl, ?_⟩; have n0_ := Aside0.mk (Kd.R_elder' q16_ (Kd.R_base ho0) hb); have n1_ := Aside0.mk (Kd.R_elder' q15_ (Kd.R_base ho0) hb); have n2_ := Aside0.mk (Kd.R_lower (Kd.R_new' (Kd.R_new' ho0 (Kd.R_lt q16_)) (Kd.R_lt q15_)) (below_size q0_)); have n3_ := Aside0.mk (below_step q0_ hb); clear HO_5; clear HO_7; clear HB; have HO_5 := n0_; have HO_7 := n1_; have HO212 := n2_; have HB := n3_; clear n0_ n1_ n2_ n3_; (try clear hb); (try clear hb2); (try clear hk); (try clear hi); (try clear ho0); obtain ⟨Ao41, co41, eo41⟩ := Kd.R_slice HO212.out; subst eo41) | (go_at_call 11; (with_reducible refine (corollarylaw11_tokens.calls kj9 _ _ t209 t213 _ ?side1 ?side2 A21.out).mono ?_); (case side1 => repeat (first | exact (Kd.R_reads' HO212.out).2.2 | (with_reducible refine Kd.C_alloc ?_ _) | (with_reducible refine Kd.C_drewN ?_ _) | (with_reducible refine Kd.C_drew ?_))); (case side2 => exact (Kd.R_reads' HO212.out).2.1); rintro e w42 ⟨v214, rfl, ho0, hb⟩; have n0_ := Aside0.mk (Kd.R_below q16_ hb); have n1_ := Aside0.mk (Kd.R_below q15_ hb); have n2_ := Aside0.mk (Kd.R_below q25_ hb); have n3_ := Aside0.mk (Kd.R_lower ho0 (below_size q0_)); have n4_ := Aside0.mk (below_step q0_ hb); clear HO_5; clear HO_7; clear HO212; clear HB; have HO_5 := n0_; have HO_7 := n1_; have HO212 := n2_; have HO215 := n3_; have HB := n4_; clear n0_ n1_ n2_ n3_ n4_; (try clear hb); (try clear hb2); (try clear hk); (try clear hi); (try clear ho0); obtain ⟨Ao43, co43, eo43⟩ := Kd.R_slice HO_5.out; subst eo43) | (go_at_call 11; (with_reducible refine (corollarylaw11_tokens.calls kj9 _ _ t200 t216 _ ?side1 ?side2 A22.out).mono ?_); (case side1 => repeat (first | exact (Kd.R_reads' HO_5.out).2.2 | (with_reducible refine Kd.C_alloc ?_ _) | (with_reducible refine Kd.C_drewN ?_ _) | (with_reducible refine Kd.C_drew ?_))); (case side2 => exact (Kd.R_reads' HO_5.out).2.1); rintro e w44 ⟨v217, rfl, ho0, hb⟩; have n0_ := Aside0.mk (Kd.R_below q16_ hb); have n1_ := Aside0.mk (Kd.R_below q15_ hb); have n2_ := Aside0.mk (Kd.R_below q25_ hb); have n3_ := Aside0.mk (Kd.R_elder' q22_ (Kd.R_base ho0) hb); have n4_ := Aside0.mk (Kd.R_lower (Kd.R_new' ho0 (Kd.R_lt q22_)) (below_size q0_)); have n5_ := Aside0.mk (below_step q0_ hb); clear HO_5; clear HO_7; clear HO212; clear HO215; clear HB; have HO_5 := n0_; have HO_7 := n1_; have HO212 := n2_; have HO215 := n3_; have HO218 := n4_; have HB := n5_; clear n0_ n1_ n2_ n3_ n4_ n5_; (try clear hb); (try clear hb2); (try clear hk); (try clear hi); (try clear ho0); obtain ⟨Ao45, co45, eo45⟩ := Kd.R_slice HO_7.out; subst eo45) | (go_at_call 11; (with_reducible refine (corollarylaw11_tokens.calls kj9 _ _ t204 t219 _ ?side1 ?side2 A23.out).mono ?_); (case side1 => repeat (first | exact (Kd.R_reads' HO_7.out).2.2 | (with_reducible refine Kd.C_alloc ?_ _) | (with_reducible refine Kd.C_drewN ?_ _) | (with_reducible refine Kd.C_drew ?_))); (case side2 => exact (Kd.R_reads' HO_7.out).2.1); rintro e w46 ⟨v220, rfl, ho0, hb⟩; have n0_ := Aside0.mk (Kd.R_below q16_ hb); have n1_ := Aside0.mk (Kd.R_below q15_ hb); have n2_ := Aside0.mk (Kd.R_below q25_ hb); have n3_ := Aside0.mk (Kd.R_elder' q22_ (Kd.R_base ho0) hb); have n4_ := Aside0.mk (Kd.R_elder' q24_ (Kd.R_base ho0) hb); have n5_ := Aside0.mk (Kd.R_lower (Kd.R_new' (Kd.R_new' ho0 (Kd.R_lt q22_)) (Kd.R_lt q24_)) (below_size q0_)); have n6_ := Aside0.mk (below_step q0_ hb); clear HO_5; clear HO_7; clear HO212; clear HO215; clear HO218; clear HB; have HO_5 := n0_; have HO_7 := n1_; have HO212 := n2_; have HO215 := n3_; have HO218 := n4_; have HO221 := n5_; have HB := n6_; clear n0_ n1_ n2_ n3_ n4_ n5_ n6_; (try clear hb); (try clear hb2); (try clear hk); (try clear hi); (try clear ho0); obtain ⟨Ao48, co48, eo48⟩ := Kd.R_slice HO221.out; subst eo48) | ((with_reducible refine gate_builtin (b := .append) (xs := #[.tmp 51, .tmp 53]) rfl ?_); (try (refine gate_guard (by rfl) ?_; dsimp only)); at_builtin; refine Kd.R_append_rows k46 (w0 := w) w.heap.size rfl (.tmp 51) (.tmp 53) 27 46 (.agg #[(.int .i64 0), (.int .i64 0), (.string ⟨#[]⟩)]) 32 rfl Tryd.underlying27 info46 rfl (by decide) (by omega) v217 t216 t219 _ _ _ (fun k_ => some k_ ≠ (v214 : Value).ownBlock ∧ some k_ ≠ (.slice Ao48 t219.length co48 : Value).ownBlock) (fun _ => False) rfl rfl ?aO ?aR (fun _ _ h => h) (fun _ h => h.elim) ?aF ?aB ?aS ?aL ?_; (case aR => repeat (first | exact (Kd.R_reads' HO221.out).2.2 | (with_reducible refine Kd.C_alloc ?_ _) | (with_reducible refine Kd.C_drewN ?_ _) | (with_reducible refine Kd.C_drew ?_))); (case aB => exact q0_); (case aF => exact (fun k_ hk => ⟨Kd.fresh' (Kd.R_lt q22_) k_ hk, Kd.fresh' (Kd.R_lt q61_) k_ hk⟩)); (case aO => exact (by (with_reducible repeat (first | apply Kd.R_alloc | apply Kd.R_drewN | apply Kd.R_drew)); exact Kd.R_mono HO218.out (fun _ hk => ⟨hk.1.2, hk.2⟩))); (case aS => exact (below_size q0_)); (case aL => have := LMc24.out; omega); intro v223 w47 ho hb hg hat; rw [← Ny222.out] at ho; have n0_ := Aside0.mk (Kd.R_over' q16_ (Kd.R_typed q24_) (by decide) hg); have n1_ := Aside0.mk (Kd.R_over' q15_ (Kd.R_typed q24_) (by decide) hg); have n2_ := Aside0.mk (Kd.R_over' q25_ (Kd.R_typed q24_) (by decide) hg); have n3_ := Aside0.mk (Kd.R_after (ok := (fun k_ => some k_ ≠ (.slice Ao48 t219.length co48 : Value).ownBlock)) (by (with_reducible repeat (first | apply Kd.R_alloc | apply Kd.R_drewN | apply Kd.R_drew)); exact Kd.R_mono HO215.out (fun _ hk => ⟨hk.2, hk.1.2⟩)) hg hat); have n4_ := Aside0.mk (Kd.R_after (ok := (fun k_ => some k_ ≠ (v214 : Value).ownBlock)) (by (with_reducible repeat (first | apply Kd.R_alloc | apply Kd.R_drewN | apply Kd.R_drew)); exact Kd.R_mono HO221.out (fun _ hk => ⟨hk.1.2, hk.2⟩)) hg hat); have n5_ := Aside0.mk (hb); have n6_ := Aside0.mk (ho); clear HO_5; clear HO_7; clear HO212; clear HO215; clear HO221; clear HB; clear HO218; have HO_5 := n0_; have HO_7 := n1_; have HO212 := n2_; have HO215 := n3_; have HO221 := n4_; have HB := n5_; have HO224 := n6_; clear n0_ n1_ n2_ n3_ n4_ n5_ n6_; clear ho hb hg hat; obtain ⟨Ao49, co49, eo49⟩ := Kd.R_slice HO215.out; subst eo49; obtain ⟨Ao50, co50, eo50⟩ := Kd.R_slice HO224.out; subst eo50) | (go_at_call 10; (with_reducible refine (corollaryref11_Same.calls kj9 _ _ t213 _ _ y222 false _ ?side1 ?side2 ?side3 ?side4 A25.out).mono ?_); (case side1 => repeat (first | exact (Kd.R_reads' HO215.out).2.2 | (with_reducible refine Kd.C_alloc ?_ _) | (with_reducible refine Kd.C_drewN ?_ _) | (with_reducible refine Kd.C_drew ?_))); (case side2 => exact (Kd.R_reads' HO215.out).2.1); (case side3 => repeat (first | exact (Kd.R_reads' HO224.out).2.2 | (with_reducible refine Kd.C_alloc ?_ _) | (with_reducible refine Kd.C_drewN ?_ _) | (with_reducible refine Kd.C_drew ?_))); (case side4 => exact (Kd.R_reads' HO224.out).2.1); rintro e w' ⟨rfl, ⟨nd, rfl⟩⟩))
                        go_ret
                        exact ⟨q4_, q0_⟩
                    · rw [if_neg c24] at H
                      exact absurd H (by simp)
                  · rw [if_neg c20] at H
                    have c20b0 : (t210 == 0) = false := beq_eq_false_iff_ne.mpr c20
                    have c20b1 : (t210 != 0) = true := bne_iff_ne.mpr c20
                    obtain rfl := Option.some.inj H
                    go_wp2_with (first | ((with_reducible refine gate_callee (f := 8) rfl ?_); refine goesL_ (some 42) rfl rfl Tryd.func8 (by kernel_rfl) rfl #[.string ((a0 ++ (⟨#[32]⟩ : ByteArray)) ++ a1)] rfl q2_ ?_; (with_reducible refine (lex_Scan.calls kj9 ((a0 ++ (⟨#[32]⟩ : ByteArray)) ++ a1) t209 t210 _ A19.out q5_).mono ?_); rintro e w51 ⟨v211, rfl, ho0, hb⟩; refine ⟨_, rfl, ?_⟩; have n0_ := Aside0.mk (Kd.R_elder' q16_ (Kd.R_base ho0) hb); have n1_ := Aside0.mk (Kd.R_elder' q15_ (Kd.R_base ho0) hb); have n2_ := Aside0.mk (Kd.R_lower (Kd.R_new' (Kd.R_new' ho0 (Kd.R_lt q16_)) (Kd.R_lt q15_)) (below_size q0_)); have n3_ := Aside0.mk (below_step q0_ hb); clear HO_5; clear HO_7; clear HB; have HO_5 := n0_; have HO_7 := n1_; have HO212 := n2_; have HB := n3_; clear n0_ n1_ n2_ n3_; (try clear hb); (try clear hb2); (try clear hk); (try clear hi); (try clear ho0)))
                    go_ret
                    exact ⟨q4_, q0_⟩
                · rw [if_neg c18] at H
                  exact absurd H (by simp)
              · rw [if_neg c17] at H
                exact absurd H (by simp)

end Go.Proofs.YtjcjndpfihchnaaDoor.P
