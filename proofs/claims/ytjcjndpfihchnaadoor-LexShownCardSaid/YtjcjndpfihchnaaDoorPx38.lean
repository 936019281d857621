-- Written by our own program (wip/xprint) over the seat's translation. Lean checks it.
import Derived.Test.YtjcjndpfihchnaaDoorPx0
import Derived.Test.YtjcjndpfihchnaaDoorPx1
import Derived.Test.YtjcjndpfihchnaaDoorPx36
namespace Go.Proofs.YtjcjndpfihchnaaDoor.P
open Go.RowKit Go.Proofs.YtjcjndpfihchnaaDoorW.PrintWords Go.Proofs.YtjcjndpfihchnaaDoorW.PrintLast Go.Proofs.YtjcjndpfihchnaaDoorW.PrintMore
attribute [local go_sem] max2_int min2_mn max_two min_two max_three min_three max_four min_four   -- for this text's walks alone
set_option linter.unusedVariables false
set_option linter.unusedSimpArgs false


attribute [local go_sem high] eqA41
/-! ### corollarylaw11_awake: function 7 -/
def corollarylaw11_awake.f (k : Nat)  : Option (Bool) := (lex_Scan.f k (⟨#[97, 60, 61, 49, 48, 32, 120, 39, 48, 102, 39]⟩ : ByteArray)).bind fun bt139 => (if (bt139.1.length : Int) = 4 then (if bt139.2 = 0 then (if 1 < (bt139.1.length : Int) then (if (((rd_T41 bt139.1 1).f0) == 5 && (((rd_T41 bt139.1 1).f1) == 0 && ((((rd_T41 bt139.1 1).f2).toList) == ([60, 61] : List UInt8)))) = true then (if 2 < (bt139.1.length : Int) then (if ((rd_T41 bt139.1 2).f1) = 10 then (if 3 < (bt139.1.length : Int) then (some (((rd_T41 bt139.1 3).f0) == 4 && (((rd_T41 bt139.1 3).f1) == 0 && ((((rd_T41 bt139.1 3).f2).toList) == ([15] : List UInt8))))) else (none)) else (some false)) else (none)) else (some false)) else (none)) else (some false)) else (some false))
theorem corollarylaw11_awake.mono : ∀ k, LeO (corollarylaw11_awake.f k ) (corollarylaw11_awake.f (k + 1) ) := by
  intro  k
  unfold corollarylaw11_awake.f
  repeat' first
      | (with_reducible exact lex_Scan.mono _ _)
      | (with_reducible exact LeO.refl _)
      | (with_reducible exact LeO.none _)
      | (with_reducible refine LeO.ite ?_ ?_)
      | (with_reducible refine LeO.bind ?_ (fun _ => ?_))
      | exact lex_Scan.mono _ _
      | exact LeO.none _
      | refine LeO.ite ?_ ?_
      | refine LeO.bind ?_ (fun _ => ?_)
set_option maxHeartbeats 8000000 in
set_option maxRecDepth 100000 in
theorem corollarylaw11_awake.calls (k : Nat)  (r : Bool) (w : World) (h : corollarylaw11_awake.f k  = some r) (hG : Glob w) :
    Calls Tryd.prog 7 #[] w fun e w' => e = .returned (.bool r) ∧ Below w.heap.size w w' := by
  have hu41 := Tryd.underlying41
  have HG := Aside0.mk hG
  clear hG
  have HB := Aside0.mk (Below.refl w.heap.size w)
  have H : ((lex_Scan.f k (⟨#[97, 60, 61, 49, 48, 32, 120, 39, 48, 102, 39]⟩ : ByteArray)).bind fun bt139 => (if (bt139.1.length : Int) = 4 then (if bt139.2 = 0 then (if 1 < (bt139.1.length : Int) then (if (((rd_T41 bt139.1 1).f0) == 5 && (((rd_T41 bt139.1 1).f1) == 0 && ((((rd_T41 bt139.1 1).f2).toList) == ([60, 61] : List UInt8)))) = true then (if 2 < (bt139.1.length : Int) then (if ((rd_T41 bt139.1 2).f1) = 10 then (if 3 < (bt139.1.length : Int) then (some (((rd_T41 bt139.1 3).f0) == 4 && (((rd_T41 bt139.1 3).f1) == 0 && ((((rd_T41 bt139.1 3).f2).toList) == ([15] : List UInt8))))) else (none)) else (some false)) else (none)) else (some false)) else (none)) else (some false)) else (some false))) = some r := h
  clear h
  replace H := Option.bind_eq_some_iff.mp H
  obtain ⟨⟨t139, t140⟩, A10, H⟩ := H
  replace H : (if (t139.length : Int) = 4 then (if t140 = 0 then (if 1 < (t139.length : Int) then (if (((rd_T41 t139 1).f0) == 5 && (((rd_T41 t139 1).f1) == 0 && ((((rd_T41 t139 1).f2).toList) == ([60, 61] : List UInt8)))) = true then (if 2 < (t139.length : Int) then (if ((rd_T41 t139 2).f1) = 10 then (if 3 < (t139.length : Int) then (some (((rd_T41 t139 3).f0) == 4 && (((rd_T41 t139 3).f1) == 0 && ((((rd_T41 t139 3).f2).toList) == ([15] : List UInt8))))) else (none)) else (some false)) else (none)) else (some false)) else (none)) else (some false)) else (some false)) = some r := H
  have A1 := Aside0.mk A10
  clear A10
  by_cases c2 : (t139.length : Int) = 4
  · rw [if_pos c2] at H
    have c2b0 : ((t139.length : Int) == 4) = true := beq_iff_eq.mpr c2
    have c2b1 : ((t139.length : Int) != 4) = false := bne_eq_false_iff_eq.mpr c2
    clear c2
    by_cases c3 : t140 = 0
    · rw [if_pos c3] at H
      have c3b0 : (t140 == 0) = true := beq_iff_eq.mpr c3
      have c3b1 : (t140 != 0) = false := bne_eq_false_iff_eq.mpr c3
      clear c3
      by_cases c4 : 1 < (t139.length : Int)
      · rw [if_pos c4] at H
        have c4b0 : decide (1 < (t139.length : Int)) = true := decide_eq_true c4
        have c4b1 : decide (1 < t139.length) = true := decide_eq_true (by omega)
        clear c4
        by_cases c5 : (((rd_T41 t139 1).f0) == 5 && (((rd_T41 t139 1).f1) == 0 && ((((rd_T41 t139 1).f2).toList) == ([60, 61] : List UInt8)))) = true
        · rw [if_pos c5] at H
          have c5b0 : (((rd_T41 t139 1).f0) == 5 && (((rd_T41 t139 1).f1) == 0 && ((((rd_T41 t139 1).f2).toList) == ([60, 61] : List UInt8)))) = true := c5
          (try (have c5b1 : decide (((rd_T41 t139 1).f0) = 5 && (((rd_T41 t139 1).f1) == 0 && ((((rd_T41 t139 1).f2).toList) == ([60, 61] : List UInt8)))) = true := by simpa using c5))
          (try (have c5b2 : (((rd_T41 t139 1).f0) == 5 && (((rd_T41 t139 1).f1) == 0 && ((((rd_T41 t139 1).f2).toList) == ([60, 61] : List UInt8)))) = true := by simpa using c5))
          clear c5
          by_cases c6 : 2 < (t139.length : Int)
          · rw [if_pos c6] at H
            have c6b0 : decide (2 < (t139.length : Int)) = true := decide_eq_true c6
            have c6b1 : decide (2 < t139.length) = true := decide_eq_true (by omega)
            clear c6
            by_cases c7 : ((rd_T41 t139 2).f1) = 10
            · rw [if_pos c7] at H
              have c7b0 : (((rd_T41 t139 2).f1) == 10) = true := beq_iff_eq.mpr c7
              have c7b1 : (((rd_T41 t139 2).f1) != 10) = false := bne_eq_false_iff_eq.mpr c7
              clear c7
              by_cases c8 : 3 < (t139.length : Int)
              · rw [if_pos c8] at H
                have c8b0 : decide (3 < (t139.length : Int)) = true := decide_eq_true c8
                have c8b1 : decide (3 < t139.length) = true := decide_eq_true (by omega)
                clear c8
                obtain rfl := Option.some.inj H
                go_enter Tryd.func7, Tryd.ntmps7
                go_wp2_with (first | ((with_reducible refine gate_callee (f := 8) rfl ?_); refine goesL_ (some 4) rfl rfl Tryd.func8 (by kernel_rfl) rfl #[.string (⟨#[97, 60, 61, 49, 48, 32, 120, 39, 48, 102, 39]⟩ : ByteArray)] rfl q2_ ?_; (with_reducible refine (lex_Scan.calls k (⟨#[97, 60, 61, 49, 48, 32, 120, 39, 48, 102, 39]⟩ : ByteArray) t139 t140 _ A1.out q8_).mono ?_); rintro e w9 ⟨v141, rfl, ho0, hb⟩; refine ⟨_, rfl, ?_⟩; have n0_ := Aside0.mk (Kd.R_lower ho0 (below_size q0_)); have n1_ := Aside0.mk (below_step q0_ hb); clear HB; have HO142 := n0_; have HB := n1_; clear n0_ n1_; (try clear hb); (try clear hb2); (try clear hk); (try clear hi); (try clear ho0); obtain ⟨Ao10, co10, eo10⟩ := Kd.R_slice HO142.out; subst eo10; have p143 : 0 ≤ (1 : Int) := (by omega); have q143 : 1 < (t139.length : Int) := of_decide_eq_true q5_; obtain ⟨ad143, e143, hx143_0, hx143_1, hx143_2⟩ := at_T41 (Kd.R_reads' HO142.out).2.2 1 p143 q143; cases e143; (try simp only [show (1 : Int).toNat = 1 from rfl, Nat.reduceMul, Nat.reduceEqDiff, Go.Addr.add, ↓reduceIte] at hx143_0); (try simp only [show (1 : Int).toNat = 1 from rfl, Nat.reduceMul, Nat.reduceEqDiff, Go.Addr.add, ↓reduceIte] at hx143_1); (try simp only [show (1 : Int).toNat = 1 from rfl, Nat.reduceMul, Nat.reduceEqDiff, Go.Addr.add, ↓reduceIte] at hx143_2); have qi143 : (1 < t139.length) = True := eq_true (by omega); (try rw [show ((1 : Int)).toNat = 1 from rfl] at hx143_0); (try rw [show 1 * 3 = 3 from rfl] at hx143_0); (try rw [show ((1 : Int)).toNat = 1 from rfl] at hx143_1); (try rw [show 1 * 3 = 3 from rfl] at hx143_1); (try rw [show ((1 : Int)).toNat = 1 from rfl] at hx143_2); (try rw [show 1 * 3 = 3 from rfl] at hx143_2); replace p143 := eq_true p143; replace q143 := eq_true q143; have p144 : 0 ≤ (2 : Int) := (by omega); have q144 : 2 < (t139.length : Int) := of_decide_eq_true q5_; obtain ⟨ad144, e144, hx144_0, hx144_1, hx144_2⟩ := at_T41 (Kd.R_reads' HO142.out).2.2 2 p144 q144; obtain rfl : ad143 = ad144 := (by injection e144); (try simp only [show (2 : Int).toNat = 2 from rfl, Nat.reduceMul, Nat.reduceEqDiff, Go.Addr.add, ↓reduceIte] at hx144_0); (try simp only [show (2 : Int).toNat = 2 from rfl, Nat.reduceMul, Nat.reduceEqDiff, Go.Addr.add, ↓reduceIte] at hx144_1); (try simp only [show (2 : Int).toNat = 2 from rfl, Nat.reduceMul, Nat.reduceEqDiff, Go.Addr.add, ↓reduceIte] at hx144_2); have qi144 : (2 < t139.length) = True := eq_true (by omega); (try rw [show ((2 : Int)).toNat = 2 from rfl] at hx144_0); (try rw [show 2 * 3 = 6 from rfl] at hx144_0); (try rw [show ((2 : Int)).toNat = 2 from rfl] at hx144_1); (try rw [show 2 * 3 = 6 from rfl] at hx144_1); (try rw [show ((2 : Int)).toNat = 2 from rfl] at hx144_2); (try rw [show 2 * 3 = 6 from rfl] at hx144_2); replace p144 := eq_true p144; replace q144 := eq_true q144; have p145 : 0 ≤ (3 : Int) := (by omega); have q145 : 3 < (t139.length : Int) := of_decide_eq_true q5_; obtain ⟨ad145, e145, hx145_0, hx145_1, hx145_2⟩ := at_T41 (Kd.R_reads' HO142.out).2.2 3 p145 q145; obtain rfl : ad143 = ad145 := (by injection e145); (try simp only [show (3 : Int).toNat = 3 from rfl, Nat.reduceMul, Nat.reduceEqDiff, Go.Addr.add, ↓reduceIte] at hx145_0); (try simp only [show (3 : Int).toNat = 3 from rfl, Nat.reduceMul, Nat.reduceEqDiff, Go.Addr.add, ↓reduceIte] at hx145_1); (try simp only [show (3 : Int).toNat = 3 from rfl, Nat.reduceMul, Nat.reduceEqDiff, Go.Addr.add, ↓reduceIte] at hx145_2); have qi145 : (3 < t139.length) = True := eq_true (by omega); (try rw [show ((3 : Int)).toNat = 3 from rfl] at hx145_0); (try rw [show 3 * 3 = 9 from rfl] at hx145_0); (try rw [show ((3 : Int)).toNat = 3 from rfl] at hx145_1); (try rw [show 3 * 3 = 9 from rfl] at hx145_1); (try rw [show ((3 : Int)).toNat = 3 from rfl] at hx145_2); (try rw [show 3 * 3 = 9 from rfl] at hx145_2); replace p145 := eq_true p145; replace q145 := eq_true q145))
                go_ret
                exact ⟨q3_, q0_⟩
              · rw [if_neg c8] at H
                exact absurd H (by simp)
            · rw [if_neg c7] at H
              have c7b0 : (((rd_T41 t139 2).f1) == 10) = false := beq_eq_false_iff_ne.mpr c7
              have c7b1 : (((rd_T41 t139 2).f1) != 10) = true := bne_iff_ne.mpr c7
              obtain rfl := Option.some.inj H
              go_enter Tryd.func7, Tryd.ntmps7
              go_wp2_with (first | ((with_reducible refine gate_callee (f := 8) rfl ?_); refine goesL_ (some 4) rfl rfl Tryd.func8 (by kernel_rfl) rfl #[.string (⟨#[97, 60, 61, 49, 48, 32, 120, 39, 48, 102, 39]⟩ : ByteArray)] rfl q2_ ?_; (with_reducible refine (lex_Scan.calls k (⟨#[97, 60, 61, 49, 48, 32, 120, 39, 48, 102, 39]⟩ : ByteArray) t139 t140 _ A1.out q8_).mono ?_); rintro e w11 ⟨v141, rfl, ho0, hb⟩; refine ⟨_, rfl, ?_⟩; have n0_ := Aside0.mk (Kd.R_lower ho0 (below_size q0_)); have n1_ := Aside0.mk (below_step q0_ hb); clear HB; have HO142 := n0_; have HB := n1_; clear n0_ n1_; (try clear hb); (try clear hb2); (try clear hk); (try clear hi); (try clear ho0); obtain ⟨Ao12, co12, eo12⟩ := Kd.R_slice HO142.out; subst eo12; have p143 : 0 ≤ (1 : Int) := (by omega); have q143 : 1 < (t139.length : Int) := of_decide_eq_true q5_; obtain ⟨ad143, e143, hx143_0, hx143_1, hx143_2⟩ := at_T41 (Kd.R_reads' HO142.out).2.2 1 p143 q143; cases e143; (try simp only [show (1 : Int).toNat = 1 from rfl, Nat.reduceMul, Nat.reduceEqDiff, Go.Addr.add, ↓reduceIte] at hx143_0); (try simp only [show (1 : Int).toNat = 1 from rfl, Nat.reduceMul, Nat.reduceEqDiff, Go.Addr.add, ↓reduceIte] at hx143_1); (try simp only [show (1 : Int).toNat = 1 from rfl, Nat.reduceMul, Nat.reduceEqDiff, Go.Addr.add, ↓reduceIte] at hx143_2); have qi143 : (1 < t139.length) = True := eq_true (by omega); (try rw [show ((1 : Int)).toNat = 1 from rfl] at hx143_0); (try rw [show 1 * 3 = 3 from rfl] at hx143_0); (try rw [show ((1 : Int)).toNat = 1 from rfl] at hx143_1); (try rw [show 1 * 3 = 3 from rfl] at hx143_1); (try rw [show ((1 : Int)).toNat = 1 from rfl] at hx143_2); (try rw [show 1 * 3 = 3 from rfl] at hx143_2); replace p143 := eq_true p143; replace q143 := eq_true q143; have p144 : 0 ≤ (2 : Int) := (by omega); have q144 : 2 < (t139.length : Int) := of_decide_eq_true q5_; obtain ⟨ad144, e144, hx144_0, hx144_1, hx144_2⟩ := at_T41 (Kd.R_reads' HO142.out).2.2 2 p144 q144; obtain rfl : ad143 = ad144 := (by injection e144); (try simp only [show (2 : Int).toNat = 2 from rfl, Nat.reduceMul, Nat.reduceEqDiff, Go.Addr.add, ↓reduceIte] at hx144_0); (try simp only [show (2 : Int).toNat = 2 from rfl, Nat.reduceMul, Nat.reduceEqDiff, Go.Addr.add, ↓reduceIte] at hx144_1); (try simp only [show (2 : Int).toNat = 2 from rfl, Nat.reduceMul, Nat.reduceEqDiff, Go.Addr.add, ↓reduceIte] at hx144_2); have qi144 : (2 < t139.length) = True := eq_true (by omega); (try rw [show ((2 : Int)).toNat = 2 from rfl] at hx144_0); (try rw [show 2 * 3 = 6 from rfl] at hx144_0); (try rw [show ((2 : Int)).toNat = 2 from rfl] at hx144_1); (try rw [show 2 * 3 = 6 from rfl] at hx144_1); (try rw [show ((2 : Int)).toNat = 2 from rfl] at hx144_2); (try rw [show 2 * 3 = 6 from rfl] at hx144_2); replace p144 := eq_true p144; replace q144 := eq_true q144))
              go_ret
              exact ⟨q3_, q0_⟩
          · rw [if_neg c6] at H
            exact absurd H (by simp)
        · rw [if_neg c5] at H
          have c5b0 : (((rd_T41 t139 1).f0) == 5 && (((rd_T41 t139 1).f1) == 0 && ((((rd_T41 t139 1).f2).toList) == ([60, 61] : List UInt8)))) = false := by simpa using c5
          (try (have c5b1 : decide (((rd_T41 t139 1).f0) = 5 && (((rd_T41 t139 1).f1) == 0 && ((((rd_T41 t139 1).f2).toList) == ([60, 61] : List UInt8)))) = false := by simpa using c5))
          (try (have c5b2 : (((rd_T41 t139 1).f0) == 5 && (((rd_T41 t139 1).f1) == 0 && ((((rd_T41 t139 1).f2).toList) == ([60, 61] : List UInt8)))) = false := by simpa using c5))
          (try (have c5b3 : ¬ (((rd_T41 t139 1).f0) = 5 && (((rd_T41 t139 1).f1) == 0 && ((((rd_T41 t139 1).f2).toList) == ([60, 61] : List UInt8)))) := by simpa using c5))
          clear c5
          obtain rfl := Option.some.inj H
          go_enter Tryd.func7, Tryd.ntmps7
          go_wp2_with (first | ((with_reducible refine gate_callee (f := 8) rfl ?_); refine goesL_ (some 4) rfl rfl Tryd.func8 (by kernel_rfl) rfl #[.string (⟨#[97, 60, 61, 49, 48, 32, 120, 39, 48, 102, 39]⟩ : ByteArray)] rfl q2_ ?_; (with_reducible refine (lex_Scan.calls k (⟨#[97, 60, 61, 49, 48, 32, 120, 39, 48, 102, 39]⟩ : ByteArray) t139 t140 _ A1.out q8_).mono ?_); rintro e w13 ⟨v141, rfl, ho0, hb⟩; refine ⟨_, rfl, ?_⟩; have n0_ := Aside0.mk (Kd.R_lower ho0 (below_size q0_)); have n1_ := Aside0.mk (below_step q0_ hb); clear HB; have HO142 := n0_; have HB := n1_; clear n0_ n1_; (try clear hb); (try clear hb2); (try clear hk); (try clear hi); (try clear ho0); obtain ⟨Ao14, co14, eo14⟩ := Kd.R_slice HO142.out; subst eo14; have p143 : 0 ≤ (1 : Int) := (by omega); have q143 : 1 < (t139.length : Int) := of_decide_eq_true q5_; obtain ⟨ad143, e143, hx143_0, hx143_1, hx143_2⟩ := at_T41 (Kd.R_reads' HO142.out).2.2 1 p143 q143; cases e143; (try simp only [show (1 : Int).toNat = 1 from rfl, Nat.reduceMul, Nat.reduceEqDiff, Go.Addr.add, ↓reduceIte] at hx143_0); (try simp only [show (1 : Int).toNat = 1 from rfl, Nat.reduceMul, Nat.reduceEqDiff, Go.Addr.add, ↓reduceIte] at hx143_1); (try simp only [show (1 : Int).toNat = 1 from rfl, Nat.reduceMul, Nat.reduceEqDiff, Go.Addr.add, ↓reduceIte] at hx143_2); have qi143 : (1 < t139.length) = True := eq_true (by omega); (try rw [show ((1 : Int)).toNat = 1 from rfl] at hx143_0); (try rw [show 1 * 3 = 3 from rfl] at hx143_0); (try rw [show ((1 : Int)).toNat = 1 from rfl] at hx143_1); (try rw [show 1 * 3 = 3 from rfl] at hx143_1); (try rw [show ((1 : Int)).toNat = 1 from rfl] at hx143_2); (try rw [show 1 * 3 = 3 from rfl] at hx143_2); replace p143 := eq_true p143; replace q143 := eq_true q143))
          go_ret
          exact ⟨q3_, q0_⟩
      · rw [if_neg c4] at H
        exact absurd H (by simp)
    · rw [if_neg c3] at H
      have c3b0 : (t140 == 0) = false := beq_eq_false_iff_ne.mpr c3
      have c3b1 : (t140 != 0) = true := bne_iff_ne.mpr c3
      obtain rfl := Option.some.inj H
      go_enter Tryd.func7, Tryd.ntmps7
      go_wp2_with (first | ((with_reducible refine gate_callee (f := 8) rfl ?_); refine goesL_ (some 4) rfl rfl Tryd.func8 (by kernel_rfl) rfl #[.string (⟨#[97, 60, 61, 49, 48, 32, 120, 39, 48, 102, 39]⟩ : ByteArray)] rfl q2_ ?_; (with_reducible refine (lex_Scan.calls k (⟨#[97, 60, 61, 49, 48, 32, 120, 39, 48, 102, 39]⟩ : ByteArray) t139 t140 _ A1.out q8_).mono ?_); rintro e w15 ⟨v141, rfl, ho0, hb⟩; refine ⟨_, rfl, ?_⟩; have n0_ := Aside0.mk (Kd.R_lower ho0 (below_size q0_)); have n1_ := Aside0.mk (below_step q0_ hb); clear HB; have HO142 := n0_; have HB := n1_; clear n0_ n1_; (try clear hb); (try clear hb2); (try clear hk); (try clear hi); (try clear ho0); obtain ⟨Ao16, co16, eo16⟩ := Kd.R_slice HO142.out; subst eo16))
      go_ret
      exact ⟨q3_, q0_⟩
  · rw [if_neg c2] at H
    have c2b0 : ((t139.length : Int) == 4) = false := beq_eq_false_iff_ne.mpr c2
    have c2b1 : ((t139.length : Int) != 4) = true := bne_iff_ne.mpr c2
    obtain rfl := Option.some.inj H
    go_enter Tryd.func7, Tryd.ntmps7
    go_wp2_with (first | ((with_reducible refine gate_callee (f := 8) rfl ?_); refine goesL_ (some 4) rfl rfl Tryd.func8 (by kernel_rfl) rfl #[.string (⟨#[97, 60, 61, 49, 48, 32, 120, 39, 48, 102, 39]⟩ : ByteArray)] rfl q2_ ?_; (with_reducible refine (lex_Scan.calls k (⟨#[97, 60, 61, 49, 48, 32, 120, 39, 48, 102, 39]⟩ : ByteArray) t139 t140 _ A1.out q8_).mono ?_); rintro e w17 ⟨v141, rfl, ho0, hb⟩; refine ⟨_, rfl, ?_⟩; have n0_ := Aside0.mk (Kd.R_lower ho0 (below_size q0_)); have n1_ := Aside0.mk (below_step q0_ hb); clear HB; have HO142 := n0_; have HB := n1_; clear n0_ n1_; (try clear hb); (try clear hb2); (try clear hk); (try clear hi); (try clear ho0); obtain ⟨Ao18, co18, eo18⟩ := Kd.R_slice HO142.out; subst eo18))
    go_ret
    exact ⟨q3_, q0_⟩

end Go.Proofs.YtjcjndpfihchnaaDoor.P
