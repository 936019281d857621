-- Plain laws of the printed functions (wip/l11).
import Derived.Test.YtjcjndpfihchnaaDoorPureV
import Derived.Test.YtjcjndpfihchnaaDoorPx43
namespace Go.Proofs.YtjcjndpfihchnaaDoor.Pure
open Go.ChangeShapes Go.WideShapes Go.ChangeAt Go.RowKit Go.Proofs.YtjcjndpfihchnaaDoorW.PrintWords Go.Proofs.YtjcjndpfihchnaaDoorW.PrintLast Go.Proofs.YtjcjndpfihchnaaDoor.P Go.Proofs.YtjcjndpfihchnaaDoor.Open
set_option linter.unusedVariables false
set_option linter.unusedSimpArgs false
abbrev inR (n : Int) : Prop := -9223372036854775808 ≤ n ∧ n ≤ 9223372036854775807
theorem refSum_eq (m n : Int) (hm : inR m) (hn : inR n) : corollaryref01_Sum.f m n = some (if inR (m + n) then (m + n, true) else (0, false)) := by
  unfold corollaryref01_Sum.f inR at *
  by_cases h : -9223372036854775808 ≤ m + n ∧ m + n ≤ 9223372036854775807
  · rw [if_pos h, w64 (n := m + n) (by omega) (by omega)]
    by_cases h0 : m > 0
    · rw [if_pos h0, w64 (by omega) (by omega), if_neg (by omega), if_neg (by omega)]
    · rw [if_neg h0]
      by_cases h1 : m < 0
      · rw [if_pos h1, w64 (by omega) (by omega), if_neg (by omega)]
      · rw [if_neg h1]
  · rw [if_neg h]
    by_cases h0 : m > 0
    · rw [if_pos h0, w64 (by omega) (by omega), if_pos (by omega)]
    · rw [if_neg h0, if_pos (by omega), w64 (by omega) (by omega), if_pos (by omega)]
/-- Both below nought: the last steps of a product. -/
theorem times_last {j3 : Nat → Int → Int → Bool → Bool → Option (Int × Bool)}
    (h3 : ∀ k x0 x1 x7 x47, j3 (k + 1) x0 x1 x7 x47 = if x47 = true then (some (0, false)) else (if x1 > (-9223372036854775808) then (if x7 = true then (some (wrap64 (x0 * (wrap64 (-x1))), true)) else (some (wrap64 (-(wrap64 (x0 * (wrap64 (-x1))))), true))) else (if x7 = true then (some (x1, true)) else (some (wrap64 (-x1), true)))))
    (A B P M : Int) (t : Bool) (hA : 1 ≤ A) (hB : 1 ≤ B) (hB2 : B ≤ 9223372036854775808) (hP : A * B = P) (hM : M = if t = true then 9223372036854775808 else 9223372036854775807) :
    Ev (fun k => j3 k (-A) (-B) t (decide (P > M))) (if P ≤ M then ((if t = true then -P else P), true) else (0, false)) := by
  apply Ev.succ
  simp only [h3]
  by_cases hPM : P ≤ M
  · rw [if_pos hPM]
    refine Ev.neg (by simpa using hPM) ?_
    by_cases hb : -B > -9223372036854775808
    · refine Ev.pos hb ?_
      have e1 : wrap64 (- -B) = B := by rw [w64 (by omega) (by omega)]; omega
      rw [e1, Int.neg_mul, hP]
      have hP1 : 1 ≤ P := by rw [← hP]; exact Int.mul_pos (by omega) (by omega)
      cases t with
      | true =>
        simp only [if_true] at hM ⊢
        rw [w64 (by omega) (by omega)]
        exact Ev.pure _
      | false =>
        simp only [Bool.false_eq_true, if_false] at hM ⊢
        rw [w64 (n := -P) (by omega) (by omega), w64 (by omega) (by omega), Int.neg_neg]
        exact Ev.pure _
    · refine Ev.neg hb ?_
      have hB3 : B = 9223372036854775808 := by omega
      subst hB3
      cases t with
      | true =>
        simp only [if_true] at hM ⊢
        have : P = 9223372036854775808 := by omega
        subst this
        exact Ev.pure _
      | false =>
        simp only [Bool.false_eq_true, if_false] at hM
        exfalso; omega
  · rw [if_neg hPM]
    exact Ev.pos (by simpa using hPM) (Ev.pure _)
theorem times_core {j1 j2 : Nat → Int → Int → Int → Bool → Option (Int × Bool)} {j3 : Nat → Int → Int → Bool → Bool → Option (Int × Bool)}
    (h1 : ∀ k x0 x1 x6 x7, j1 (k + 1) x0 x1 x6 x7 = if x1 > 0 then (j2 k x0 (wrap64 (-x1)) x6 x7) else (j2 k x0 x1 x6 x7))
    (h2 : ∀ k x0 x1 x6 x7, j2 (k + 1) x0 x1 x6 x7 = if x1 = (-1) then (if x0 < x6 then (j3 k x0 x1 x7 true) else (if x1 < (-1) then (if x1 = 0 then (none) else (j3 k x0 x1 x7 (decide (x0 < (wrap64 (-(wrap64 (Int.tdiv x6 x1)))))))) else (j3 k x0 x1 x7 false))) else (if x1 < (-1) then (if x1 = 0 then (none) else (j3 k x0 x1 x7 (decide (x0 < (wrap64 (-(wrap64 (Int.tdiv x6 x1)))))))) else (j3 k x0 x1 x7 false)))
    (h3 : ∀ k x0 x1 x7 x47, j3 (k + 1) x0 x1 x7 x47 = if x47 = true then (some (0, false)) else (if x1 > (-9223372036854775808) then (if x7 = true then (some (wrap64 (x0 * (wrap64 (-x1))), true)) else (some (wrap64 (-(wrap64 (x0 * (wrap64 (-x1))))), true))) else (if x7 = true then (some (x1, true)) else (some (wrap64 (-x1), true)))))
    (A n P M : Int) (t : Bool) (hA : 1 ≤ A) (hn0 : n ≠ 0) (hn : inR n) (hP : A * n.natAbs = P) (hM : M = if t = true then 9223372036854775808 else 9223372036854775807) :
    Ev (fun k => j1 k (-A) n (-M) t) (if P ≤ M then ((if t = true then -P else P), true) else (0, false)) := by
  unfold inR at hn
  obtain ⟨B, hB⟩ : ∃ B : Int, (n.natAbs : Int) = B := ⟨_, rfl⟩
  rw [hB] at hP
  have hM2 : 9223372036854775807 ≤ M ∧ M ≤ 9223372036854775808 := by cases t <;> simp at hM <;> omega
  have last := times_last h3 A B P M t hA (by omega) (by omega) hP hM
  have core : Ev (fun k => j2 k (-A) (-B) (-M) t) (if P ≤ M then ((if t = true then -P else P), true) else (0, false)) := by
    apply Ev.succ
    simp only [h2]
    by_cases hB1 : B = 1
    · have hPA : P = A := by rw [← hP, hB1, Int.mul_one]
      refine Ev.pos (by omega) ?_
      by_cases ho : -A < -M
      · refine Ev.pos ho ?_
        have : decide (P > M) = true := decide_eq_true (by omega)
        rw [this] at last; exact last
      · refine Ev.neg ho (Ev.neg (by omega) ?_)
        have : decide (P > M) = false := decide_eq_false (by omega)
        rw [this] at last; exact last
    · refine Ev.neg (by omega) (Ev.pos (by omega) (Ev.neg (by omega) ?_))
      have hd : Int.tdiv (-M) (-B) = M / B := by
        rw [Int.neg_tdiv_neg, Int.tdiv_eq_ediv_of_nonneg (by omega)]
      have hq0 : 0 ≤ M / B := Int.ediv_nonneg (by omega) (by omega)
      have hq1 : M / B ≤ 9223372036854775807 := by
        have : M / B < M := Int.ediv_lt_self_of_pos_of_ne_one (by omega) (by omega)
        omega
      have hw : wrap64 (-(wrap64 (Int.tdiv (-M) (-B)))) = -(M / B) := by
        rw [hd, w64 (n := M / B) (by omega) (by omega), w64 (by omega) (by omega)]
      rw [hw]
      have : decide (-A < -(M / B)) = decide (P > M) := by
        rw [decide_eq_decide]
        have key : M / B < A ↔ M < A * B := Int.ediv_lt_iff_lt_mul (by omega)
        rw [hP] at key
        omega
      rw [this]; exact last
  apply Ev.succ
  simp only [h1]
  by_cases hp : n > 0
  · refine Ev.pos hp ?_
    rw [w64 (by omega) (by omega), show -n = -B by omega]
    exact core
  · refine Ev.neg hp ?_
    rw [show n = -B by omega]
    exact core
theorem refTimes_ev (m n : Int) (hm : inR m) (hn : inR n) : Ev (fun k => corollaryref01_Times.f k m n) (if inR (m * n) then (m * n, true) else (0, false)) := by
  unfold corollaryref01_Times.f
  by_cases hm0 : m = 0
  · subst hm0
    refine Ev.pos rfl (Ev.succ ?_)
    simp only [corollaryref01_Times.j0]
    rw [Int.zero_mul, if_pos (by unfold inR; omega)]
    exact Ev.pos trivial (Ev.pure _)
  · refine Ev.neg hm0 (Ev.succ ?_)
    simp only [corollaryref01_Times.j0]
    by_cases hn0 : n = 0
    · subst hn0
      rw [Int.mul_zero, if_pos (by unfold inR; omega)]
      exact Ev.pos (by decide) (Ev.pure _)
    · refine Ev.neg (by simpa using hn0) ?_
      obtain ⟨A, hA⟩ : ∃ A : Int, (m.natAbs : Int) = A := ⟨_, rfl⟩
      obtain ⟨B, hB⟩ : ∃ B : Int, (n.natAbs : Int) = B := ⟨_, rfl⟩
      obtain ⟨P, hP⟩ : ∃ P : Int, A * n.natAbs = P := ⟨_, rfl⟩
      have hP' : A * B = P := by rw [← hB]; exact hP
      unfold inR at hm hn
      have hP1 : 1 ≤ P := by rw [← hP']; exact Int.mul_pos (by omega) (by omega)
      by_cases hnn : n < 0
      · refine Ev.pos hnn ?_
        by_cases hmn : m < 0
        · have hmul : m * n = P := by rw [show m = -A by omega, show n = -B by omega, Int.neg_mul_neg, hP']
          have key := times_core (j1 := corollaryref01_Times.j1) (fun _ _ _ _ _ => rfl) (fun _ _ _ _ _ => rfl) (fun _ _ _ _ _ => rfl) A n P 9223372036854775807 false (by omega) hn0 hn hP rfl
          refine Ev.pos hmn (Ev.neg (by omega) ?_)
          rw [hmul, show m = -A by omega]
          have e : (if inR P then (P, true) else (0, false)) = (if P ≤ 9223372036854775807 then ((if false = true then -P else P), true) else (0, false)) := by
            unfold inR
            by_cases h : P ≤ 9223372036854775807
            · rw [if_pos h, if_pos (by omega)]; rfl
            · rw [if_neg h, if_neg (by omega)]
          rw [e]; exact key
        · have hmul : m * n = -P := by rw [show m = A by omega, show n = -B by omega, Int.mul_neg, hP']
          have key := times_core (j1 := corollaryref01_Times.j4) (fun _ _ _ _ _ => rfl) (fun _ _ _ _ _ => rfl) (fun _ _ _ _ _ => rfl) A n P 9223372036854775808 true (by omega) hn0 hn hP rfl
          refine Ev.neg hmn (Ev.pos (by omega) ?_)
          rw [hmul, w64 (by omega) (by omega), show -m = -A by omega]
          have e : (if inR (-P) then (-P, true) else (0, false)) = (if P ≤ 9223372036854775808 then ((if true = true then -P else P), true) else (0, false)) := by
            unfold inR
            by_cases h : P ≤ 9223372036854775808
            · rw [if_pos h, if_pos (by omega)]; rfl
            · rw [if_neg h, if_neg (by omega)]
          rw [e]; exact key
      · refine Ev.neg hnn ?_
        by_cases hmn : m < 0
        · have hmul : m * n = -P := by rw [show m = -A by omega, show n = B by omega, Int.neg_mul, hP']
          have key := times_core (j1 := corollaryref01_Times.j7) (fun _ _ _ _ _ => rfl) (fun _ _ _ _ _ => rfl) (fun _ _ _ _ _ => rfl) A n P 9223372036854775808 true (by omega) hn0 hn hP rfl
          refine Ev.pos hmn (Ev.neg (by omega) ?_)
          rw [hmul, show m = -A by omega]
          have e : (if inR (-P) then (-P, true) else (0, false)) = (if P ≤ 9223372036854775808 then ((if true = true then -P else P), true) else (0, false)) := by
            unfold inR
            by_cases h : P ≤ 9223372036854775808
            · rw [if_pos h, if_pos (by omega)]; rfl
            · rw [if_neg h, if_neg (by omega)]
          rw [e]; exact key
        · have hmul : m * n = P := by rw [show m = A by omega, show n = B by omega, hP']
          have key := times_core (j1 := corollaryref01_Times.j10) (fun _ _ _ _ _ => rfl) (fun _ _ _ _ _ => rfl) (fun _ _ _ _ _ => rfl) A n P 9223372036854775807 false (by omega) hn0 hn hP rfl
          refine Ev.neg hmn (Ev.pos (by omega) ?_)
          rw [hmul, w64 (by omega) (by omega), show -m = -A by omega]
          have e : (if inR P then (P, true) else (0, false)) = (if P ≤ 9223372036854775807 then ((if false = true then -P else P), true) else (0, false)) := by
            unfold inR
            by_cases h : P ≤ 9223372036854775807
            · rw [if_pos h, if_pos (by omega)]; rfl
            · rw [if_neg h, if_neg (by omega)]
          rw [e]; exact key
end Go.Proofs.YtjcjndpfihchnaaDoor.Pure
