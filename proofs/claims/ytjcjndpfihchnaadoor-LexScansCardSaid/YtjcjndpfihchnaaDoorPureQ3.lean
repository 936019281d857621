-- Plain laws of the printed functions (wip/l11).
import Derived.Test.YtjcjndpfihchnaaDoorPureQ2
import Derived.Test.YtjcjndpfihchnaaDoorPureN
import Derived.Test.YtjcjndpfihchnaaDoorPx45
import Derived.Test.YtjcjndpfihchnaaDoorPx39
namespace Go.Proofs.YtjcjndpfihchnaaDoor.Pure
open Go.ChangeShapes Go.WideShapes Go.ChangeAt Go.RowKit Go.Proofs.YtjcjndpfihchnaaDoorW.PrintWords Go.Proofs.YtjcjndpfihchnaaDoorW.PrintLast Go.Proofs.YtjcjndpfihchnaaDoor.P Go.Proofs.YtjcjndpfihchnaaDoor.Open
set_option linter.unusedVariables false
set_option linter.unusedSimpArgs false
/-! One token: what the document tells. -/
def clsL : List UInt8 → Int
  | [] => 0
  | c :: _ => if ltr c = true then 1 else if dig c = true then 2 else if c.toNat = 95 then 3 else 0
theorem clsL_cons (c : UInt8) (l : List UInt8) : clsL (c :: l) = if ltr c = true then 1 else if dig c = true then 2 else if c.toNat = 95 then 3 else 0 := rfl
theorem class_ev (s : ByteArray) (j : Nat) (l : List UInt8) (h : (L s).drop j = l) : Ev (fun k => corollaryref11_class.f k s (j : Int)) (clsL l) := by
  unfold corollaryref11_class.f
  cases l with
  | nil =>
    have := ge_of_nil h
    exact Ev.pos (by omega) (Ev.pure _)
  | cons c l =>
    obtain ⟨hb, hj, _⟩ := bt_list h
    refine Ev.neg (by omega) (Ev.pos (by omega) (Ev.pos (by omega) ?_))
    rw [hb]
    have tail : ltr c ≠ true → Ev (fun k => corollaryref11_class.j0 k (c.toNat : Int) false) (clsL (c :: l)) := by
      intro hl
      have hcl : clsL (c :: l) = if dig c = true then 2 else if c.toNat = 95 then 3 else 0 := by rw [clsL_cons, if_neg hl]
      rw [hcl]
      have hdg : dig c = (decide (48 ≤ c.toNat) && decide (c.toNat ≤ 57)) := rfl
      apply Ev.succ
      simp only [corollaryref11_class.j0]
      refine Ev.neg (by decide) ?_
      have t2 : dig c ≠ true → Ev (fun k => corollaryref11_class.j1 k (c.toNat : Int) false) (if dig c = true then 2 else if c.toNat = 95 then 3 else 0) := by
        intro hd
        rw [if_neg hd]
        apply Ev.succ
        simp only [corollaryref11_class.j1]
        refine Ev.neg (by decide) ?_
        by_cases h95 : c.toNat = 95
        · rw [if_pos h95]; exact Ev.pos (by omega) (Ev.pure _)
        · rw [if_neg h95]; exact Ev.neg (by omega) (Ev.pure _)
      by_cases h48 : 48 ≤ c.toNat
      · refine Ev.pos (by omega) ?_
        by_cases h57 : c.toNat ≤ 57
        · have hd : dig c = true := by rw [hdg]; simp [h48, h57]
          rw [if_pos hd, decide_eq_true (show (c.toNat : Int) ≤ 57 by omega)]
          apply Ev.succ
          simp only [corollaryref11_class.j1]
          exact Ev.pos trivial (Ev.pure _)
        · rw [decide_eq_false (show ¬ (c.toNat : Int) ≤ 57 by omega)]
          exact t2 (by rw [hdg]; simp [h57])
      · refine Ev.neg (by omega) ?_
        exact t2 (by rw [hdg]; simp [h48])
    have hlt : ltr c = (decide (97 ≤ c.toNat) && decide (c.toNat ≤ 122)) := rfl
    by_cases h97 : 97 ≤ c.toNat
    · refine Ev.pos (by omega) ?_
      by_cases h122 : c.toNat ≤ 122
      · have hl : ltr c = true := by rw [hlt]; simp [h97, h122]
        rw [decide_eq_true (show (c.toNat : Int) ≤ 122 by omega)]
        apply Ev.succ
        simp only [corollaryref11_class.j0, clsL]
        rw [if_pos hl]
        exact Ev.pos trivial (Ev.pure _)
      · rw [decide_eq_false (show ¬ (c.toNat : Int) ≤ 122 by omega)]
        exact tail (by rw [hlt]; simp [h122])
    · refine Ev.neg (by omega) ?_
      exact tail (by rw [hlt]; simp [h97])
theorem wordc_cls (c : UInt8) (l : List UInt8) : wordc true c = decide (clsL (c :: l) > 0) := by
  unfold wordc
  rw [clsL_cons]
  by_cases h1 : ltr c = true
  · simp [h1]
  · by_cases h2 : dig c = true
    · simp [h1, h2]
    · by_cases h3 : c.toNat = 95
      · simp [h1, h2, h3]
      · simp [h1, h2, h3]
theorem ltr_dig {c : UInt8} (h : dig c = true) : ltr c = false := by
  have := dig_rng h
  unfold ltr
  simp; omega
theorem ext_one {s : ByteArray} {j : Nat} {c : UInt8} {l : List UInt8} (h : (L s).drop j = c :: l) : s.extract j (j + 1) = ⟨([c] : List UInt8).toArray⟩ := by
  rw [ext_take s j 1, h]; rfl
theorem word_ev (s : ByteArray) (hz : s.size ≤ 1000000) : ∀ (l : List UInt8) (j : Nat) (acc : List UInt8), (L s).drop j = l → acc.length ≤ 1000000 →
    acc.length ≤ j → Ev (fun k => corollaryref11_one.l2 k s (j : Int) 1 0 ⟨acc.toArray⟩) (1, 0, ⟨(acc ++ l.takeWhile (wordc true)).toArray⟩, (j : Int) + ((l.takeWhile (wordc true)).length : Int), 0)
  | [], j, acc, h, ha, _ => by
    apply Ev.succ
    simp only [corollaryref11_one.l2]
    refine Ev.bind (class_ev s j [] h) (Ev.neg (by decide) ?_)
    simp
    exact Ev.pure _
  | c :: l, j, acc, h, ha, haj => by
    obtain ⟨hb, hj, hd⟩ := bt_list h
    apply Ev.succ
    simp only [corollaryref11_one.l2]
    refine Ev.bind (class_ev s j _ h) ?_
    have hw := wordc_cls c l
    by_cases hc : clsL (c :: l) > 0
    · rw [decide_eq_true hc] at hw
      rw [List.takeWhile_cons, if_pos hw, inc64 (by omega)]
      refine Ev.pos hc (Ev.pos (by omega) (Ev.pos (by omega) (Ev.pos (by omega) ?_)))
      rw [Int.toNat_natCast, Int.toNat_natCast, ext_one h, ba_size, ba_size, ba_append]
      refine Ev.pos (by simp; omega) ?_
      have ih := word_ev s hz l (j + 1) (acc ++ [c]) hd (by simp; omega) (by simp; omega)
      have e1 : acc ++ [c] ++ l.takeWhile (wordc true) = acc ++ c :: l.takeWhile (wordc true) := by simp
      have e2 : (((j + 1 : Nat) : Int) + ((l.takeWhile (wordc true)).length : Int)) = (j : Int) + (((c :: l.takeWhile (wordc true)).length : Nat) : Int) := by simp; omega
      rw [e1, e2] at ih
      exact ih
    · rw [decide_eq_false hc] at hw
      rw [List.takeWhile_cons, if_neg (by simp [hw])]
      refine Ev.neg hc ?_
      simp
      exact Ev.pure _
theorem num_over (s : ByteArray) (hz : s.size ≤ 1000000) : ∀ (l : List UInt8) (j : Nat) (a : Int), (L s).drop j = l → 0 ≤ a → a ≤ 9223372036854775807 →
    Ev (fun k => corollaryref11_one.l3 k s (j : Int) true 2 a (⟨#[]⟩ : ByteArray)) (0, 0, (⟨#[]⟩ : ByteArray), 0, 14)
  | [], j, a, h, _, _ => by
    apply Ev.succ
    simp only [corollaryref11_one.l3]
    refine Ev.bind (class_ev s j [] h) (Ev.neg (by decide) (Ev.pos trivial (Ev.pure _)))
  | c :: l, j, a, h, h0, h1 => by
    obtain ⟨hb, hj, hd⟩ := bt_list h
    apply Ev.succ
    simp only [corollaryref11_one.l3]
    refine Ev.bind (class_ev s j _ h) ?_
    by_cases hc : clsL (c :: l) = 2
    · refine Ev.pos hc (Ev.pos (by omega) (Ev.pos (by omega) ?_))
      have ht := refTimes_ev a 10 ⟨by omega, by omega⟩ ⟨by omega, by omega⟩
      refine Ev.bind ht ?_
      rw [hb]
      have hcr := c.toNat_lt
      have hdm : 0 ≤ ((c.toNat : Int) - 48) % 256 ∧ ((c.toNat : Int) - 48) % 256 ≤ 255 := by omega
      rw [inc64 (by omega)]
      by_cases hr : inR (a * 10)
      · rw [if_pos hr]
        simp only
        rw [refSum_eq _ _ hr ⟨by omega, by omega⟩]
        simp only [Option.bind_some]
        refine Ev.pos trivial ?_
        by_cases hr2 : inR (a * 10 + ((c.toNat : Int) - 48) % 256)
        · rw [if_pos hr2]
          exact num_over s hz l (j + 1) _ hd (by simp only; omega) hr2.2
        · rw [if_neg hr2]
          exact num_over s hz l (j + 1) _ hd (by decide) (by decide)
      · rw [if_neg hr]
        simp only
        rw [refSum_eq _ _ ⟨by omega, by omega⟩ ⟨by omega, by omega⟩]
        simp only [Option.bind_some]
        refine Ev.pos trivial ?_
        rw [if_pos (by unfold inR; omega)]
        exact num_over s hz l (j + 1) _ hd (by simp only; omega) (by simp only; omega)
    · exact Ev.neg hc (Ev.pos trivial (Ev.pure _))
theorem num_ev (s : ByteArray) (hz : s.size ≤ 1000000) : ∀ (l : List UInt8) (j : Nat) (a : Int), (L s).drop j = l → 0 ≤ a → a ≤ 9223372036854775807 →
    Ev (fun k => corollaryref11_one.l3 k s (j : Int) false 2 a (⟨#[]⟩ : ByteArray)) (match numGo (l.takeWhile dig) a with | none => (0, 0, (⟨#[]⟩ : ByteArray), 0, 14) | some v => (2, v, (⟨#[]⟩ : ByteArray), (j : Int) + ((l.takeWhile dig).length : Int), 0))
  | [], j, a, h, _, _ => by
    apply Ev.succ
    simp only [corollaryref11_one.l3]
    refine Ev.bind (class_ev s j [] h) (Ev.neg (by decide) (Ev.neg (by decide) ?_))
    simp [numGo]
    exact Ev.pure _
  | c :: l, j, a, h, h0, h1 => by
    obtain ⟨hb, hj, hd⟩ := bt_list h
    apply Ev.succ
    simp only [corollaryref11_one.l3]
    refine Ev.bind (class_ev s j _ h) ?_
    by_cases hdg : dig c = true
    · have hcls : clsL (c :: l) = 2 := by rw [clsL_cons, ltr_dig hdg, if_neg (by decide), if_pos hdg]
      have hcr := dig_rng hdg
      refine Ev.pos hcls (Ev.pos (by omega) (Ev.pos (by omega) ?_))
      have ht := refTimes_ev a 10 ⟨by omega, by omega⟩ ⟨by omega, by omega⟩
      refine Ev.bind ht ?_
      rw [hb, List.takeWhile_cons, if_pos hdg, show ((c.toNat : Int) - 48) % 256 = (c.toNat : Int) - 48 by omega, inc64 (by omega)]
      simp only [numGo]
      by_cases ho : 10 * a + ((c.toNat : Int) - 48) > 9223372036854775807
      · rw [if_pos ho]
        by_cases hr : inR (a * 10)
        · rw [if_pos hr]
          simp only
          rw [refSum_eq _ _ hr ⟨by omega, by omega⟩]
          simp only [Option.bind_some]
          refine Ev.neg (by decide) (Ev.pos trivial ?_)
          rw [if_neg (by unfold inR; omega)]
          exact num_over s hz l (j + 1) 0 hd (by omega) (by omega)
        · rw [if_neg hr]
          simp only
          rw [refSum_eq _ _ ⟨by omega, by omega⟩ ⟨by omega, by omega⟩]
          simp only [Option.bind_some]
          refine Ev.neg (by decide) (Ev.neg (by decide) ?_)
          rw [if_pos (by unfold inR; omega)]
          exact num_over s hz l (j + 1) _ hd (by simp only; omega) (by simp only; omega)
      · rw [if_neg ho]
        have hr : inR (a * 10) := ⟨by omega, by omega⟩
        rw [if_pos hr]
        simp only
        rw [refSum_eq _ _ hr ⟨by omega, by omega⟩]
        simp only [Option.bind_some]
        refine Ev.neg (by decide) (Ev.pos trivial ?_)
        have hr2 : inR (a * 10 + ((c.toNat : Int) - 48)) := ⟨by omega, by omega⟩
        rw [if_pos hr2]
        have ih := num_ev s hz l (j + 1) (10 * a + ((c.toNat : Int) - 48)) hd (by omega) (by omega)
        have e : a * 10 + ((c.toNat : Int) - 48) = 10 * a + ((c.toNat : Int) - 48) := by omega
        rw [e]
        cases hq : numGo (l.takeWhile dig) (10 * a + ((c.toNat : Int) - 48)) with
        | none => rw [hq] at ih; exact ih
        | some v =>
          rw [hq] at ih
          have e2 : (((j + 1 : Nat) : Int) + ((l.takeWhile dig).length : Int)) = (j : Int) + (((c :: l.takeWhile dig).length : Nat) : Int) := by simp; omega
          simp only [e2] at ih
          exact ih
    · have hcls : ¬ clsL (c :: l) = 2 := by
        rw [clsL_cons, if_neg hdg]
        split
        · decide
        · split <;> decide
      refine Ev.neg hcls (Ev.neg (by decide) ?_)
      rw [List.takeWhile_cons, if_neg hdg]
      simp [numGo]
      exact Ev.pure _
end Go.Proofs.YtjcjndpfihchnaaDoor.Pure
