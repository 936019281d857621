-- Plain laws of the printed functions (wip/l10).
import Derived.Test.YtiamgfpeffjcjaaDoorPureNot
import Derived.Test.YtiamgfpeffjcjaaDoorStatExprHolds
namespace Go.Proofs.YtiamgfpeffjcjaaDoor.Pure
open Go.ChangeShapes Go.WideShapes Go.ChangeAt Go.RowKit Go.Proofs.YtiamgfpeffjcjaaDoorW.PrintWords Go.Proofs.YtiamgfpeffjcjaaDoorW.PrintLast Go.Proofs.YtiamgfpeffjcjaaDoor.P Go.Proofs.YtiamgfpeffjcjaaDoor.Open
set_option linter.unusedVariables false
set_option linter.unusedSimpArgs false
def holdsS (code : List S39) (row : List S31) : Bool × Int := (decide ((evalTop code row).1 = tv true), (evalTop code row).2)
theorem Holds_ev (code : List S39) (row : List S31) (h0 : code ≠ []) (hc : (code.length : Int) ≤ 9223372036854775807) (hrow : (row.length : Int) ≤ 9223372036854775807) : Ev (fun k => expr_Holds.f k code row) (holdsS code row) := by
  unfold expr_Holds.f
  apply Ev.neg (by cases code with | nil => exact absurd rfl h0 | cons _ _ => simp; omega)
  refine Ev.bind (Eval_ev code row hc hrow) ?_
  rw [truth_eq]
  simp only [Option.bind_some]
  apply Ev.of
  have := same_eq (evalTop code row).1 (tv true)
  simp only [out, holdsS]
  rw [← this]
theorem tv_inj : tv false ≠ tv true := by decide
theorem ExprHolds_pure : Stat.ExprHolds := by
  intro code row hc hr
  have hc := hc.1
  have hr := hr.1
  unfold maxLen at hc hr
  apply Ev.get
  unfold corollarylaw10_ExprHolds.f
  by_cases h1 : (code.length : Int) > 30
  · apply Ev.pos h1
    apply Ev.succ
    simp only [corollarylaw10_ExprHolds.j0]
    exact Ev.pos trivial (Ev.bind awake_ev (Ev.pure _))
  · apply Ev.neg h1
    by_cases h2 : (row.length : Int) > 40
    · apply Ev.pos h2
      apply Ev.succ
      simp only [corollarylaw10_ExprHolds.j0]
      exact Ev.pos trivial (Ev.bind awake_ev (Ev.pure _))
    · apply Ev.neg h2
      apply Ev.succ
      simp only [corollarylaw10_ExprHolds.j0]
      by_cases h3 : code = []
      · apply Ev.pos (by simp [h3])
        exact Ev.bind awake_ev (Ev.pure _)
      · apply Ev.neg (by cases code with | nil => exact absurd rfl h3 | cons _ _ => simp; omega)
        refine Ev.bind (Holds_ev code row h3 (by omega) (by omega)) ?_
        apply Ev.pos (by simp; omega)
        simp only [List.nil_append, Option.bind_some]
        apply Ev.pos (by omega)
        refine Ev.bind (Holds_ev (code ++ [notI]) row (by simp) (by simp; omega) (by omega)) ?_
        have hn := evalTop_not code row (by omega)
        -- the join
        have jq : Ev (fun k => corollarylaw10_ExprHolds.j1 k code row (holdsS code row).1 (holdsS (code ++ [notI]) row).1 (decide ((holdsS code row).2 ≠ 0 ∨ (holdsS (code ++ [notI]) row).2 ≠ 0))) true := by
          apply Ev.succ
          simp only [corollarylaw10_ExprHolds.j1]
          by_cases he : (holdsS code row).2 ≠ 0 ∨ (holdsS (code ++ [notI]) row).2 ≠ 0
          · apply Ev.pos (decide_eq_true he)
            by_cases ha : (holdsS code row).1 = true
            · apply Ev.pos ha
              have hv : (evalTop code row).1 = tv true := of_decide_eq_true ha
              have hb : ¬ (holdsS (code ++ [notI]) row).1 = true := by
                intro hb
                have hb : (evalTop (code ++ [notI]) row).1 = tv true := of_decide_eq_true hb
                by_cases h0 : (evalTop code row).2 = 0
                · rw [if_pos h0, hv] at hn
                  rw [hn] at hb
                  exact absurd hb (by decide)
                · have := evalTop_bad code row h0
                  rw [hv] at this
                  exact absurd this (by decide)
              exact Ev.neg hb (Ev.bind awake_ev (Ev.pure _))
            · exact Ev.neg ha (Ev.bind awake_ev (Ev.pure _))
          · apply Ev.neg (by simpa using he)
            have h0 : (evalTop code row).2 = 0 := by
              have := not_or.mp he
              exact Decidable.not_not.mp this.1
            have h0' : (evalTop (code ++ [notI]) row).2 = 0 := by
              have := not_or.mp he
              exact Decidable.not_not.mp this.2
            rw [if_pos h0] at hn
            refine Ev.bind (Eval_ev code row (by omega) (by omega)) ?_
            have hR := evalTop_right code row
            have hA : (holdsS code row).1 = decide ((evalTop code row).1 = tv true) := rfl
            have hB : (holdsS (code ++ [notI]) row).1 = decide ((notS (evalTop code row).1).1 = tv true) := by rw [← hn]; rfl
            have h0' : (notS (evalTop code row).1).2 = 0 := by rw [← hn]; exact h0'
            have last : Ev (fun k => if (out (evalTop code row)).2.2.2 = 0 then (corollarylaw10_awake.f k).bind fun t => some t else some false) true := Ev.pos h0 (Ev.bind awake_ev (Ev.pure _))
            by_cases k1 : (evalTop code row).1.f0 = 1
            · have hs : (evalTop code row).1 = tv true ∨ (evalTop code row).1 = tv false := by
                revert hR k1
                generalize (evalTop code row).1 = v
                intro hR k1
                unfold vR at hR
                rw [if_neg (by omega), if_pos k1, str_nil] at hR
                simp at hR
                obtain ⟨hR1, hR2⟩ := hR
                cases v
                simp only at k1 hR1 hR2
                subst k1 hR2
                rcases hR1 with rfl | rfl
                · right; rfl
                · left; rfl
              have k1' : (out (evalTop code row)).1 = 1 := k1
              rcases hs with hs | hs
              · rw [hs] at hA hB
                exact Ev.pos hA (Ev.neg (by rw [hB]; decide) (Ev.pos (by rw [k1']; rfl) last))
              · rw [hs] at hA hB
                exact Ev.neg (by rw [hA]; decide) (Ev.pos (by rw [hB]; decide) (Ev.pos k1 last))
            · have k0 : (evalTop code row).1.f0 = 0 := by
                unfold notS at h0'
                rw [if_neg k1] at h0'
                by_cases k0 : (evalTop code row).1.f0 = 0
                · exact k0
                · rw [if_neg k0] at h0'
                  exact absurd h0' (by decide)
              have hne : ¬ (evalTop code row).1 = tv true := by intro e; rw [e] at k0; exact absurd k0 (by decide)
              have e2 : notS (evalTop code row).1 = (zv, 0) := by unfold notS; rw [if_neg k1, if_pos k0]
              rw [e2] at hB
              exact Ev.neg (by rw [hA]; simpa using hne) (Ev.neg (by rw [hB]; decide) (Ev.neg k1 last))
        by_cases he : (holdsS code row).2 = 0
        · apply Ev.pos he
          rw [show decide ((holdsS code row).2 ≠ 0 ∨ (holdsS (code ++ [notI]) row).2 ≠ 0) = ((holdsS (code ++ [notI]) row).2 != 0) by rw [Bool.eq_iff_iff]; simp [he]] at jq
          exact jq
        · apply Ev.neg he
          rw [show decide ((holdsS code row).2 ≠ 0 ∨ (holdsS (code ++ [notI]) row).2 ≠ 0) = true by simp [he]] at jq
          exact jq
end Go.Proofs.YtiamgfpeffjcjaaDoor.Pure
