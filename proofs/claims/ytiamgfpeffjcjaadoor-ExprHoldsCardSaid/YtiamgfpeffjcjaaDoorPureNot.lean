-- Plain laws of the printed functions (wip/l10).
import Derived.Test.YtiamgfpeffjcjaaDoorPure
namespace Go.Proofs.YtiamgfpeffjcjaaDoor.Pure
open Go.ChangeShapes Go.WideShapes Go.ChangeAt Go.RowKit Go.Proofs.YtiamgfpeffjcjaaDoorW.PrintWords Go.Proofs.YtiamgfpeffjcjaaDoorW.PrintLast Go.Proofs.YtiamgfpeffjcjaaDoor.P Go.Proofs.YtiamgfpeffjcjaaDoor.Open
set_option linter.unusedVariables false
set_option linter.unusedSimpArgs false
/-! ExprHolds -/
def notI : S39 := ⟨15, 0, ⟨0, 0, ⟨#[]⟩⟩⟩
def notS (v : S31) : S31 × Int := if v.f0 = 1 then (tv (v.f1 == 0), 0) else if v.f0 = 0 then (zv, 0) else (zv, 10)
theorem not_do (v : S31) : (if fitsS 15 v.f0 v.f0 = true then (if (doS 15 v v).2 = 0 then ((doS 15 v v).1, (0 : Int)) else (zv, (doS 15 v v).2)) else (zv, 10)) = notS v := by
  unfold notS
  by_cases h1 : v.f0 = 1
  · simp [fitsS, asksS, doS, h1]
  · by_cases h0 : v.f0 = 0
    · simp [fitsS, asksS, doS, h0]
    · simp [fitsS, asksS, h1, h0]
theorem evalS_not (row : List S31) (n : Int) : ∀ (is : List S39) (st : List S31), formedS n is (st.length : Int) = some 1 →
    evalS row (is ++ [notI]) st = if (evalS row is st).2 = 0 then notS (evalS row is st).1 else evalS row is st
  | [], st, h => by
    simp only [formedS, Option.some.injEq] at h
    have hl : st.length = 1 := by omega
    obtain ⟨v, rfl⟩ := List.length_eq_one_iff.mp hl
    simp only [List.nil_append, evalS]
    rw [if_pos trivial]
    have t15 : takesS 15 = 1 := by decide
    have g0 : rd_T31 [v] 0 = v := rfl
    simp only [notI, t15]
    rw [if_neg (by decide), if_neg (by decide)]
    simp only [List.length_singleton]
    rw [show ((1 : Nat) : Int) - 1 = 0 from rfl, g0, ← not_do v]
    rfl
  | i :: is, st, h => by
    simp only [formedS] at h
    have hb : ¬ badI n i = true := by intro hb; rw [if_pos hb] at h; cases h
    rw [if_neg hb] at h
    have ht : ¬ (st.length : Int) < takesS i.f0 := by intro ht; rw [if_pos ht] at h; cases h
    rw [if_neg ht] at h
    simp only [List.cons_append, evalS]
    by_cases h1 : i.f0 = 1
    · simp only [if_pos h1]
      have ht1 : takesS i.f0 = 0 := by simp [takesS, h1]
      exact evalS_not row n is _ (by rw [← h, ht1]; simp)
    · simp only [if_neg h1]
      by_cases h2 : i.f0 = 2
      · simp only [if_pos h2]
        have ht1 : takesS i.f0 = 0 := by simp [takesS, h2]
        exact evalS_not row n is _ (by rw [← h, ht1]; simp)
      · simp only [if_neg h2]
        have tr := takes_range i.f0
        have tp := takes_pos i.f0 h1 h2
        by_cases hfit : fitsS i.f0 (rd_T31 st ((st.length : Int) - takesS i.f0)).f0 (rd_T31 st ((st.length : Int) - 1)).f0 = true
        · simp only [if_pos hfit]
          by_cases hz : (doS i.f0 (rd_T31 st ((st.length : Int) - takesS i.f0)) (rd_T31 st ((st.length : Int) - 1))).2 = 0
          · simp only [if_pos hz]
            have hlen : (st.take ((st.length : Int) - takesS i.f0).toNat).length = st.length - (takesS i.f0).toNat := by rw [List.length_take]; omega
            exact evalS_not row n is _ (by rw [← h, List.length_append, hlen]; congr 1; simp; omega)
          · simp only [if_neg hz]
        · simp only [if_neg hfit]
          rw [if_neg (by decide)]
theorem formedS_not (n : Int) : ∀ (is : List S39) (d : Int), formedS n (is ++ [notI]) d = (match formedS n is d with | none => none | some e => if e < 1 then none else some e)
  | [], d => by
    simp only [List.nil_append, formedS]
    rw [if_neg (by simp [badI, notI]), show takesS notI.f0 = 1 from by decide]
    split
    · rfl
    · simp
  | i :: is, d => by
    simp only [List.cons_append, formedS]
    split
    · rfl
    · split
      · rfl
      · exact formedS_not n is _
theorem formedB_not (n : Int) (code : List S39) (h : (code.length : Int) ≤ 30) : formedB n (code ++ [notI]) = formedB n code := by
  unfold formedB
  rw [formedS_not]
  cases hS : formedS n code 0 with
  | none => rfl
  | some d =>
    have e1 : decide (((code ++ [notI]).length : Int) ≤ 32) = true := decide_eq_true (by simp; omega)
    have e2 : decide ((code.length : Int) ≤ 32) = true := decide_eq_true (by omega)
    simp only [e1, e2, Bool.and_true]
    by_cases h1 : d < 1
    · rw [if_pos h1]
      exact (decide_eq_false (by omega)).symm
    · rw [if_neg h1]
theorem evalTop_not (code : List S39) (row : List S31) (h : (code.length : Int) ≤ 30) : evalTop (code ++ [notI]) row = if (evalTop code row).2 = 0 then notS (evalTop code row).1 else evalTop code row := by
  unfold evalTop
  rw [formedB_not _ _ h]
  by_cases hc : (row.all vR && formedB (row.length : Int) code) = true
  · rw [if_pos hc, if_pos hc]
    exact evalS_not row row.length code [] (formedB_some (Bool.and_eq_true_iff.mp hc).2).1
  · rw [if_neg hc, if_neg hc]
    rfl
end Go.Proofs.YtiamgfpeffjcjaaDoor.Pure
