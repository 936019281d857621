-- Plain laws of the printed functions (wip/l10).
import Derived.Test.YtiamgfpeffjcjaaDoorPure
import Derived.Test.YtiamgfpeffjcjaaDoorStatExprLaws
namespace Go.Proofs.YtiamgfpeffjcjaaDoor.Pure
open Go.ChangeShapes Go.WideShapes Go.ChangeAt Go.RowKit Go.Proofs.YtiamgfpeffjcjaaDoorW.PrintWords Go.Proofs.YtiamgfpeffjcjaaDoorW.PrintLast Go.Proofs.YtiamgfpeffjcjaaDoor.P Go.Proofs.YtiamgfpeffjcjaaDoor.Open
set_option linter.unusedVariables false
set_option linter.unusedSimpArgs false
/-! ExprLaws -/
theorem truth10_eq (a : Int) (h : 0 ≤ a) : corollarylaw10_truth.f a = some (if a % 3 = 2 then (0, 0, ⟨#[]⟩) else (1, a % 3, ⟨#[]⟩)) := by
  unfold corollarylaw10_truth.f
  have e : Int.tmod a 3 = a % 3 := by rw [Int.tmod_eq_emod_of_nonneg h]
  rw [e]
  by_cases h2 : a % 3 = 2
  · simp [h2]
  · rw [if_neg h2, if_neg h2, w64 (by omega) (by omega)]
def code1 : List S39 := [⟨1, 0, ⟨0, 0, ⟨#[]⟩⟩⟩, ⟨1, 1, ⟨0, 0, ⟨#[]⟩⟩⟩, ⟨13, 0, ⟨0, 0, ⟨#[]⟩⟩⟩, ⟨15, 0, ⟨0, 0, ⟨#[]⟩⟩⟩]
def code2 : List S39 := [⟨1, 0, ⟨0, 0, ⟨#[]⟩⟩⟩, ⟨15, 0, ⟨0, 0, ⟨#[]⟩⟩⟩, ⟨1, 1, ⟨0, 0, ⟨#[]⟩⟩⟩, ⟨15, 0, ⟨0, 0, ⟨#[]⟩⟩⟩, ⟨14, 0, ⟨0, 0, ⟨#[]⟩⟩⟩]
theorem morgan : ∀ a ∈ [zv, tv false, tv true], ∀ b ∈ [zv, tv false, tv true], evalTop code1 [a, b] = evalTop code2 [a, b] ∧ (evalTop code1 [a, b]).2 = 0 := by
  decide +kernel
theorem three (a : Int) (h : 0 ≤ a) : ∃ v ∈ [zv, tv false, tv true], corollarylaw10_truth.f a = some (v.f0, v.f1, v.f2) := by
  rw [truth10_eq a h]
  have : a % 3 = 0 ∨ a % 3 = 1 ∨ a % 3 = 2 := by omega
  rcases this with e | e | e
  · exact ⟨tv false, by simp, by rw [e]; rfl⟩
  · exact ⟨tv true, by simp, by rw [e]; rfl⟩
  · exact ⟨zv, by simp, by rw [e]; rfl⟩
theorem ExprLaws_pure : Stat.ExprLaws := by
  intro a b ha hb
  have ha := (bounds_u8 ha).1
  have hb := (bounds_u8 hb).1
  apply Ev.get
  obtain ⟨x, hx, ex⟩ := three a ha
  obtain ⟨y, hy, ey⟩ := three b hb
  unfold corollarylaw10_ExprLaws.f
  rw [ex, ey]
  simp only [Option.bind_some]
  have m := morgan x hx y hy
  refine Ev.bind (Eval_ev code1 [x, y] (by decide) (by simp)) ?_
  refine Ev.bind (Eval_ev code2 [x, y] (by decide) (by simp)) ?_
  rw [← m.1]
  refine Ev.pos ((same_eq (evalTop code1 [x, y]).1 (evalTop code1 [x, y]).1).trans (decide_eq_true rfl)) ?_
  refine Ev.pos m.2 (Ev.pos m.2 ?_)
  exact Ev.bind awake_ev (Ev.pure _)
end Go.Proofs.YtiamgfpeffjcjaaDoor.Pure
