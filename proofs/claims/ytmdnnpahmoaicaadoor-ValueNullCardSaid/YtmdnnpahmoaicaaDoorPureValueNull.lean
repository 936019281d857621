-- Plain laws of the printed functions (wip/l01).
import Derived.Test.YtmdnnpahmoaicaaDoorPure
import Derived.Test.YtmdnnpahmoaicaaDoorStatValueNull
namespace Go.Proofs.YtmdnnpahmoaicaaDoor.Pure
open Go.ChangeShapes Go.WideShapes Go.ChangeAt Go.RowKit Go.Proofs.YtmdnnpahmoaicaaDoorW.PrintWords Go.Proofs.YtmdnnpahmoaicaaDoorW.PrintLast Go.Proofs.YtmdnnpahmoaicaaDoor.P Go.Proofs.YtmdnnpahmoaicaaDoor.Open
set_option linter.unusedVariables false
set_option linter.unusedSimpArgs false
/-! ValueNull -/
theorem ValueNull_pure : Stat.ValueNull := by
  intro a0 a1 a2 h
  apply Ev.get
  unfold corollarylaw01_ValueNull.f
  refine Ev.bind (add_ev ⟨a0, a1, a2⟩ zv) ?_
  refine Ev.bind (mul_ev zv ⟨a0, a1, a2⟩) ?_
  rw [show value_Right.f a0 a1 a2 = some (vR ⟨a0, a1, a2⟩) from right_eq ⟨a0, a1, a2⟩]
  simp only [Option.bind_some]
  by_cases hv : vR ⟨a0, a1, a2⟩ = true
  · apply Ev.pos hv
    have i1 : intsS ⟨a0, a1, a2⟩ zv = (true, 0) := by unfold intsS; rw [hv, vR_zv]; rw [if_neg (by decide), if_pos (.inr rfl)]
    have i2 : intsS zv ⟨a0, a1, a2⟩ = (true, 0) := by unfold intsS; rw [hv, vR_zv]; rw [if_neg (by decide), if_pos (.inl rfl)]
    rw [(of_ints_err i1).1, (of_ints_err i2).2.2]
    exact Ev.pos ((same_zv zv).trans (decide_eq_true rfl)) (Ev.pos rfl (Ev.pos ((same_zv zv).trans (decide_eq_true rfl)) (Ev.pos rfl (Ev.bind awake_ev (Ev.pure _)))))
  · apply Ev.neg hv
    rw [Bool.not_eq_true] at hv
    have i1 : intsS ⟨a0, a1, a2⟩ zv = (true, 1) := by unfold intsS; rw [hv, Bool.false_and, if_pos rfl]
    have i2 : intsS zv ⟨a0, a1, a2⟩ = (true, 1) := by unfold intsS; rw [hv, Bool.and_false, if_pos rfl]
    rw [(of_ints_err i1).1, (of_ints_err i2).2.2]
    exact Ev.pos rfl (Ev.pos rfl (Ev.bind awake_ev (Ev.pure _)))
end Go.Proofs.YtmdnnpahmoaicaaDoor.Pure
