-- Plain laws of the printed functions (wip/l01).
import Derived.Test.YtmdnnpahmoaicaaDoorPure
import Derived.Test.YtmdnnpahmoaicaaDoorStatValueTurn
namespace Go.Proofs.YtmdnnpahmoaicaaDoor.Pure
open Go.ChangeShapes Go.WideShapes Go.ChangeAt Go.RowKit Go.Proofs.YtmdnnpahmoaicaaDoorW.PrintWords Go.Proofs.YtmdnnpahmoaicaaDoorW.PrintLast Go.Proofs.YtmdnnpahmoaicaaDoor.P Go.Proofs.YtmdnnpahmoaicaaDoor.Open
set_option linter.unusedVariables false
set_option linter.unusedSimpArgs false
/-! ValueTurn -/
theorem ValueTurn_pure : Stat.ValueTurn := by
  intro a0 a1 a2 h
  apply Ev.get
  unfold corollarylaw01_ValueTurn.f
  have e0 := neg_ev ⟨a0, a1, a2⟩
  refine Ev.bind e0 ?_
  have hw := wf_inR h
  have same := fun v => same_eq v (⟨a0, a1, a2⟩ : S23)
  revert hw same
  rcases ints_cases ⟨2, 0, ⟨#[]⟩⟩ ⟨a0, a1, a2⟩ with ⟨e, he, hi⟩ | ⟨_, _, hz, hi⟩ | ⟨m, n, _, hb, _⟩
  · intro hw same
    rw [(of_ints_err hi).2.1]
    refine Ev.neg he (Ev.pos ((same_zv zv).trans (decide_eq_true rfl)) (Ev.bind awake_ev (Ev.pure _)))
  · intro hw same
    rw [(of_ints_err hi).2.1]
    have ha : (⟨a0, a1, a2⟩ : S23) = zv := by
      rcases hz with hz | hz
      · exact absurd hz (by decide)
      · exact hz
    refine Ev.pos rfl ?_
    refine Ev.bind (neg_ev zv) ?_
    have e1 : subS ⟨2, 0, ⟨#[]⟩⟩ zv = (zv, 0) := by have := (of_ints_err hi).2.1; rw [ha] at this; exact this
    rw [e1]
    refine Ev.pos ((same zv).trans (decide_eq_true ha.symm)) (Ev.pos rfl (Ev.bind awake_ev (Ev.pure _)))
  · intro hw same
    rw [hb]
    have hn : inR n := by rw [hb] at hw; exact hw
    rw [sub_num 0 n (by unfold inR; omega) hn]
    by_cases hr : inR (0 - n)
    · rw [if_pos hr]
      refine Ev.pos rfl ?_
      refine Ev.bind (neg_ev ⟨2, 0 - n, ⟨#[]⟩⟩) ?_
      rw [sub_num 0 (0 - n) (by unfold inR; omega) hr, if_pos (by unfold inR at *; omega), show 0 - (0 - n) = n by omega]
      exact Ev.pos ((same ⟨2, n, ⟨#[]⟩⟩).trans (decide_eq_true hb.symm)) (Ev.pos rfl (Ev.bind awake_ev (Ev.pure _)))
    · rw [if_neg hr]
      exact Ev.neg (by decide) (Ev.pos ((same_zv zv).trans (decide_eq_true rfl)) (Ev.bind awake_ev (Ev.pure _)))
end Go.Proofs.YtmdnnpahmoaicaaDoor.Pure
