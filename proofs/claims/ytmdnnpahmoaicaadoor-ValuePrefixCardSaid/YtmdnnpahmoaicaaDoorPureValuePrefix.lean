-- Plain laws of the printed functions (wip/l01).
import Derived.Test.YtmdnnpahmoaicaaDoorPureRows
import Derived.Test.YtmdnnpahmoaicaaDoorStatValuePrefix
namespace Go.Proofs.YtmdnnpahmoaicaaDoor.Pure
open Go.ChangeShapes Go.WideShapes Go.ChangeAt Go.RowKit Go.Proofs.YtmdnnpahmoaicaaDoorW.PrintWords Go.Proofs.YtmdnnpahmoaicaaDoorW.PrintLast Go.Proofs.YtmdnnpahmoaicaaDoor.P Go.Proofs.YtmdnnpahmoaicaaDoor.Open
set_option linter.unusedVariables false
set_option linter.unusedSimpArgs false
/-! ValuePrefix -/
theorem cmpS_self (a : S23) : cmpS a a = 0 := by
  rcases cmpS_cases a a with ⟨_, l⟩ | ⟨_, l⟩ | ⟨h, _⟩
  · exact absurd l (Lt.irrefl _)
  · exact absurd l (Lt.irrefl _)
  · exact h
theorem rowsS_pre : ∀ l m : List S23, rowsS l (l ++ m) = if m = [] then 0 else -1
  | [], [] => rfl
  | [], _ :: _ => rfl
  | a :: as_, m => by
    simp only [List.cons_append, rowsS]
    rw [cmpS_self, if_pos rfl]
    exact rowsS_pre as_ m
theorem ValuePrefix_pure : Stat.ValuePrefix := by
  intro l m hl hm
  apply Ev.get
  unfold corollarylaw01_ValuePrefix.f
  have stop : Ev (fun k => corollarylaw01_ValuePrefix.j0 k l m true) true := by
    apply Ev.succ
    simp only [corollarylaw01_ValuePrefix.j0]
    exact Ev.pos trivial (Ev.bind awake_ev (Ev.pure _))
  by_cases h1 : (l.length : Int) > 100
  · exact Ev.pos h1 stop
  · apply Ev.neg h1
    by_cases h2 : (m.length : Int) > 100
    · rw [decide_eq_true h2]; exact stop
    · rw [decide_eq_false h2]
      apply Ev.succ
      simp only [corollarylaw01_ValuePrefix.j0]
      apply Ev.neg (by decide)
      apply Ev.pos (by simp; omega)
      simp only [List.nil_append, Option.bind_some]
      apply Ev.pos (by omega)
      have e1 := rows_ev l (l ++ m) (by omega) (by simp; omega)
      rw [rowsS_pre] at e1
      refine Ev.bind e1 ?_
      cases m with
      | nil => exact Ev.pos (by simp) (Ev.pos (by simp) (Ev.bind awake_ev (Ev.pure _)))
      | cons b bs =>
        refine Ev.pos ?_ (Ev.pos (by simp) (Ev.bind awake_ev (Ev.pure _)))
        rw [if_neg (by simp)]
        have : (((b :: bs).length : Int) == 0) = false := by simp; omega
        rw [this]
        rfl
end Go.Proofs.YtmdnnpahmoaicaaDoor.Pure
