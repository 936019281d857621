-- Plain laws of the printed functions (wip/l01).
import Derived.Test.YtmdnnpahmoaicaaDoorPureOrd
import Derived.Test.YtmdnnpahmoaicaaDoorPx78
namespace Go.Proofs.YtmdnnpahmoaicaaDoor.Pure
open Go.ChangeShapes Go.WideShapes Go.ChangeAt Go.RowKit Go.Proofs.YtmdnnpahmoaicaaDoorW.PrintWords Go.Proofs.YtmdnnpahmoaicaaDoorW.PrintLast Go.Proofs.YtmdnnpahmoaicaaDoor.P Go.Proofs.YtmdnnpahmoaicaaDoor.Open
set_option linter.unusedVariables false
set_option linter.unusedSimpArgs false
/-! rows -/
def rowsS : List S23 → List S23 → Int
  | [], [] => 0
  | [], _ :: _ => -1
  | _ :: _, [] => 1
  | a :: as_, b :: bs => if cmpS a b = 0 then rowsS as_ bs else cmpS a b
theorem rows_go (l m : List S23) (hl : (l.length : Int) ≤ 1000) (hm : (m.length : Int) ≤ 1000) : ∀ (x p y q : List S23), l = p ++ x → m = q ++ y → p.length = q.length →
    Ev (fun k => value_Rows.l0 k l m (mn (l.length : Int) (m.length : Int)) (p.length : Int)) (rowsS x y)
  | x, p, y, q, el, em, hpq => by
    have ll : l.length = p.length + x.length := by rw [el]; simp
    have lm : m.length = q.length + y.length := by rw [em]; simp
    have stop : (x = [] ∨ y = []) → Ev (fun k => value_Rows.l0 k l m (mn (l.length : Int) (m.length : Int)) (p.length : Int)) (cmpI (l.length : Int) (m.length : Int)) := by
      intro h
      apply Ev.succ
      simp only [value_Rows.l0]
      apply Ev.neg (by
        unfold mn
        rcases h with rfl | rfl
        · simp at ll; split <;> omega
        · simp at lm; split <;> omega)
      rw [cmpI_eq]
      exact Ev.pure _
    match x, y with
    | [], [] =>
      have := stop (.inl rfl)
      have e : cmpI (l.length : Int) (m.length : Int) = 0 := by
        simp at ll lm
        unfold cmpI; rw [if_neg (by omega), if_neg (by omega)]
      rw [e] at this
      exact this
    | [], b :: bs =>
      have := stop (.inl rfl)
      have e : cmpI (l.length : Int) (m.length : Int) = -1 := by
        simp at ll lm
        unfold cmpI; rw [if_pos (by omega)]
      rw [e] at this
      exact this
    | a :: as_, [] =>
      have := stop (.inr rfl)
      have e : cmpI (l.length : Int) (m.length : Int) = 1 := by
        simp at ll lm
        unfold cmpI; rw [if_neg (by omega), if_pos (by omega)]
      rw [e] at this
      exact this
    | a :: as_, b :: bs =>
      simp at ll lm
      have ra : rd_T23 l (p.length : Int) = a := by rw [el]; exact rdv p a as_
      have rb : rd_T23 m (p.length : Int) = b := by rw [em, hpq]; exact rdv q b bs
      apply Ev.succ
      simp only [value_Rows.l0]
      apply Ev.pos (by unfold mn; split <;> omega)
      apply Ev.pos (by omega)
      apply Ev.pos (by omega)
      apply Ev.pos (by omega)
      rw [ra, rb]
      refine Ev.bind (cmp_ev a b) ?_
      simp only [rowsS]
      by_cases h : cmpS a b = 0
      · rw [if_pos h]
        apply Ev.pos h
        rw [show wrap64 ((p.length : Int) + 1) = ((p ++ [a]).length : Int) by rw [w64 (by omega) (by omega)]; simp]
        exact rows_go l m hl hm as_ (p ++ [a]) bs (q ++ [b]) (by rw [el]; simp) (by rw [em]; simp) (by simp [hpq])
      · rw [if_neg h]
        exact Ev.neg h (Ev.pure _)
theorem rows_ev (l m : List S23) (hl : (l.length : Int) ≤ 1000) (hm : (m.length : Int) ≤ 1000) : Ev (fun k => value_Rows.f k l m) (rowsS l m) :=
  rows_go l m hl hm l [] m [] rfl rfl rfl
end Go.Proofs.YtmdnnpahmoaicaaDoor.Pure
