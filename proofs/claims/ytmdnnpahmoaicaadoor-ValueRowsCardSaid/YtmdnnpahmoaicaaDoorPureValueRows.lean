-- Plain laws of the printed functions (wip/l01).
import Derived.Test.YtmdnnpahmoaicaaDoorPureRows
import Derived.Test.YtmdnnpahmoaicaaDoorPureBefore
import Derived.Test.YtmdnnpahmoaicaaDoorStatValueRows
namespace Go.Proofs.YtmdnnpahmoaicaaDoor.Pure
open Go.ChangeShapes Go.WideShapes Go.ChangeAt Go.RowKit Go.Proofs.YtmdnnpahmoaicaaDoorW.PrintWords Go.Proofs.YtmdnnpahmoaicaaDoorW.PrintLast Go.Proofs.YtmdnnpahmoaicaaDoor.P Go.Proofs.YtmdnnpahmoaicaaDoor.Open
set_option linter.unusedVariables false
set_option linter.unusedSimpArgs false
theorem ref_go (l m : List S23) (hl : (l.length : Int) ≤ 1000) (hm : (m.length : Int) ≤ 1000) (wl : ∀ v ∈ l, v.f2.size ≤ 9223372036854775807) (wm : ∀ v ∈ m, v.f2.size ≤ 9223372036854775807) : ∀ (x p y q : List S23), l = p ++ x → m = q ++ y → p.length = q.length →
    Ev (fun k => corollaryref01_Rows.l0 k l m (p.length : Int)) (rowsS x y)
  | x, p, y, q, el, em, hpq => by
    have ll : l.length = p.length + x.length := by rw [el]; simp
    have lm : m.length = q.length + y.length := by rw [em]; simp
    have stop : (x = [] ∨ y = []) → Ev (fun k => corollaryref01_Rows.j1 k l m (p.length : Int) false) (rowsS x y) := by
      intro h
      apply Ev.succ
      simp only [corollaryref01_Rows.j1]
      apply Ev.neg (by decide)
      match x, y with
      | [], [] => simp at ll lm; exact Ev.neg (by omega) (Ev.neg (by omega) (Ev.pure _))
      | [], b :: bs => simp at ll lm; exact Ev.pos (by omega) (Ev.pure _)
      | a :: as_, [] => simp at ll lm; exact Ev.neg (by omega) (Ev.pos (by omega) (Ev.pure _))
      | a :: as_, b :: bs => rcases h with h | h <;> cases h
    apply Ev.succ
    simp only [corollaryref01_Rows.l0]
    match x, y with
    | [], y =>
      simp at ll
      exact Ev.neg (by omega) (stop (.inl rfl))
    | a :: as_, [] =>
      simp at ll lm
      refine Ev.pos (by omega) ?_
      rw [decide_eq_false (by omega)]
      exact stop (.inr rfl)
    | a :: as_, b :: bs =>
      simp at ll lm
      have ra : rd_T23 l (p.length : Int) = a := by rw [el]; exact rdv p a as_
      have rb : rd_T23 m (p.length : Int) = b := by rw [em, hpq]; exact rdv q b bs
      refine Ev.pos (by omega) ?_
      rw [decide_eq_true (by omega)]
      apply Ev.succ
      simp only [corollaryref01_Rows.j1]
      apply Ev.pos trivial
      apply Ev.pos (by omega)
      apply Ev.pos (by omega)
      apply Ev.pos (by omega)
      rw [ra, rb]
      refine Ev.bind (before_ev a b (wl a (by rw [el]; simp))) ?_
      simp only [rowsS]
      have bc := before_cmp a b
      have rg := cmpS_cases a b
      by_cases h1 : before a b = true
      · apply Ev.pos h1
        have : cmpS a b = -1 := by
          rcases rg with ⟨e, _⟩ | ⟨_, l⟩ | ⟨_, e⟩
          · exact e
          · exact absurd l ((before_iff a b).mp h1).asym
          · subst e; exact absurd ((before_iff a a).mp h1) (Lt.irrefl _)
        rw [this, if_neg (by decide)]
        exact Ev.pure _
      · apply Ev.neg h1
        refine Ev.bind (before_ev b a (wm b (by rw [em]; simp))) ?_
        by_cases h2 : before b a = true
        · apply Ev.pos h2
          rw [if_pos h2] at bc
          rw [bc, if_neg (by decide)]
          exact Ev.pure _
        · apply Ev.neg h2
          rw [if_neg h2, if_neg h1] at bc
          rw [if_pos bc, show wrap64 ((p.length : Int) + 1) = ((p ++ [a]).length : Int) by rw [w64 (by omega) (by omega)]; simp]
          exact ref_go l m hl hm wl wm as_ (p ++ [a]) bs (q ++ [b]) (by rw [el]; simp) (by rw [em]; simp) (by simp [hpq])
theorem rowsS_anti : ∀ l m : List S23, rowsS m l = - rowsS l m
  | [], [] => rfl
  | [], _ :: _ => rfl
  | _ :: _, [] => rfl
  | a :: as_, b :: bs => by
    simp only [rowsS]
    rw [cmpS_anti a b]
    by_cases h : cmpS a b = 0
    · rw [if_pos h, if_pos (by omega)]; exact rowsS_anti as_ bs
    · rw [if_neg h, if_neg (by omega)]
theorem rowsS_rng : ∀ l m : List S23, -1 ≤ rowsS l m ∧ rowsS l m ≤ 1
  | [], [] => by simp [rowsS]
  | [], _ :: _ => by simp [rowsS]
  | _ :: _, [] => by simp [rowsS]
  | a :: as_, b :: bs => by
    simp only [rowsS]
    split
    · exact rowsS_rng as_ bs
    · have := cmpS_rng a b; omega
/-! ValueRows -/
theorem ValueRows_pure : Stat.ValueRows := by
  intro l m hl hm
  apply Ev.get
  unfold corollarylaw01_ValueRows.f
  have stop : Ev (fun k => corollarylaw01_ValueRows.j0 k l m true) true := by
    apply Ev.succ
    simp only [corollarylaw01_ValueRows.j0]
    exact Ev.pos trivial (Ev.bind awake_ev (Ev.pure _))
  by_cases h1 : (l.length : Int) > 100
  · exact Ev.pos h1 stop
  · apply Ev.neg h1
    by_cases h2 : (m.length : Int) > 100
    · rw [decide_eq_true h2]; exact stop
    · rw [decide_eq_false h2]
      apply Ev.succ
      simp only [corollarylaw01_ValueRows.j0]
      apply Ev.neg (by decide)
      have e1 := rows_ev l m (by omega) (by omega)
      have e2 := rows_ev m l (by omega) (by omega)
      rw [rowsS_anti l m] at e2
      have e3 : Ev (fun k => corollaryref01_Rows.f k l m) (rowsS l m) := ref_go l m (by omega) (by omega) (fun v hv => wfS (hl.2 v hv)) (fun v hv => wfS (hm.2 v hv)) l [] m [] rfl rfl rfl
      have r := rowsS_rng l m
      refine Ev.bind e1 (Ev.bind e3 (Ev.pos rfl (Ev.bind e2 (Ev.bind e1 (Ev.pos ?_ (Ev.bind awake_ev (Ev.pure _)))))))
      rw [w64 (by omega) (by omega)]
end Go.Proofs.YtmdnnpahmoaicaaDoor.Pure
