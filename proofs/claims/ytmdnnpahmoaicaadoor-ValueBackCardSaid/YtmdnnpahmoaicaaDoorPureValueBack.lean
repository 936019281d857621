-- Plain laws of the printed functions (wip/l01).
import Derived.Test.YtmdnnpahmoaicaaDoorPure
import Derived.Test.YtmdnnpahmoaicaaDoorStatValueBack
namespace Go.Proofs.YtmdnnpahmoaicaaDoor.Pure
open Go.ChangeShapes Go.WideShapes Go.ChangeAt Go.RowKit Go.Proofs.YtmdnnpahmoaicaaDoorW.PrintWords Go.Proofs.YtmdnnpahmoaicaaDoorW.PrintLast Go.Proofs.YtmdnnpahmoaicaaDoor.P Go.Proofs.YtmdnnpahmoaicaaDoor.Open
set_option linter.unusedVariables false
set_option linter.unusedSimpArgs false
/-! ValueBack -/
theorem back_ev (a b : S23) (ha : inR a.f1) (hb : inR b.f1) : Ev (fun k => corollarylaw01_ValueBack.f k a.f0 a.f1 a.f2 b.f0 b.f1 b.f2) true := by
  unfold corollarylaw01_ValueBack.f
  have t1 := add_ev b a
  rw [add_comm_ a b ha hb] at t1
  have t2 := mul_ev b a
  rw [mul_comm_ a b ha hb] at t2
  refine Ev.bind (add_ev a b) (Ev.bind t1 (Ev.bind (mul_ev a b) (Ev.bind t2 ?_)))
  have n1 : ∀ r : S23 × Int, ¬ (!((out r).1 == (out r).1) || (!((out r).2.1 == (out r).2.1) || (!((out r).2.2.1.toList == (out r).2.2.1.toList)))) = true := by
    intro r
    rw [show (!((out r).1 == (out r).1) || (!((out r).2.1 == (out r).2.1) || (!((out r).2.2.1.toList == (out r).2.2.1.toList)))) = _ from notsame_eq r.1 r.1]
    simp
  refine Ev.neg (n1 _) (Ev.pos rfl (Ev.neg (n1 _) ?_))
  rw [bne_self_eq_false]
  apply Ev.succ
  simp only [corollarylaw01_ValueBack.j0]
  apply Ev.neg (by decide)
  have stop : Ev (fun k => corollarylaw01_ValueBack.j1 k true a.f0 a.f1 a.f2 b.f0 b.f1 b.f2 (out (addS a b)).1 (out (addS a b)).2.1 (out (addS a b)).2.2.1) true := by
    apply Ev.succ
    simp only [corollarylaw01_ValueBack.j1]
    exact Ev.pos trivial (Ev.bind awake_ev (Ev.pure _))
  rcases ints_cases a b with ⟨e, he, hi⟩ | ⟨_, _, _, hi⟩ | ⟨m, n, ea, eb, hi⟩
  · have hs := (of_ints_err hi).1
    rw [hs] at stop ⊢
    exact Ev.neg he stop
  · have hs := (of_ints_err hi).1
    rw [hs] at stop ⊢
    exact Ev.pos rfl stop
  · subst ea eb
    have hm : inR m := ha
    have hn : inR n := hb
    rw [add_num m n hm hn] at stop ⊢
    by_cases hr : inR (m + n)
    · rw [if_pos hr]
      refine Ev.pos rfl ?_
      apply Ev.succ
      simp only [corollarylaw01_ValueBack.j1]
      refine Ev.neg (by show ¬ ((2 : Int) == 0) = true; decide) ?_
      have hsub := sub_ev ⟨2, m + n, ⟨#[]⟩⟩ ⟨2, n, ⟨#[]⟩⟩
      rw [sub_num (m + n) n hr hn, show m + n - n = m by omega, if_pos hm] at hsub
      refine Ev.bind hsub ?_
      exact Ev.pos ((same_eq ⟨2, m, ⟨#[]⟩⟩ ⟨2, m, ⟨#[]⟩⟩).trans (decide_eq_true rfl)) (Ev.pos rfl (Ev.bind awake_ev (Ev.pure _)))
    · rw [if_neg hr] at stop ⊢
      exact Ev.neg (by decide) stop
theorem ValueBack_pure : Stat.ValueBack := by
  intro a0 a1 a2 b0 b1 b2 ha hb
  exact (back_ev ⟨a0, a1, a2⟩ ⟨b0, b1, b2⟩ (wf_inR ha) (wf_inR hb)).get
end Go.Proofs.YtmdnnpahmoaicaaDoor.Pure
