-- Plain laws of the printed functions (wip/l01).
import Derived.Test.YtmdnnpahmoaicaaDoorPureShow
import Derived.Test.YtmdnnpahmoaicaaDoorStatValueApart
namespace Go.Proofs.YtmdnnpahmoaicaaDoor.Pure
open Go.ChangeShapes Go.WideShapes Go.ChangeAt Go.RowKit Go.Proofs.YtmdnnpahmoaicaaDoorW.PrintWords Go.Proofs.YtmdnnpahmoaicaaDoorW.PrintLast Go.Proofs.YtmdnnpahmoaicaaDoor.P Go.Proofs.YtmdnnpahmoaicaaDoor.Open
set_option linter.unusedVariables false
set_option linter.unusedSimpArgs false
theorem ValueApart_pure : Stat.ValueApart := by
  intro a0 a1 a2 b0 b1 b2 ha hb
  apply Ev.get
  unfold corollarylaw01_ValueApart.f
  refine Ev.bind (Ev.of (right_eq ⟨a0, a1, a2⟩)) ?_
  by_cases hra : vR ⟨a0, a1, a2⟩ = true
  · refine Ev.pos hra (Ev.bind (Ev.of (right_eq ⟨b0, b1, b2⟩)) (Ev.succ ?_))
    simp only [corollarylaw01_ValueApart.j0]
    by_cases hrb : vR ⟨b0, b1, b2⟩ = true
    · refine Ev.neg (by rw [hrb]; decide) ?_
      refine Ev.bind (Ev.of (show_eq hra (wf_inR ha))) (Ev.bind (Ev.of (show_eq hrb (wf_inR hb))) ?_)
      have key : ((⟨(showL a0 a1 a2.data.toList).toArray⟩ : ByteArray).toList == (⟨(showL b0 b1 b2.data.toList).toArray⟩ : ByteArray).toList) = (a0 == b0 && (a1 == b1 && (a2.toList == b2.toList))) := by
        rw [str_eq, same_eq ⟨a0, a1, a2⟩ ⟨b0, b1, b2⟩, decide_eq_decide]
        constructor
        · intro e
          have e' : showL a0 a1 a2.data.toList = showL b0 b1 b2.data.toList := by
            have := congrArg (fun x : ByteArray => x.data.toList) e
            simpa using this
          obtain ⟨h1, h2, h3⟩ := showL_inj (ok_of_right hra) (ok_of_right hrb) e'
          have : a2 = b2 := by apply ByteArray.ext; apply Array.toList_inj.mp; exact h3
          simp only at h1 h2
          rw [h1, h2, this]
        · intro e
          injection e with h1 h2 h3
          rw [h1, h2, h3]
      refine Ev.pos (by rw [key]; exact beq_self_eq_true _) ?_
      refine Ev.bind (Ev.of (show_eq hra (wf_inR ha))) (Ev.neg ?_ (Ev.bind awake_ev (Ev.pure _)))
      intro e
      have e2 := str_nil (⟨(showL a0 a1 a2.data.toList).toArray⟩ : ByteArray)
      rw [e] at e2
      have e3 : (⟨(showL a0 a1 a2.data.toList).toArray⟩ : ByteArray) = ⟨#[]⟩ := of_decide_eq_true (e2.symm.trans rfl)
      have := congrArg (fun x : ByteArray => x.data.toList) e3
      exact showL_ne a0 a1 a2.data.toList (by simpa using this)
    · refine Ev.pos (by simpa using hrb) (Ev.bind awake_ev (Ev.pure _))
  · refine Ev.neg hra (Ev.succ ?_)
    simp only [corollarylaw01_ValueApart.j0]
    exact Ev.pos trivial (Ev.bind awake_ev (Ev.pure _))
end Go.Proofs.YtmdnnpahmoaicaaDoor.Pure
