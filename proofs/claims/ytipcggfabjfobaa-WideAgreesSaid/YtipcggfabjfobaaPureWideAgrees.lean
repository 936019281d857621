/- the plain law -/
import Derived.Test.YtipcggfabjfobaaPureBase
import Derived.Test.YtipcggfabjfobaaStatWideAgrees
import Derived.Test.YtipcggfabjfobaaPx28
import Derived.Test.YtipcggfabjfobaaPx30
namespace Go.Proofs.Ytipcggfabjfobaa.Pure
open Go.ChangeShapes Go.WideShapes Go.ChangeAt Go.RowKit Go.Proofs.YtipcggfabjfobaaW.PrintWords Go.Proofs.YtipcggfabjfobaaW.PrintLast Go.Proofs.Ytipcggfabjfobaa.P Go.Proofs.Ytipcggfabjfobaa.Open
theorem WideAgrees_pure : Stat.WideAgrees := by
  intro a b ha hb
  have ha := b64 ha
  have hb := b64 hb
  refine ⟨3, ?_⟩
  obtain ⟨x, y, e1, b1, w1⟩ := of_eq a ha
  obtain ⟨u, v, e2, b2, w2⟩ := of_eq b hb
  unfold corollarylaw02_WideAgrees.f
  rw [e1, e2]
  simp only [Option.bind_some]
  rcases Int.lt_trichotomy a b with hc | hc | hc
  · have e3 : wide_Compare.f 3 x y u v = some (-1) := by rw [cmpW 0 x y u v b1 b2, w1, w2, if_pos hc]
    rw [e3]
    simp only [Option.bind_some]
    rw [if_pos (by rw [decide_eq_true hc]; decide), if_pos (by rw [beq_eq_false_iff_ne.2 (show a ≠ b by omega)]; decide), awake3]
    rfl
  · have e3 : wide_Compare.f 3 x y u v = some 0 := by rw [cmpW 0 x y u v b1 b2, w1, w2, if_neg (by omega), if_neg (by omega)]
    rw [e3]
    subst hc
    simp only [Option.bind_some]
    rw [if_pos (by rw [decide_eq_false (show ¬ a < a by omega)]; decide), if_pos (by simp), awake3]
    rfl
  · have e3 : wide_Compare.f 3 x y u v = some 1 := by rw [cmpW 0 x y u v b1 b2, w1, w2, if_neg (by omega), if_pos hc]
    rw [e3]
    simp only [Option.bind_some]
    rw [if_pos (by rw [decide_eq_false (show ¬ a < b by omega)]; decide), if_pos (by rw [beq_eq_false_iff_ne.2 (show a ≠ b by omega)]; decide), awake3]
    rfl
end Go.Proofs.Ytipcggfabjfobaa.Pure
