/- the plain law -/
import Derived.Test.YtipcggfabjfobaaPureBase
import Derived.Test.YtipcggfabjfobaaStatWideOrders
import Derived.Test.YtipcggfabjfobaaPx29
namespace Go.Proofs.Ytipcggfabjfobaa.Pure
open Go.ChangeShapes Go.WideShapes Go.ChangeAt Go.RowKit Go.Proofs.YtipcggfabjfobaaW.PrintWords Go.Proofs.YtipcggfabjfobaaW.PrintLast Go.Proofs.Ytipcggfabjfobaa.P Go.Proofs.Ytipcggfabjfobaa.Open
theorem WideOrders_pure : Stat.WideOrders := by
  intro h l h' l' hw hw'
  have b : Wb h l := by
    have h1 := b64 hw.1
    have h2 := bu64 hw.2
    unfold Wb
    simp only at h1 h2
    omega
  have b' : Wb h' l' := by
    have h1 := b64 hw'.1
    have h2 := bu64 hw'.2
    unfold Wb
    simp only at h1 h2
    omega
  refine ⟨6, ?_⟩
  unfold corollarylaw02_WideOrders.f
  rw [rless_eq 1 h l h' l' b b']
  simp only [Option.bind_some]
  rcases Int.lt_trichotomy (Wv h l) (Wv h' l') with hc | hc | hc
  · rw [decide_eq_true hc, if_pos (by simp), corollarylaw02_WideOrders.j0, rless_eq 0 h' l' h l b' b, decide_eq_false (by omega)]
    simp only [Option.bind_some]
    rw [if_neg (by decide), cmpW 2 h l h' l' b b', if_pos hc]
    simp only [Option.bind_some]
    rw [if_pos (by simp), awakek 2]
    rfl
  · rw [decide_eq_false (by omega), if_neg (by decide), corollarylaw02_WideOrders.j0, rless_eq 0 h' l' h l b' b, decide_eq_false (by omega)]
    simp only [Option.bind_some]
    rw [if_neg (by decide), cmpW 2 h l h' l' b b', if_neg (by omega), if_neg (by omega)]
    simp only [Option.bind_some]
    rw [if_pos (by simp), awakek 2]
    rfl
  · rw [decide_eq_false (by omega), if_neg (by decide), corollarylaw02_WideOrders.j0, rless_eq 0 h' l' h l b' b, decide_eq_true hc]
    simp only [Option.bind_some]
    rw [if_pos (by simp), cmpW 2 h l h' l' b b', if_neg (by omega), if_pos hc]
    simp only [Option.bind_some]
    rw [if_pos (by simp), awakek 2]
    rfl
end Go.Proofs.Ytipcggfabjfobaa.Pure
