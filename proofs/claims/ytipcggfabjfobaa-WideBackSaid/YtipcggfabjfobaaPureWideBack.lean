/- the plain law -/
import Derived.Test.YtipcggfabjfobaaPureBase
import Derived.Test.YtipcggfabjfobaaStatWideBack
import Derived.Test.YtipcggfabjfobaaPx21
namespace Go.Proofs.Ytipcggfabjfobaa.Pure
open Go.ChangeShapes Go.WideShapes Go.ChangeAt Go.RowKit Go.Proofs.YtipcggfabjfobaaW.PrintWords Go.Proofs.YtipcggfabjfobaaW.PrintLast Go.Proofs.Ytipcggfabjfobaa.P Go.Proofs.Ytipcggfabjfobaa.Open
theorem back_yes (k : Nat) (a b c d e f g i : Int) : corollarylaw02_WideBack.j0 (k + 4) true a b c d e f g i = some true := by
  rw [corollarylaw02_WideBack.j0, if_pos (by simp), awakek]
  rfl
theorem WideBack_pure : Stat.WideBack := by
  intro h l h' l' hw hw'
  have b : Wb h l := by
    have h1 := b64 hw.1
    have h2 := bu64 hw.2
    unfold Wb
    simp only at h1 h2
    omega
  have b' : Wb h' l' := by
    have h1 := b64 hw'.1
    have h2 := bu64 hw'.2
    unfold Wb
    simp only at h1 h2
    omega
  refine ⟨0 + 4, ?_⟩
  unfold corollarylaw02_WideBack.f
  by_cases hc : Wv h' l' = -170141183460469231731687303715884105728
  · rw [neg_out h' l' b' hc]
    by_cases ho : -170141183460469231731687303715884105728 ≤ Wv h l + Wv h' l' ∧ Wv h l + Wv h' l' < 170141183460469231731687303715884105728
    · obtain ⟨p, q, e1, _, _⟩ := add_in h l h' l' b b' ho.1 ho.2
      rw [e1]
      simp only [Option.bind_some]
      rw [if_neg (by decide)]
      exact back_yes 0 _ _ _ _ _ _ _ _
    · rw [add_out h l h' l' b b' ho]
      simp only [Option.bind_some]
      rw [if_neg (by decide)]
      exact back_yes 0 _ _ _ _ _ _ _ _
  · obtain ⟨u, v, e2, b2, w2⟩ := neg_in h' l' b' hc
    rw [e2]
    by_cases ho : -170141183460469231731687303715884105728 ≤ Wv h l + Wv h' l' ∧ Wv h l + Wv h' l' < 170141183460469231731687303715884105728
    · obtain ⟨p, q, e1, b1, w1⟩ := add_in h l h' l' b b' ho.1 ho.2
      rw [e1]
      simp only [Option.bind_some]
      rw [if_pos (by simp)]
      have hr : -170141183460469231731687303715884105728 ≤ Wv h l ∧ Wv h l < 170141183460469231731687303715884105728 := by unfold Wb at b; unfold Wv; omega
      have hr' : -170141183460469231731687303715884105728 ≤ Wv h' l' ∧ Wv h' l' < 170141183460469231731687303715884105728 := by unfold Wb at b'; unfold Wv; omega
      obtain ⟨x, y, e3, b3, w3⟩ := add_in p q u v b1 b2 (by omega) (by omega)
      obtain ⟨s, t, e4, b4, w4⟩ := neg_in u v b2 (by omega)
      obtain ⟨rfl, rfl⟩ := Wv_inj b3 b (by omega)
      obtain ⟨rfl, rfl⟩ := Wv_inj b4 b' (by omega)
      rw [corollarylaw02_WideBack.j0, if_neg (by decide), e3, e4]
      simp only [Option.bind_some]
      rw [if_pos (by simp), if_pos (by simp), if_pos (by simp), if_pos (by simp), awakek 0]
      rfl
    · rw [add_out h l h' l' b b' ho]
      simp only [Option.bind_some]
      rw [if_pos (by simp)]
      exact back_yes 0 _ _ _ _ _ _ _ _
end Go.Proofs.Ytipcggfabjfobaa.Pure
