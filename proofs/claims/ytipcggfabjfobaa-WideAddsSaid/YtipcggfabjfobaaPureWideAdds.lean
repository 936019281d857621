/- the plain law -/
import Derived.Test.YtipcggfabjfobaaPureBase
import Derived.Test.YtipcggfabjfobaaStatWideAdds
import Derived.Test.YtipcggfabjfobaaPx11
import Derived.Test.YtipcggfabjfobaaPx18
import Derived.Test.YtipcggfabjfobaaPx19
import Derived.Test.YtipcggfabjfobaaPx20
import Derived.Test.YtipcggfabjfobaaPx4
namespace Go.Proofs.Ytipcggfabjfobaa.Pure
open Go.ChangeShapes Go.WideShapes Go.ChangeAt Go.RowKit Go.Proofs.YtipcggfabjfobaaW.PrintWords Go.Proofs.YtipcggfabjfobaaW.PrintLast Go.Proofs.Ytipcggfabjfobaa.P Go.Proofs.Ytipcggfabjfobaa.Open
theorem WideAdds_pure : Stat.WideAdds := by
  intro h l h' l' hw hw'
  have b : Wb h l := by
    have h1 := b64 hw.1
    have h2 := bu64 hw.2
    unfold Wb
    simp only at h1 h2
    omega
  have b' : Wb h' l' := by
    have h1 := b64 hw'.1
    have h2 := bu64 hw'.2
    unfold Wb
    simp only at h1 h2
    omega
  refine ⟨0 + 9, ?_⟩
  obtain ⟨x, y, ea, ha⟩ := radd_eq 0 h l h' l' b b'
  obtain ⟨u, v, en, hn⟩ := rneg_eq 0 h l b
  have aw : ∀ (x60 : Bool) (p q r s : Int), x60 = false → corollarylaw02_WideAdds.j0 9 x60 p q p q r s r s = some true := by
    intro x60 p q r s hx
    rw [hx, corollarylaw02_WideAdds.j0, if_neg (by decide), if_pos (by simp), if_pos (by simp), awakek 5]
    rfl
  have addE : ∃ p q e ok, wide_Add.f h l h' l' = some (p, q, e) ∧ corollaryref02_Add.f (0 + 9) h l h' l' = some (p, q, ok) ∧ ((e = 0 ∧ ok = true) ∨ (e = 14 ∧ ok = false)) := by
    by_cases hc : -170141183460469231731687303715884105728 ≤ Wv h l + Wv h' l' ∧ Wv h l + Wv h' l' < 170141183460469231731687303715884105728
    · obtain ⟨p, q, e1, b1, w1⟩ := add_in h l h' l' b b' hc.1 hc.2
      obtain ⟨b2, w2⟩ := ha hc.1 hc.2
      rw [if_pos hc] at ea
      obtain ⟨rfl, rfl⟩ := Wv_inj b1 b2 (by rw [w1, w2])
      exact ⟨p, q, 0, true, e1, ea, .inl ⟨rfl, rfl⟩⟩
    · rw [if_neg hc] at ea
      exact ⟨0, 0, 14, false, add_out h l h' l' b b' hc, ea, .inr ⟨rfl, rfl⟩⟩
  have negE : ∃ p q e ok, wide_Neg.f h l = some (p, q, e) ∧ corollaryref02_Neg.f (0 + 9) h l = some (p, q, ok) ∧ ((e = 0 ∧ ok = true) ∨ (e = 14 ∧ ok = false)) := by
    by_cases hc : Wv h l = -170141183460469231731687303715884105728
    · rw [if_pos hc] at en
      exact ⟨0, 0, 14, false, neg_out h l b hc, en, .inr ⟨rfl, rfl⟩⟩
    · obtain ⟨p, q, e1, b1, w1⟩ := neg_in h l b hc
      obtain ⟨b2, w2⟩ := hn hc
      rw [if_neg hc] at en
      obtain ⟨rfl, rfl⟩ := Wv_inj b1 b2 (by rw [w1, w2])
      exact ⟨p, q, 0, true, e1, en, .inl ⟨rfl, rfl⟩⟩
  obtain ⟨p, q, e, ok, e1, e2, hcase⟩ := addE
  obtain ⟨r, s, f, is, e3, e4, hcase2⟩ := negE
  unfold corollarylaw02_WideAdds.f
  rw [e1, e2, e3, e4]
  simp only [Option.bind_some]
  rcases hcase with ⟨rfl, rfl⟩ | ⟨rfl, rfl⟩ <;> rcases hcase2 with ⟨rfl, rfl⟩ | ⟨rfl, rfl⟩
  all_goals (simp; exact aw _ _ _ _ _ rfl)
end Go.Proofs.Ytipcggfabjfobaa.Pure
