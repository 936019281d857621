/- the plain law -/
import Derived.Test.YtipcggfabjfobaaPureBase
import Derived.Test.YtipcggfabjfobaaStatWideChain
import Derived.Test.YtipcggfabjfobaaPx31
namespace Go.Proofs.Ytipcggfabjfobaa.Pure
open Go.ChangeShapes Go.WideShapes Go.ChangeAt Go.RowKit Go.Proofs.YtipcggfabjfobaaW.PrintWords Go.Proofs.YtipcggfabjfobaaW.PrintLast Go.Proofs.Ytipcggfabjfobaa.P Go.Proofs.Ytipcggfabjfobaa.Open
theorem WideChain_pure : Stat.WideChain := by
  intro h l h' l' h'' l'' hw hw' hw''
  have b : Wb h l := by
    have h1 := b64 hw.1
    have h2 := bu64 hw.2
    unfold Wb
    simp only at h1 h2
    omega
  have b' : Wb h' l' := by
    have h1 := b64 hw'.1
    have h2 := bu64 hw'.2
    unfold Wb
    simp only at h1 h2
    omega
  have b'' : Wb h'' l'' := by
    have h1 := b64 hw''.1
    have h2 := bu64 hw''.2
    unfold Wb
    simp only at h1 h2
    omega
  refine ⟨3, ?_⟩
  unfold corollarylaw02_WideChain.f
  rw [cmpW 0 h l h' l' b b', cmpW 0 h' l' h'' l'' b' b'', cmpW 0 h' l' h l b' b]
  simp only [Option.bind_some]
  have w1 : wrap64 (-1) = -1 := by (unfold wrap64; omega)
  have w2 : wrap64 (-(-1)) = 1 := by (unfold wrap64; omega)
  have w0 : wrap64 (-0) = 0 := by (unfold wrap64; omega)
  have hne : Wv h l ≠ Wv h' l' → (h == h' && (l == l')) = false := by
    intro hn
    rw [Bool.eq_false_iff]
    intro hq
    simp only [Bool.and_eq_true, beq_iff_eq] at hq
    exact hn (by rw [hq.1, hq.2])
  rcases Int.lt_trichotomy (Wv h l) (Wv h' l') with hc | hc | hc
  · rw [if_pos hc, if_neg (show ¬ Wv h' l' < Wv h l by omega), if_pos (show Wv h' l' > Wv h l by omega), w1, if_pos (by simp), hne (by omega), if_pos (by decide), if_neg (by decide)]
    rcases Int.lt_trichotomy (Wv h' l') (Wv h'' l'') with hd | hd | hd
    · rw [if_pos hd, if_neg (by decide), cmpW 0 h l h'' l'' b b'', if_pos (by omega)]
      simp only [Option.bind_some]
      rw [if_pos (by decide), awake3]; rfl
    · rw [if_neg (show ¬ Wv h' l' < Wv h'' l'' by omega), if_neg (show ¬ Wv h' l' > Wv h'' l'' by omega), if_neg (by decide), cmpW 0 h l h'' l'' b b'', if_pos (by omega)]
      simp only [Option.bind_some]
      rw [if_pos (by decide), awake3]; rfl
    · rw [if_neg (show ¬ Wv h' l' < Wv h'' l'' by omega), if_pos hd, if_pos (by decide), awake3]; rfl
  · obtain ⟨rfl, rfl⟩ := Wv_inj b b' hc
    rw [if_neg (show ¬ Wv h l < Wv h l by omega), if_neg (show ¬ Wv h l > Wv h l by omega), w0, if_pos (by simp), if_pos (by simp), if_neg (by decide)]
    rcases Int.lt_trichotomy (Wv h l) (Wv h'' l'') with hd | hd | hd
    · rw [if_pos hd, if_neg (by decide), cmpW 0 h l h'' l'' b b'', if_pos (by omega)]
      simp only [Option.bind_some]
      rw [if_pos (by decide), awake3]; rfl
    · rw [if_neg (show ¬ Wv h l < Wv h'' l'' by omega), if_neg (show ¬ Wv h l > Wv h'' l'' by omega), if_neg (by decide), cmpW 0 h l h'' l'' b b'', if_neg (by omega), if_neg (by omega)]
      simp only [Option.bind_some]
      rw [if_pos (by decide), awake3]; rfl
    · rw [if_neg (show ¬ Wv h l < Wv h'' l'' by omega), if_pos hd, if_pos (by decide), awake3]; rfl
  · rw [if_neg (show ¬ Wv h l < Wv h' l' by omega), if_pos hc, if_pos (show Wv h' l' < Wv h l by omega), w2, if_pos (by simp), hne (by omega), if_pos (by decide), if_pos (by decide), awake3]; rfl
end Go.Proofs.Ytipcggfabjfobaa.Pure
