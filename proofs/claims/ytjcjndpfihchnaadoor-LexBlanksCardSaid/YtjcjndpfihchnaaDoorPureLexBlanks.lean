-- Plain laws of the printed functions (wip/l11).
import Derived.Test.YtjcjndpfihchnaaDoorPureQ5
import Derived.Test.YtjcjndpfihchnaaDoorStatLexBlanks
namespace Go.Proofs.YtjcjndpfihchnaaDoor.Pure
open Go.ChangeShapes Go.WideShapes Go.ChangeAt Go.RowKit Go.Proofs.YtjcjndpfihchnaaDoorW.PrintWords Go.Proofs.YtjcjndpfihchnaaDoorW.PrintLast Go.Proofs.YtjcjndpfihchnaaDoor.P Go.Proofs.YtjcjndpfihchnaaDoor.Open
set_option linter.unusedVariables false
set_option linter.unusedSimpArgs false
theorem LexBlanks_pure : Stat.LexBlanks := by
  intro a b _ _ _ _
  apply Ev.get
  unfold corollarylaw11_LexBlanks.f
  have off : Ev (fun k => corollarylaw11_LexBlanks.j0 k a b true) true := by
    apply Ev.succ
    simp only [corollarylaw11_LexBlanks.j0]
    exact Ev.pos trivial (Ev.bind awake_ev (Ev.pure _))
  by_cases ha : (a.size : Int) > 128
  · exact Ev.pos ha off
  · refine Ev.neg ha ?_
    by_cases hb : (b.size : Int) > 128
    · rw [decide_eq_true hb]; exact off
    · rw [decide_eq_false hb]
      apply Ev.succ
      simp only [corollarylaw11_LexBlanks.j0]
      refine Ev.neg (by decide) ?_
      obtain ⟨ts, e, hs⟩ := scans_all _ (L a) (Nat.le_refl _)
      obtain ⟨us, f, hu⟩ := scans_all _ (L b) (Nat.le_refl _)
      have hl := scans_len hs
      have hm := scans_len hu
      rw [L_len] at hl hm
      refine Ev.bind (Scan_ev a hs (by omega)) (Ev.bind (Scan_ev b hu (by omega)) ?_)
      have off2 : ∀ x y, Ev (fun k => corollarylaw11_LexBlanks.j1 k a b x y true) true := by
        intro x y
        apply Ev.succ
        simp only [corollarylaw11_LexBlanks.j1]
        exact Ev.pos trivial (Ev.bind awake_ev (Ev.pure _))
      by_cases he : e = 0
      · refine Ev.pos he ?_
        by_cases hf : f = 0
        · subst he hf
          apply Ev.succ
          simp only [corollarylaw11_LexBlanks.j1]
          have e32 : (⟨#[32]⟩ : ByteArray) = ⟨([32] : List UInt8).toArray⟩ := rfl
          have hz1 : (a ++ (⟨#[32]⟩ : ByteArray)).size = a.size + 1 := by rw [ByteArray.size_append]; rfl
          refine Ev.neg (by decide) (Ev.pos (by omega) (Ev.pos (by rw [hz1]; omega) ?_))
          have hw : (a ++ (⟨#[32]⟩ : ByteArray)) ++ b = ⟨(L a ++ 32 :: L b).toArray⟩ := by
            rw [e32]
            have ea := ba_L a
            have eb := ba_L b
            rw [← ea, ← eb, ba_append, ba_append]
            simp [L]
          rw [hw]
          have hz : (⟨(L a ++ 32 :: L b).toArray⟩ : ByteArray).size ≤ 512 := by rw [ba_size]; simp only [List.length_append, List.length_cons, L_len]; omega
          have sc := Scan_ev ⟨(L a ++ 32 :: L b).toArray⟩ (ts := ts ++ us) (e := 0) (by
            have : L (⟨(L a ++ 32 :: L b).toArray⟩ : ByteArray) = L a ++ 32 :: L b := by simp [L]
            rw [this]; exact scans_app hs rfl hu) hz
          refine Ev.bind sc (Ev.pos rfl (Ev.bind (Tokens_ev (ts ++ us) (by simp; omega)) (Ev.bind (Tokens_ev ts (by omega)) (Ev.bind (Tokens_ev us (by omega)) ?_))))
          refine Ev.pos (by simp; omega) ?_
          rw [← List.map_append]
          refine Ev.bind (Same_ev _ (by simp; omega)) (Ev.pos rfl (Ev.bind awake_ev (Ev.pure _)))
        · rw [show (f != 0) = true by simpa using hf]
          exact off2 _ _
      · exact Ev.neg he (off2 _ _)
end Go.Proofs.YtjcjndpfihchnaaDoor.Pure
