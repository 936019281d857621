-- Plain laws of the printed functions (wip/l11).
import Derived.Test.YtjcjndpfihchnaaDoorPureQ5b
import Derived.Test.YtjcjndpfihchnaaDoorStatLexScans
namespace Go.Proofs.YtjcjndpfihchnaaDoor.Pure
open Go.ChangeShapes Go.WideShapes Go.ChangeAt Go.RowKit Go.Proofs.YtjcjndpfihchnaaDoorW.PrintWords Go.Proofs.YtjcjndpfihchnaaDoorW.PrintLast Go.Proofs.YtjcjndpfihchnaaDoor.P Go.Proofs.YtjcjndpfihchnaaDoor.Open
set_option linter.unusedVariables false
set_option linter.unusedSimpArgs false
theorem LexScans_pure : Stat.LexScans := by
  intro a0 _ _
  apply Ev.get
  unfold corollarylaw11_LexScans.f
  by_cases h : (a0.size : Int) > 1024
  · exact Ev.pos h (Ev.bind awake_ev (Ev.pure _))
  · refine Ev.neg h ?_
    by_cases h2 : (a0.size : Int) > 512
    · have e1 : Ev (fun k => lex_Scan.f k a0) (([] : List Tok).map toT, 5) := by
        unfold lex_Scan.f
        exact Ev.pos h2 (Ev.pure _)
      have e2 : Ev (fun k => corollaryref11_Scan.f k a0) (([] : List Tok).map toR, 5) := by
        unfold corollaryref11_Scan.f
        exact Ev.pos h2 (Ev.pure _)
      refine Ev.bind e1 (Ev.bind e2 (Ev.bind (Tokens_ev [] (by simp)) (Ev.bind (Same_ev _ (by simp)) ?_)))
      exact Ev.pos rfl (Ev.pos rfl (Ev.bind awake_ev (Ev.pure _)))
    · obtain ⟨ts, e, hs⟩ := scans_all _ (L a0) (Nat.le_refl _)
      have hl := scans_len hs
      rw [L_len] at hl
      refine Ev.bind (Scan_ev a0 hs (by omega)) (Ev.bind (RefScan_ev a0 hs (by omega)) (Ev.bind (Tokens_ev ts (by omega)) (Ev.bind (Same_ev _ (by simp; omega)) ?_)))
      exact Ev.pos rfl (Ev.pos rfl (Ev.bind awake_ev (Ev.pure _)))
end Go.Proofs.YtjcjndpfihchnaaDoor.Pure
