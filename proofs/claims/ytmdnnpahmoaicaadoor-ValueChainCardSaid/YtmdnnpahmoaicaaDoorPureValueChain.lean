-- Plain laws of the printed functions (wip/l01).
import Derived.Test.YtmdnnpahmoaicaaDoorPureOrd
import Derived.Test.YtmdnnpahmoaicaaDoorStatValueChain
namespace Go.Proofs.YtmdnnpahmoaicaaDoor.Pure
open Go.ChangeShapes Go.WideShapes Go.ChangeAt Go.RowKit Go.Proofs.YtmdnnpahmoaicaaDoorW.PrintWords Go.Proofs.YtmdnnpahmoaicaaDoorW.PrintLast Go.Proofs.YtmdnnpahmoaicaaDoor.P Go.Proofs.YtmdnnpahmoaicaaDoor.Open
set_option linter.unusedVariables false
set_option linter.unusedSimpArgs false
/-! ValueChain -/
theorem chain_ev (A B C : S23) : Ev (fun k => corollarylaw01_ValueChain.f k A.f0 A.f1 A.f2 B.f0 B.f1 B.f2 C.f0 C.f1 C.f2) true := by
  unfold corollarylaw01_ValueChain.f
  have ba := cmp_ev B A
  rw [cmpS_anti A B] at ba
  refine Ev.bind (cmp_ev A B) (Ev.bind (cmp_ev B C) (Ev.bind ba ?_))
  have r := cmpS_rng A B
  refine Ev.pos (by rw [w64 (by omega) (by omega)]; omega) ?_
  have e : ((cmpS A B == 0) != (A.f0 == B.f0 && (A.f1 == B.f1 && (A.f2.toList == B.f2.toList)))) = false := by
    rw [same_eq, cmpS_zero, bne_self_eq_false]
  rw [e]
  apply Ev.succ
  simp only [corollarylaw01_ValueChain.j0]
  apply Ev.neg (by decide)
  by_cases h1 : cmpS A B > 0
  · exact Ev.pos h1 (Ev.bind awake_ev (Ev.pure _))
  · apply Ev.neg h1
    by_cases h2 : cmpS B C > 0
    · exact Ev.pos h2 (Ev.bind awake_ev (Ev.pure _))
    · apply Ev.neg h2
      exact Ev.bind (cmp_ev A C) (Ev.pos (cmpS_le A B C (by omega) (by omega)) (Ev.bind awake_ev (Ev.pure _)))
theorem ValueChain_pure : Stat.ValueChain := by
  intro a0 a1 a2 b0 b1 b2 c0 c1 c2 _ _ _
  exact (chain_ev ⟨a0, a1, a2⟩ ⟨b0, b1, b2⟩ ⟨c0, c1, c2⟩).get
end Go.Proofs.YtmdnnpahmoaicaaDoor.Pure
