-- HALVED
import Derived.Test.YtchpbnabbjdfgaaDoorPureE10
import Derived.Test.YtchpbnabbjdfgaaDoorStatSubApplies
import Derived.Test.YtchpbnabbjdfgaaDoorPx118
namespace Go.Proofs.YtchpbnabbjdfgaaDoor.Pure
open Go.ChangeShapes Go.WideShapes Go.ChangeAt Go.RowKit Go.Proofs.YtchpbnabbjdfgaaDoorW.PrintWords Go.Proofs.YtchpbnabbjdfgaaDoorW.PrintLast Go.Proofs.YtchpbnabbjdfgaaDoor.P Go.Proofs.YtchpbnabbjdfgaaDoor.Open
set_option linter.unusedVariables false
set_option linter.unusedSimpArgs false
theorem SubApplies_ev (s a : List S56) (ws : zgy s) (wa : zgy a) : Ev (fun k => zau.f k s a) true := by
 have stop : Ev (fun k => zau.j0 k s a true) true := by
  apply Ev.succ
  simp only [zau.j0]
  exact Ev.pos trivial aw1
 unfold zau.f
 refine Ev.bind (few_ev s) ?_
 by_cases f1 : FewC s
 ·rw [decide_eq_true f1]
  refine Ev.pos rfl (Ev.bind (few_ev a) ?_)
  by_cases f2 : FewC a
  ·rw [decide_eq_true f2]
   have os := f1.ok ws
   have oa := f2.ok wa
   have ls := f1.1
   have la := f2.1
   apply Ev.succ
   simp only [zau.j0]
   refine Ev.neg (by decide) (Ev.bind (apply_ev s a os oa (by omega) (by omega) (by omega)) (Ev.bind (refapply_ev s a os oa (by omega) (by omega) (by omega)) ?_))
   have o1 := applyS_ok os oa (by omega)
   refine Ev.bind (samech_ev _ _ (by omega) (fun c hc => (o1.1.2 c hc).2.1)) ?_
   rw [decide_eq_true rfl]
   exact Ev.pos rfl (Ev.pos rfl aw1)
  ·rw [decide_eq_false f2]; exact stop
 ·rw [decide_eq_false f1]
  exact Ev.neg (by decide) stop
theorem SubApplies_pure : Stat.SubApplies := by
 intro l0 l1 w0 w1
 exact (SubApplies_ev l0 l1 w0 w1).imp fun k h => h k (Nat.le_refl k)
end Go.Proofs.YtchpbnabbjdfgaaDoor.Pure
