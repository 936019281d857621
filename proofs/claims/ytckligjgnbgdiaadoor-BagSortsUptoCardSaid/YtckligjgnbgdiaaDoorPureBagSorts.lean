-- HALVED
-- Plain laws of the printed functions (wip/l13).
import Derived.Test.YtckligjgnbgdiaaDoorPureB10
import Derived.Test.YtckligjgnbgdiaaDoorPureEq
import Derived.Test.YtckligjgnbgdiaaDoorPureBOf
import Derived.Test.YtckligjgnbgdiaaDoorStatBagSorts
namespace Go.Proofs.YtckligjgnbgdiaaDoor.Pure
open Go.ChangeShapes Go.WideShapes Go.ChangeAt Go.RowKit Go.Proofs.YtckligjgnbgdiaaDoorW.PrintWords Go.Proofs.YtckligjgnbgdiaaDoorW.PrintLast Go.Proofs.YtckligjgnbgdiaaDoor.P Go.Proofs.YtckligjgnbgdiaaDoor.Open
set_option linter.unusedVariables false
set_option linter.unusedSimpArgs false
theorem BagSorts_ev (l : List S27) (rows : List (List S51)) (hw : wf_L27_T27 l) (hr : wf_L23_L51_T51 rows) (hb : rows.length ≤ 1048576) : Ev (fun k => corollarylaw13_BagSorts.f k l rows) true := by
 unfold corollarylaw13_BagSorts.f
 have stop : ∀ m, Ev (fun k => corollarylaw13_BagSorts.j0 k l rows m true) true := by
  intro m
  apply Ev.succ
  simp only [corollarylaw13_BagSorts.j0]
  exact Ev.pos trivial (Ev.bind awake_ev (Ev.pure _))
 refine Ev.bind (refOf_ev rows hb) (Ev.bind (small_ev l) ?_)
 by_cases hs : Small l
 case neg => rw [decide_eq_false hs]; exact Ev.neg (by decide) (stop _)
 rw [decide_eq_true hs]
 refine Ev.pos rfl (Ev.bind (small_ev (ofS rows)) ?_)
 by_cases hm : Small (ofS rows)
 case neg => rw [decide_eq_false hm]; exact stop _
 rw [decide_eq_true hm]
 have ol := okL_of hs hw
 have oro := okRs hm hr
 have lr := (small_ofS hm).1
 have oo := okL_ofS (show rows.length ≤ 1000000 by omega) oro
 apply Ev.succ
 simp only [corollarylaw13_BagSorts.j0]
 refine Ev.neg (by decide) (Ev.bind (sort_ev l ol) (Ev.bind (refS_ev l ol) (Ev.bind (of_ev rows (by omega) oro) (Ev.bind (refS_ev _ oo) (Ev.bind (eq_ev _ _ (sortS_okL ol)) ?_)))))
 rw [decide_eq_true rfl]
 refine Ev.pos rfl (Ev.pos rfl (Ev.bind (eq_ev _ _ (sortS_okL oo)) ?_))
 rw [decide_eq_true rfl]
 exact Ev.pos rfl (Ev.pos rfl (Ev.bind awake_ev (Ev.pure _)))
theorem BagSorts_pure : Stat.BagSorts := fun l r hw _ hr hb => (BagSorts_ev l r hw hr hb).get
end Go.Proofs.YtckligjgnbgdiaaDoor.Pure
