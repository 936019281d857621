-- HALVED
-- Plain laws of the printed functions (wip/l13).
import Derived.Test.YtckligjgnbgdiaaDoorPureBOf
import Derived.Test.YtckligjgnbgdiaaDoorPureRefN
import Derived.Test.YtckligjgnbgdiaaDoorStatBagOnce
namespace Go.Proofs.YtckligjgnbgdiaaDoor.Pure
open Go.ChangeShapes Go.WideShapes Go.ChangeAt Go.RowKit Go.Proofs.YtckligjgnbgdiaaDoorW.PrintWords Go.Proofs.YtckligjgnbgdiaaDoorW.PrintLast Go.Proofs.YtckligjgnbgdiaaDoor.P Go.Proofs.YtckligjgnbgdiaaDoor.Open
set_option linter.unusedVariables false
set_option linter.unusedSimpArgs false
theorem total_ofS : ∀ l : List (List S51), total (ofS l) = (l.length : Int)
 | [] => rfl
 | r :: l => by
  show (1 : Int) + total (ofS l) = _
  rw [total_ofS l, List.length_cons]
  omega
theorem cnt_ofS_nn (x : List S51) : ∀ l : List (List S51), 0 ≤ cnt (ofS l) x
 | [] => Int.le_refl 0
 | r :: l => by
  show 0 ≤ (if r = x then (1 : Int) else 0) + cnt (ofS l) x
  have := cnt_ofS_nn x l
  split <;> omega
theorem BagOnce_ev (l : List (List S51)) (hr : wf_L23_L51_T51 l) (hb : l.length ≤ 1048576) : Ev (fun k => corollarylaw13_BagOnce.f k l) true := by
 unfold corollarylaw13_BagOnce.f
 refine Ev.bind (refOf_ev l hb) (Ev.bind (small_ev (ofS l)) ?_)
 by_cases hm : Small (ofS l)
 case neg => rw [decide_eq_false hm]; exact Ev.neg (by decide) (Ev.bind awake_ev (Ev.pure _))
 rw [decide_eq_true hm]
 have oro := okRs hm hr
 have lr := (small_ofS hm).1
 have oo := okL_ofS (show l.length ≤ 1000000 by omega) oro
 refine Ev.pos rfl (Ev.bind (of_ev l (by omega) oro) ?_)
 by_cases h0 : (sortS (ofS l)).2 = 0
 ·refine Ev.pos h0 ?_
  have os := sortS_okL oo
  have hs1 := size_ev _ os
  rw [if_pos sortS_right, sortS_total h0, total_ofS] at hs1
  have hw1 := whole_ev _ os
  have hwt : wholeR (sortS (ofS l)).1 = true := by
   unfold wholeR
   rw [sortS_right, Bool.true_and, Bool.not_eq_true', List.any_eq_false]
   intro c hc
   have h1 := (sortS_fst (ofS l)).2.1 c hc
   have h2 := cnt_ofS_nn c.f0 l
   rw [← h1.2.2.2] at h2
   simpa using h2
  rw [hwt] at hw1
  have hff : ∀ c ∈ ofS l, fit c.f1 = true := fun c hc => by
   obtain ⟨r, _, rfl⟩ := List.mem_map.1 hc
   show fit 1 = true
   decide
  have loop : ∀ (t : List (List S51)) (i : Nat), l.drop i = t → Ev (fun k => corollarylaw13_BagOnce.l0 k l (sortS (ofS l)).1 l (l.length : Int) (i : Int)) true := by
   intro t
   induction t with
   | nil =>
    intro i h
    apply Ev.succ
    simp only [corollarylaw13_BagOnce.l0]
    exact Ev.neg (dn h) (Ev.bind hs1 (Ev.pos rfl (Ev.bind hw1 (Ev.pos rfl (Ev.bind awake_ev (Ev.pure _))))))
   | cons c t ih =>
    intro i h
    obtain ⟨h1, h2, h3, h4, h5⟩ := ds h
    have hc := oro c (List.mem_of_getElem? h5)
    apply Ev.succ
    simp only [corollarylaw13_BagOnce.l0]
    have e : rd_L3 l (i : Int) = c := h2 _
    rw [e, ws (by omega)]
    have hn := n_ev _ os c hc
    rw [if_pos sortS_right, sortS_cnt h0] at hn
    exact Ev.pos h1 (Ev.pos (nn i) (Ev.pos h1 (Ev.bind hn (Ev.bind (refOf_ev l hb) (Ev.bind (refN_ev _ oo c hff) (Ev.pos rfl (ih (i + 1) h3)))))))
  exact loop l 0 rfl
 ·refine Ev.neg h0 ?_
  rw [sortS_err h0]
  exact Ev.pos rfl (Ev.bind awake_ev (Ev.pure _))
theorem BagOnce_pure : Stat.BagOnce := fun l hw hb => (BagOnce_ev l hw hb).get
end Go.Proofs.YtckligjgnbgdiaaDoor.Pure
