-- HALVED
import Derived.Test.YtckligjgnbgdiaaDoorPureB10
import Derived.Test.YtckligjgnbgdiaaDoorPureRefR
import Derived.Test.YtckligjgnbgdiaaDoorPureEq
import Derived.Test.YtckligjgnbgdiaaDoorStatBagSums
namespace Go.Proofs.YtckligjgnbgdiaaDoor.Pure
open Go.ChangeShapes Go.WideShapes Go.ChangeAt Go.RowKit Go.Proofs.YtckligjgnbgdiaaDoorW.PrintWords Go.Proofs.YtckligjgnbgdiaaDoorW.PrintLast Go.Proofs.YtckligjgnbgdiaaDoor.P Go.Proofs.YtckligjgnbgdiaaDoor.Open
set_option linter.unusedVariables false
set_option linter.unusedSimpArgs false
theorem okL_neg {a : List S27} (oa : okL a) (hra : bagR a = true) : okL (a.map negC) := ⟨by rw [List.length_map]; exact oa.1, fun x hx => by
 obtain ⟨d, hd, rfl⟩ := List.mem_map.1 hx
 have hf := fit_rng ((bagR_all hra).1 d hd).1
 refine ⟨(oa.2 d hd).1, ?_, ?_⟩
 ·show (-9223372036854775808 : Int) ≤ -d.f1; omega
 ·show -d.f1 ≤ 9223372036854775807; omega⟩
theorem BagSums_ev (a b : List S27) (wa : wf_L27_T27 a) (wb : wf_L27_T27 b) : Ev (fun k => corollarylaw13_BagSums.f k a b) true := by
 unfold corollarylaw13_BagSums.f
 have stop : Ev (fun k => corollarylaw13_BagSums.j0 k a b true) true := by
  apply Ev.succ
  simp only [corollarylaw13_BagSums.j0]
  exact Ev.pos trivial (Ev.bind awake_ev (Ev.pure _))
 refine Ev.bind (small_ev a) ?_
 by_cases ha : Small a
 case neg => rw [decide_eq_false ha]; exact Ev.neg (by decide) stop
 rw [decide_eq_true ha]
 refine Ev.pos rfl (Ev.bind (small_ev b) ?_)
 by_cases hb : Small b
 case neg => rw [decide_eq_false hb]; exact stop
 rw [decide_eq_true hb]
 have oa := okL_of ha wa
 have ob := okL_of hb wb
 have la := ha.1
 have lb := hb.1
 have hsum := sum2 ha hb wa wb
 apply Ev.succ
 simp only [corollarylaw13_BagSums.j0]
 refine Ev.neg (by decide) (Ev.bind hsum (Ev.bind (negs_ev a oa) (Ev.bind (refR_ev a oa) ?_)))
 by_cases hra : bagR a = true
 ·rw [hra]
  refine Ev.pos rfl ?_
  have hneg : negS a = (a.map negC, 0) := by unfold negS; rw [if_pos hra]
  rw [hneg]
  have j2_ : Ev (fun k => corollarylaw13_BagSums.j2 k a b (sumS [a, b]).1 (sumS [a, b]).2 ((0 : Int) != 0)) true := by
   apply Ev.succ
   simp only [corollarylaw13_BagSums.j2]
   refine Ev.neg (by decide) (Ev.bind (refR_ev b ob) ?_)
   by_cases hrb : bagR b = true
   ·rw [hrb]
    have es : sumS [a, b] = sortS (a ++ b) := by
     unfold sumS
     rw [if_pos (by simp [hra, hrb])]
     simp
    have oab : okL (a ++ b) := ⟨by rw [List.length_append]; omega, fun c hc => by
     rcases List.mem_append.1 hc with h | h
     ·exact oa.2 c h
     ·exact ob.2 c h⟩
    have hS := refS_ev (a ++ b) oab
    rw [es]
    refine Ev.pos rfl (Ev.pos (by simp only [List.length_nil]; omega) (Ev.bind (Ev.of rfl) (Ev.pos (by rw [List.nil_append]; omega) ?_)))
    rw [List.nil_append]
    refine Ev.bind hS (Ev.bind (eq_ev _ _ (sortS_okL oab)) ?_)
    rw [decide_eq_true rfl]
    exact Ev.pos rfl (Ev.pos rfl (Ev.bind awake_ev (Ev.pure _)))
   ·have es : sumS [a, b] = ([], 1) := by
     unfold sumS
     rw [if_neg (by simp [hrb])]
    rw [Bool.eq_false_iff.2 hrb, es]
    exact Ev.neg (by decide) (Ev.pos rfl (Ev.pos rfl (Ev.bind awake_ev (Ev.pure _))))
  have loop : ∀ (t : List S27) (i : Nat), a.drop i = t → Ev (fun k => corollarylaw13_BagSums.l0 k a b (sumS [a, b]).1 (sumS [a, b]).2 (a.map negC) 0 ((a.take i).map negC) a (a.length : Int) (i : Int)) true := by
   intro t
   induction t with
   | nil =>
    intro i h
    apply Ev.succ
    simp only [corollarylaw13_BagSums.l0]
    rw [List.take_of_length_le (List.drop_eq_nil_iff.1 h)]
    refine Ev.neg (dn h) (Ev.bind (eq_ev _ _ (okL_neg oa hra)) ?_)
    rw [decide_eq_true rfl]
    exact Ev.pos rfl j2_
   | cons c t ih =>
    intro i h
    obtain ⟨h1, h2, h3, h4, h5⟩ := ds h
    have hf := fit_rng ((bagR_all hra).1 c (List.mem_of_getElem? h5)).1
    apply Ev.succ
    simp only [corollarylaw13_BagSums.l0]
    have e : rd_T27 a (i : Int) = c := h2 _
    rw [e, ws (by omega), w64 (n := -c.f1) (by omega) (by omega)]
    refine Ev.pos h1 (Ev.pos (nn i) (Ev.pos h1 (Ev.pos (by rw [List.length_map, List.length_take]; omega) ?_)))
    have hc : a[i] = c := by rw [List.getElem?_eq_getElem h4] at h5; exact Option.some.inj h5
    have ht : (a.take (i + 1)).map negC = (a.take i).map negC ++ [negC c] := by
     rw [List.take_succ_eq_append_getElem h4, List.map_append, hc]
     rfl
    have := ih (i + 1) h3
    rw [ht] at this
    exact this
  exact loop a 0 rfl
 ·rw [Bool.eq_false_iff.2 hra]
  have es : sumS [a, b] = ([], 1) := by
   unfold sumS
   rw [if_neg (by simp [hra])]
  have hneg : negS a = ([], 1) := by unfold negS; rw [if_neg hra]
  rw [es, hneg]
  exact Ev.neg (by decide) (Ev.pos rfl (Ev.pos rfl (Ev.pos rfl (Ev.pos rfl (Ev.bind awake_ev (Ev.pure _))))))
theorem BagSums_pure : Stat.BagSums := fun a b wa wb => (BagSums_ev a b wa wb).get
end Go.Proofs.YtckligjgnbgdiaaDoor.Pure
