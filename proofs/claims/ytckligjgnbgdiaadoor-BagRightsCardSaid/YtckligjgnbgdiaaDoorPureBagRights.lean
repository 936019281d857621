-- HALVED
-- Plain laws of the printed functions (wip/l13).
import Derived.Test.YtckligjgnbgdiaaDoorPureRefR
import Derived.Test.YtckligjgnbgdiaaDoorPureRefN
import Derived.Test.YtckligjgnbgdiaaDoorStatBagRights
namespace Go.Proofs.YtckligjgnbgdiaaDoor.Pure
open Go.ChangeShapes Go.WideShapes Go.ChangeAt Go.RowKit Go.Proofs.YtckligjgnbgdiaaDoorW.PrintWords Go.Proofs.YtckligjgnbgdiaaDoorW.PrintLast Go.Proofs.YtckligjgnbgdiaaDoor.P Go.Proofs.YtckligjgnbgdiaaDoor.Open
set_option linter.unusedVariables false
set_option linter.unusedSimpArgs false
/-! BagRights, BagCounts -/
theorem wrap_add (a b : Int) : wrap64 (wrap64 a + b) = wrap64 (a + b) := by unfold wrap64; omega
theorem wrap_id (a : Int) : wrap64 (wrap64 a) = wrap64 a := by unfold wrap64; omega
theorem BagRights_ev (l : List S27) (r : List S51) (hw : wf_L27_T27 l) (hr : wf_L51_T51 r) : Ev (fun k => corollarylaw13_BagRights.f k l r) true := by
 unfold corollarylaw13_BagRights.f
 refine Ev.bind (small_ev l) ?_
 have stop : Ev (fun k => corollarylaw13_BagRights.j0 k l r true) true := by
  apply Ev.succ
  simp only [corollarylaw13_BagRights.j0]
  exact Ev.pos trivial (Ev.bind awake_ev (Ev.pure _))
 by_cases hs : Small l
 ·rw [decide_eq_true hs]
  refine Ev.pos rfl ?_
  by_cases h40 : (r.length : Int) > 40
  ·rw [decide_eq_true h40]; exact stop
  ·rw [decide_eq_false h40]
   have hl := okL_of hs hw
   have hrr : okR r := okR_of (by omega) hr
   apply Ev.succ
   simp only [corollarylaw13_BagRights.j0]
   refine Ev.neg (by decide) (Ev.bind (refR_ev l hl) ?_)
   have loop : ∀ (t : List S27) (i : Nat) (w : Bool) (n : Int), l.drop i = t → (∃ m : Int, n = wrap64 m ∧ m + total t = total l) → (w && !t.any (fun c => decide (c.f1 ≤ 0))) = (bagR l && !l.any (fun c => decide (c.f1 ≤ 0))) →
     Ev (fun k => corollarylaw13_BagRights.l0 k l r (bagR l) w n l (l.length : Int) (i : Int)) true := by
    intro t
    induction t with
    | nil =>
     intro i w n h hn hwq
     obtain ⟨m, hm, hmt⟩ := hn
     simp only [total, Int.add_zero] at hmt
     simp only [List.any_nil, Bool.not_false, Bool.and_true] at hwq
     apply Ev.succ
     simp only [corollarylaw13_BagRights.l0]
     apply Ev.neg (dn h)
     by_cases hb : bagR l = true
     ·have hall := (bagR_all hb).1
      have hn_ev := n_ev l hl r hrr
      have hs_ev := size_ev l hl
      have hw_ev := whole_ev l hl
      have hcn := refN_ev l hl r (fun c hc => (hall c hc).1)
      rw [if_pos hb] at hn_ev hs_ev
      have hrng := total_rng l (fun c hc => (hall c hc).1)
      have hlen := hs.1
      have hn' : n = total l := by rw [hm, hmt, w64 (by omega) (by omega)]
      have hpos : (l.any fun c => decide (c.f1 < 0)) = (l.any fun c => decide (c.f1 ≤ 0)) := by
       rw [Bool.eq_iff_iff, List.any_eq_true, List.any_eq_true]
       constructor
       ·rintro ⟨c, hc, h'⟩
        have h'' := of_decide_eq_true h'
        exact ⟨c, hc, decide_eq_true (by omega)⟩
       ·rintro ⟨c, hc, h'⟩
        have h'' := of_decide_eq_true h'
        have := (hall c hc).2.1
        exact ⟨c, hc, decide_eq_true (by omega)⟩
      have hwh : wholeR l = w := by unfold wholeR; rw [hpos, hwq]
      rw [hwh] at hw_ev
      rw [hb]
      refine Ev.pos rfl (Ev.bind (by have := right_ev l hl; rw [hb] at this; exact this) (Ev.pos rfl (Ev.bind hw_ev ?_)))
      have tail_ : Ev (fun k => (bag_N.f k l r).bind fun t261 => (corollaryref13_N.f k l r).bind fun t262 => if t261 = t262 then ((bag_Size.f k l).bind fun t263 => (if t263 = n then ((corollarylaw13_awake.f k).bind fun t264 => (some t264)) else (some false))) else (some false)) true :=
       Ev.bind hn_ev (Ev.bind hcn (Ev.pos rfl (Ev.bind hs_ev (Ev.pos hn'.symm (Ev.bind awake_ev (Ev.pure _))))))
      by_cases hwt : w = true
      ·rw [hwt]
       exact Ev.pos rfl (Ev.pos rfl tail_)
      ·rw [Bool.eq_false_iff.2 hwt]
       exact Ev.neg (by decide) (Ev.neg (by decide) tail_)
     ·have hb' := Bool.eq_false_iff.2 hb
      have hn_ev := n_ev l hl r hrr
      have hs_ev := size_ev l hl
      have hw_ev := whole_ev l hl
      rw [if_neg hb] at hn_ev hs_ev
      have : wholeR l = false := by unfold wholeR; rw [hb', Bool.false_and]
      rw [this] at hw_ev
      rw [hb']
      refine Ev.neg (by decide) (Ev.bind (by have := right_ev l hl; rw [hb'] at this; exact this) (Ev.neg (by decide) (Ev.bind hw_ev (Ev.neg (by decide) (Ev.bind hn_ev (Ev.pos rfl (Ev.bind hs_ev (Ev.pos rfl (Ev.bind awake_ev (Ev.pure _))))))))))
    | cons c t ih =>
     intro i w n h hn hwq
     obtain ⟨h1, h2, h3, h4, h5⟩ := ds h
     obtain ⟨m, hm, hmt⟩ := hn
     have hll := hs.1
     apply Ev.succ
     simp only [corollarylaw13_BagRights.l0]
     have e : rd_T27 l (i : Int) = c := h2 _
     rw [e, ws (by omega)]
     refine Ev.pos h1 (Ev.pos (nn i) (Ev.pos h1 ?_))
     have hn2 : ∃ m' : Int, wrap64 (n + c.f1) = wrap64 m' ∧ m' + total t = total l := ⟨m + c.f1, by rw [hm, wrap_add], by simp only [total] at hmt; omega⟩
     rw [List.any_cons] at hwq
     by_cases hwt : w = true
     ·rw [hwt] at hwq ⊢
      refine Ev.pos rfl (ih (i + 1) _ _ h3 hn2 ?_)
      rw [← hwq]
      by_cases hc : c.f1 > 0
      ·rw [decide_eq_true hc, decide_eq_false (by omega : ¬ c.f1 ≤ 0), Bool.false_or]
      ·rw [decide_eq_false hc, decide_eq_true (by omega : c.f1 ≤ 0), Bool.true_or]; rfl
     ·rw [Bool.eq_false_iff.2 hwt] at hwq ⊢
      refine Ev.neg (by decide) (ih (i + 1) _ _ h3 hn2 ?_)
      rw [← hwq, Bool.false_and, Bool.false_and]
   refine loop l 0 (bagR l) 0 rfl ⟨0, by decide +kernel, by rw [Int.zero_add]⟩ rfl
 ·rw [decide_eq_false hs]
  exact Ev.neg (by decide) stop
theorem BagRights_pure : Stat.BagRights := fun l r hw hr => (BagRights_ev l r hw hr).get
end Go.Proofs.YtckligjgnbgdiaaDoor.Pure
