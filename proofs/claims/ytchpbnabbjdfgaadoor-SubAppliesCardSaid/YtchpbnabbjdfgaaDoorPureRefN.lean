-- HALVED
import Derived.Test.YtchpbnabbjdfgaaDoorPureEq
import Derived.Test.YtchpbnabbjdfgaaDoorPx0
import Derived.Test.YtchpbnabbjdfgaaDoorPx108
namespace Go.Proofs.YtchpbnabbjdfgaaDoor.Pure
open Go.ChangeShapes Go.WideShapes Go.ChangeAt Go.RowKit Go.Proofs.YtchpbnabbjdfgaaDoorW.PrintWords Go.Proofs.YtchpbnabbjdfgaaDoorW.PrintLast Go.Proofs.YtchpbnabbjdfgaaDoor.P Go.Proofs.YtchpbnabbjdfgaaDoor.Open
set_option linter.unusedVariables false
set_option linter.unusedSimpArgs false
theorem refN_go (l : List S81) (hl : okL l) (r : List S105) (hf : ∀ c ∈ l, fit c.f1 = true) : ∀ (t : List S81) (i : Nat) (n : Int), l.drop i = t → -(1099511627776 * (i : Int)) ≤ n → n ≤ 1099511627776 * (i : Int) → Ev (fun k => zbi.l0 k l r n (i : Int)) (n + cnt t r)
 | [], i, n, h, _, _ => by
  apply Ev.succ
  simp only [zbi.l0, cnt, Int.add_zero]
  exact Ev.neg (dn h) (Ev.pure _)
 | c :: t, i, n, h, hn1, hn2 => by
  obtain ⟨h1, h2, h3, h4, h5⟩ := ds h
  have hll := hl.1
  have hm := List.mem_of_getElem? h5
  have hc := fit_rng (hf c hm)
  apply Ev.succ
  simp only [zbi.l0]
  have e : zal l (i : Int) = c := h2 _
  rw [e, ws (by omega), w64 (n := n + c.f1) (by omega) (by omega)]
  refine Ev.pos h1 (Ev.pos (nn i) (Ev.bind (same_ev c.f0 r (hl.2 c hm).1) ?_))
  simp only [cnt]
  by_cases he : c.f0 = r
  ·rw [decide_eq_true he, if_pos he, ← Int.add_assoc]
   exact Ev.pos rfl (refN_go l hl r hf t (i + 1) (n + c.f1) h3 (by omega) (by omega))
  ·rw [decide_eq_false he, if_neg he, Int.zero_add]
   exact Ev.neg (by decide) (refN_go l hl r hf t (i + 1) n h3 (by omega) (by omega))
theorem refN_ev (l : List S81) (hl : okL l) (r : List S105) (hf : ∀ c ∈ l, fit c.f1 = true) : Ev (fun k => zbi.f k l r) (cnt l r) := by
 have := refN_go l hl r hf l 0 0 rfl (by omega) (by omega)
 rw [Int.zero_add] at this
 exact this
end Go.Proofs.YtchpbnabbjdfgaaDoor.Pure
