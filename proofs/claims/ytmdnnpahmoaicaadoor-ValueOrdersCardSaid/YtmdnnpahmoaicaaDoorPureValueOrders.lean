-- Plain laws of the printed functions (wip/l01).
import Derived.Test.YtmdnnpahmoaicaaDoorPureBefore
import Derived.Test.YtmdnnpahmoaicaaDoorStatValueOrders
namespace Go.Proofs.YtmdnnpahmoaicaaDoor.Pure
open Go.ChangeShapes Go.WideShapes Go.ChangeAt Go.RowKit Go.Proofs.YtmdnnpahmoaicaaDoorW.PrintWords Go.Proofs.YtmdnnpahmoaicaaDoorW.PrintLast Go.Proofs.YtmdnnpahmoaicaaDoor.P Go.Proofs.YtmdnnpahmoaicaaDoor.Open
set_option linter.unusedVariables false
set_option linter.unusedSimpArgs false
theorem orders_ev (a b : S23) (ha : a.f2.size ≤ 9223372036854775807) (hb : b.f2.size ≤ 9223372036854775807) : Ev (fun k => corollarylaw01_ValueOrders.f k a.f0 a.f1 a.f2 b.f0 b.f1 b.f2) true := by
  have last : Ev (fun k => corollarylaw01_ValueOrders.j1 k (cmpS a b) a.f0 a.f1 a.f2 b.f0 b.f1 b.f2) true := by
    apply Ev.succ
    simp only [corollarylaw01_ValueOrders.j1]
    rw [right_eq]
    simp only [Option.bind_some]
    refine Ev.bind (refRight_ev a (by omega)) ?_
    by_cases h : vR a = true
    · exact Ev.pos h (Ev.pos h (Ev.bind (cmp_ev a b) (Ev.pos rfl (Ev.bind awake_ev (Ev.pure _)))))
    · exact Ev.neg h (Ev.neg h (Ev.bind (cmp_ev a b) (Ev.pos rfl (Ev.bind awake_ev (Ev.pure _)))))
  have mid : ∀ n : Int, (before b a = false → n = cmpS a b) → Ev (fun k => corollarylaw01_ValueOrders.j0 k n a.f0 a.f1 a.f2 b.f0 b.f1 b.f2) true := by
    intro n hn
    apply Ev.succ
    simp only [corollarylaw01_ValueOrders.j0]
    refine Ev.bind (before_ev b a hb) ?_
    by_cases h : before b a = true
    · apply Ev.pos h
      rw [before_cmp, if_pos h] at last
      exact last
    · apply Ev.neg h
      rw [hn (by simpa using h)]
      exact last
  unfold corollarylaw01_ValueOrders.f
  refine Ev.bind (before_ev a b ha) ?_
  by_cases h : before a b = true
  · apply Ev.pos h
    exact mid (-1) (fun g => by rw [before_cmp, if_neg (by simp [g]), if_pos h])
  · apply Ev.neg h
    exact mid 0 (fun g => by rw [before_cmp, if_neg (by simp [g]), if_neg h])
theorem ValueOrders_pure : Stat.ValueOrders := by
  intro a0 a1 a2 b0 b1 b2 ha hb
  exact (orders_ev ⟨a0, a1, a2⟩ ⟨b0, b1, b2⟩ (wfS ha) (wfS hb)).get
end Go.Proofs.YtmdnnpahmoaicaaDoor.Pure
