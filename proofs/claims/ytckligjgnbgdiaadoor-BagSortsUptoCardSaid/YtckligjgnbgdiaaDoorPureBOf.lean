-- HALVED
-- Plain laws of the printed functions (wip/l13).
import Derived.Test.YtckligjgnbgdiaaDoorPureB7
import Derived.Test.YtckligjgnbgdiaaDoorPx63
namespace Go.Proofs.YtckligjgnbgdiaaDoor.Pure
open Go.ChangeShapes Go.WideShapes Go.ChangeAt Go.RowKit Go.Proofs.YtckligjgnbgdiaaDoorW.PrintWords Go.Proofs.YtckligjgnbgdiaaDoorW.PrintLast Go.Proofs.YtckligjgnbgdiaaDoor.P Go.Proofs.YtckligjgnbgdiaaDoor.Open
set_option linter.unusedVariables false
set_option linter.unusedSimpArgs false
/-! BagSorts, BagOnce -/
theorem refOf_go (l : List (List S51)) (hl : l.length ≤ 1048576) : ∀ (t : List (List S51)) (i : Nat), l.drop i = t → Ev (fun k => corollaryref13_Of.l0 k l (ofS (l.take i)) (i : Int)) (ofS l)
 | [], i, h => by
  apply Ev.succ
  simp only [corollaryref13_Of.l0]
  rw [List.take_of_length_le (List.drop_eq_nil_iff.1 h)]
  exact Ev.neg (dn h) (Ev.pure _)
 | c :: t, i, h => by
  obtain ⟨h1, h2, h3, h4, h5⟩ := ds h
  apply Ev.succ
  simp only [corollaryref13_Of.l0]
  have e : rd_L3 l (i : Int) = c := h2 _
  rw [e, ws (by omega)]
  have hlen : (ofS (l.take i)).length = i := by unfold ofS; rw [List.length_map, List.length_take]; omega
  refine Ev.pos h1 (Ev.pos (nn i) (Ev.pos (by omega) ?_))
  have := refOf_go l hl t (i + 1) h3
  have hc : l[i] = c := by rw [List.getElem?_eq_getElem h4] at h5; exact Option.some.inj h5
  have ht : ofS (l.take (i + 1)) = ofS (l.take i) ++ [⟨c, 1⟩] := by
   unfold ofS
   rw [List.take_succ_eq_append_getElem h4, List.map_append, hc]
   rfl
  rw [ht] at this
  exact this
theorem refOf_ev (l : List (List S51)) (hl : l.length ≤ 1048576) : Ev (fun k => corollaryref13_Of.f k l) (ofS l) := refOf_go l hl l 0 rfl
theorem small_ofS {l : List (List S51)} (h : Small (ofS l)) : l.length ≤ 60 ∧ ∀ r ∈ l, r.length ≤ 40 := by
 refine ⟨by have := h.1; unfold ofS at this; rw [List.length_map] at this; exact this, fun r hr => ?_⟩
 exact h.2 ⟨r, 1⟩ (List.mem_map.2 ⟨r, hr, rfl⟩)
theorem okRs {l : List (List S51)} (h : Small (ofS l)) (hw : wf_L23_L51_T51 l) : ∀ r ∈ l, okR r := fun r hr => okR_of (by have := (small_ofS h).2 r hr; omega) (hw.2 r hr)
end Go.Proofs.YtckligjgnbgdiaaDoor.Pure
