-- HALVED
import Derived.Test.YtchpbnabbjdfgaaDoorPureE5
import Derived.Test.YtchpbnabbjdfgaaDoorPx0
import Derived.Test.YtchpbnabbjdfgaaDoorPx1
import Derived.Test.YtchpbnabbjdfgaaDoorPx97
namespace Go.Proofs.YtchpbnabbjdfgaaDoor.Pure
open Go.ChangeShapes Go.WideShapes Go.ChangeAt Go.RowKit Go.Proofs.YtchpbnabbjdfgaaDoorW.PrintWords Go.Proofs.YtchpbnabbjdfgaaDoorW.PrintLast Go.Proofs.YtchpbnabbjdfgaaDoor.P Go.Proofs.YtchpbnabbjdfgaaDoor.Open
set_option linter.unusedVariables false
set_option linter.unusedSimpArgs false
def FewC (l : List S56) : Prop := l.length ≤ 30 ∧ ∀ c ∈ l, c.f0.size ≤ 100 ∧ Small c.f1
instance (l : List S56) : Decidable (FewC l) := by unfold FewC; infer_instance
def okF (c : S56) : Bool := decide (c.f0.size ≤ 100) && decide (Small c.f1)
theorem few_go (l : List S56) (hl : l.length ≤ 30) : ∀ (t : List S56) (i : Nat), l.drop i = t → Ev (fun k => zay.l0 k l (i : Int)) (t.all okF)
 | [], i, h => by
  apply Ev.succ
  simp only [zay.l0]
  exact Ev.neg (dn h) (Ev.pure _)
 | c :: t, i, h => by
  obtain ⟨h1, h2, h3, h4, _⟩ := ds h
  apply Ev.succ
  simp only [zay.l0]
  have e : zbb l (i : Int) = c := h2 _
  rw [e, ws (by omega), List.all_cons]
  refine Ev.pos h1 (Ev.pos (nn i) ?_)
  unfold okF
  by_cases hs : c.f0.size ≤ 100
  ·refine Ev.neg (by omega) (Ev.bind (small_ev c.f1) ?_)
   rw [decide_eq_true hs, Bool.true_and]
   by_cases hm : Small c.f1
   ·rw [decide_eq_true hm, Bool.true_and]; exact Ev.pos rfl (few_go l hl t (i + 1) h3)
   ·rw [decide_eq_false hm, Bool.false_and]; exact Ev.neg (by decide) (Ev.pure _)
  ·rw [decide_eq_false hs, Bool.false_and, Bool.false_and]
   exact Ev.pos (by omega) (Ev.pure _)
theorem few_ev (l : List S56) : Ev (fun k => zay.f k l) (decide (FewC l)) := by
 unfold zay.f
 by_cases h : l.length ≤ 30
 ·have : decide (FewC l) = l.all okF := by
   rw [Bool.eq_iff_iff, decide_eq_true_eq, List.all_eq_true]
   unfold FewC okF
   simp only [Bool.and_eq_true, decide_eq_true_eq]
   exact ⟨fun h => h.2, fun h' => ⟨h, h'⟩⟩
  rw [this]
  exact Ev.neg (by omega) (few_go l h l 0 rfl)
 ·rw [decide_eq_false (fun h' => h h'.1)]
  exact Ev.pos (by omega) (Ev.pure _)
theorem FewC.ok {l : List S56} (h : FewC l) (hw : zhg l) : okG 60 l := ⟨by have := h.1; omega, fun c hc => ⟨(h.2 c hc).1, okL_of (h.2 c hc).2 (hw.2 c hc).2, (h.2 c hc).2.1⟩⟩
def sub1 : S33 := ⟨1, 0, [], 0, 0, []⟩
theorem zhe : zef [] = true := by unfold zef zgd; rfl
theorem item_nil : zgd [] = true := by unfold zgd; rfl
theorem okG_nil' : okG 0 [] := ⟨Nat.zero_le _, fun c h => by cases h⟩
theorem apply_nil : zdr [] [] = ([], 0) := by
 unfold zdr finA
 rw [if_pos zhe, if_pos item_nil]
 show (if (0 : Int) = 0 then (if zef [] = true then (([] : List S56), (0 : Int)) else ([], 1)) else ([], 0)) = _
 rw [if_pos rfl, if_pos zhe]
theorem right_of1 (p : Int) (h : 0 ≤ p ∧ p ≤ 10) : rightS ⟨1, p, [], 0, 0, []⟩ = true := right_iff.2 ⟨⟨Int.le_refl 1, (by show (1 : Int) ≤ 4; decide)⟩, ⟨h.1, by show p ≤ _; omega⟩, zhe, .inl ⟨rfl, rfl, rfl⟩⟩
theorem awake_ev : Ev (fun k => zaa.f k) true := by
 have r1 : rnS ⟨1, 1, 1, 0, 0, []⟩ = true := by unfold rnS; rw [item_nil]; decide
 have r2 : rnS ⟨2, 1, 5, 0, 1, []⟩ = true := by unfold rnS; rw [item_nil]; decide
 unfold zaa.f
 have h1 := state_ev [] okG_nil'
 rw [zhe] at h1
 have h2 := rn_ev (⟨1, 1, 1, 0, 0, []⟩ : S41) okG_nil'
 rw [r1] at h2
 have h3 := rn_ev (⟨2, 1, 5, 0, 1, []⟩ : S41) okG_nil'
 rw [r2] at h3
 have h4 := apply_ev [] [] okG_nil' okG_nil' (Nat.zero_le _) (Nat.zero_le _) (by decide)
 rw [apply_nil] at h4
 exact Ev.bind h1 (Ev.pos rfl (Ev.bind h2 (Ev.pos rfl (Ev.bind h3 (Ev.pos rfl (Ev.bind h4 (Ev.pos ⟨rfl, rfl⟩ (Ev.pure _))))))))
end Go.Proofs.YtchpbnabbjdfgaaDoor.Pure
