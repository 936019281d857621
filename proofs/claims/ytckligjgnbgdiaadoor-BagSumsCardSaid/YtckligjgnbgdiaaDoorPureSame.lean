-- HALVED
import Derived.Test.YtckligjgnbgdiaaDoorPureB7
import Derived.Test.YtckligjgnbgdiaaDoorPx60
namespace Go.Proofs.YtckligjgnbgdiaaDoor.Pure
open Go.ChangeShapes Go.WideShapes Go.ChangeAt Go.RowKit Go.Proofs.YtckligjgnbgdiaaDoorW.PrintWords Go.Proofs.YtckligjgnbgdiaaDoorW.PrintLast Go.Proofs.YtckligjgnbgdiaaDoor.P Go.Proofs.YtckligjgnbgdiaaDoor.Open
set_option linter.unusedVariables false
set_option linter.unusedSimpArgs false
theorem vals_eq (a b : S51) : (!((a.f0) == (b.f0)) || (!((a.f1) == (b.f1)) || (!(((a.f2).toList) == ((b.f2).toList))))) = !decide (a = b) := by
 rw [str_eq]
 cases a; cases b
 simp only [S51.mk.injEq]
 by_cases h1 : ‹Int› = ‹Int› <;> simp_all [Bool.beq_eq_decide_eq]
theorem same_go (l m : List S51) (hl : okR l) (he : l.length = m.length) : ∀ (a b : List S51) (i : Nat), l.drop i = a → m.drop i = b → Ev (fun k => corollaryref01_SameRow.l0 k l m (i : Int)) (decide (a = b))
 | [], b, i, ha, hb => by
  have la := dl ha
  have lb := dl hb
  have : b = [] := by apply List.eq_nil_of_length_eq_zero; rw [lb, ← he]; simp only [List.length_nil] at la; omega
  subst this
  apply Ev.succ
  simp only [corollaryref01_SameRow.l0]
  exact Ev.neg (dn ha) (Ev.pure _)
 | a :: as_, b, i, ha, hb => by
  obtain ⟨a1, a2, a3, a4, a5⟩ := ds ha
  have hll := hl.1
  match b, hb with
  | [], hb => exact absurd (dn hb) (by omega)
  | b :: bs, hb =>
  obtain ⟨b1, b2, b3, b4, b5⟩ := ds hb
  have ea : rd_T51 l (i : Int) = a := a2 _
  have eb : rd_T51 m (i : Int) = b := b2 _
  apply Ev.succ
  simp only [corollaryref01_SameRow.l0]
  rw [ea, eb, ws (by omega), vals_eq]
  refine Ev.pos a1 (Ev.pos (nn i) (Ev.pos b1 ?_))
  by_cases h : a = b
  ·subst h
   rw [show decide (a :: as_ = a :: bs) = decide (as_ = bs) by simp]
   exact Ev.neg (by simp) (same_go l m hl he as_ bs (i + 1) a3 b3)
  ·rw [decide_eq_false (p := a :: as_ = b :: bs) (by simp [h])]
   exact Ev.pos (by simp [h]) (Ev.pure _)
theorem same_ev (l m : List S51) (hl : okR l) : Ev (fun k => corollaryref01_SameRow.f k l m) (decide (l = m)) := by
 unfold corollaryref01_SameRow.f
 by_cases h : l.length = m.length
 ·exact Ev.pos (by omega) (same_go l m hl h l m 0 rfl rfl)
 ·rw [decide_eq_false (fun e => h (by rw [e]))]
  exact Ev.neg (by omega) (Ev.pure _)
end Go.Proofs.YtckligjgnbgdiaaDoor.Pure
