-- HALVED
import Derived.Test.YtchpbnabbjdfgaaDoorPureB7
import Derived.Test.YtchpbnabbjdfgaaDoorPx0
import Derived.Test.YtchpbnabbjdfgaaDoorPx98
namespace Go.Proofs.YtchpbnabbjdfgaaDoor.Pure
open Go.ChangeShapes Go.WideShapes Go.ChangeAt Go.RowKit Go.Proofs.YtchpbnabbjdfgaaDoorW.PrintWords Go.Proofs.YtchpbnabbjdfgaaDoorW.PrintLast Go.Proofs.YtchpbnabbjdfgaaDoor.P Go.Proofs.YtchpbnabbjdfgaaDoor.Open
set_option linter.unusedVariables false
set_option linter.unusedSimpArgs false
theorem vals_eq (a b : S105) : (!((a.f0) == (b.f0)) || (!((a.f1) == (b.f1)) || (!(((a.f2).toList) == ((b.f2).toList))))) = !decide (a = b) := by
 rw [str_eq]
 cases a; cases b
 simp only [S105.mk.injEq]
 by_cases h1 : ‹Int› = ‹Int› <;> simp_all [Bool.beq_eq_decide_eq]
theorem same_go (l m : List S105) (hl : okR l) (he : l.length = m.length) : ∀ (a b : List S105) (i : Nat), l.drop i = a → m.drop i = b → Ev (fun k => zal.l0 k l m (i : Int)) (decide (a = b))
 | [], b, i, ha, hb => by
  have la := dl ha
  have lb := dl hb
  have : b = [] := by apply List.eq_nil_of_length_eq_zero; rw [lb, ← he]; simp only [List.length_nil] at la; omega
  subst this
  apply Ev.succ
  simp only [zal.l0]
  exact Ev.neg (dn ha) (Ev.pure _)
 | a :: as_, b, i, ha, hb => by
  obtain ⟨a1, a2, a3, a4, a5⟩ := ds ha
  have hll := hl.1
  match b, hb with
  | [], hb => exact absurd (dn hb) (by omega)
  | b :: bs, hb =>
  obtain ⟨b1, b2, b3, b4, b5⟩ := ds hb
  have ea : zbj l (i : Int) = a := a2 _
  have eb : zbj m (i : Int) = b := b2 _
  apply Ev.succ
  simp only [zal.l0]
  rw [ea, eb, ws (by omega), vals_eq]
  refine Ev.pos a1 (Ev.pos (nn i) (Ev.pos b1 ?_))
  by_cases h : a = b
  ·subst h
   rw [show decide (a :: as_ = a :: bs) = decide (as_ = bs) by simp]
   exact Ev.neg (by simp) (same_go l m hl he as_ bs (i + 1) a3 b3)
  ·rw [decide_eq_false (p := a :: as_ = b :: bs) (by simp [h])]
   exact Ev.pos (by simp [h]) (Ev.pure _)
theorem same_ev (l m : List S105) (hl : okR l) : Ev (fun k => zal.f k l m) (decide (l = m)) := by
 unfold zal.f
 by_cases h : l.length = m.length
 ·exact Ev.pos (by omega) (same_go l m hl h l m 0 rfl rfl)
 ·rw [decide_eq_false (fun e => h (by rw [e]))]
  exact Ev.neg (by omega) (Ev.pure _)
theorem eq_go (l m : List S81) (hl : okL l) (he : l.length = m.length) : ∀ (a b : List S81) (i : Nat), l.drop i = a → m.drop i = b → Ev (fun k => zar.l0 k l m (i : Int)) (decide (a = b))
 | [], b, i, ha, hb => by
  have la := dl ha
  have lb := dl hb
  have : b = [] := by apply List.eq_nil_of_length_eq_zero; rw [lb, ← he]; simp only [List.length_nil] at la; omega
  subst this
  apply Ev.succ
  simp only [zar.l0]
  exact Ev.neg (dn ha) (Ev.pure _)
 | a :: as_, b, i, ha, hb => by
  obtain ⟨a1, a2, a3, a4, a5⟩ := ds ha
  have hll := hl.1
  have oa := hl.2 a (List.mem_of_getElem? a5)
  match b, hb with
  | [], hb => exact absurd (dn hb) (by omega)
  | b :: bs, hb =>
  obtain ⟨b1, b2, b3, b4, b5⟩ := ds hb
  have ea : zax l (i : Int) = a := a2 _
  have eb : zax m (i : Int) = b := b2 _
  apply Ev.succ
  simp only [zar.l0]
  rw [ea, eb, ws (by omega)]
  refine Ev.pos a1 (Ev.pos (nn i) (Ev.pos b1 ?_))
  by_cases h : a.f1 = b.f1
  ·refine Ev.pos h (Ev.bind (same_ev a.f0 b.f0 oa.1) ?_)
   by_cases h' : a.f0 = b.f0
   ·have hab : a = b := by cases a; cases b; simp only at h h'; rw [h, h']
    subst hab
    rw [decide_eq_true rfl, show decide (a :: as_ = a :: bs) = decide (as_ = bs) by simp]
    exact Ev.pos rfl (eq_go l m hl he as_ bs (i + 1) a3 b3)
   ·rw [decide_eq_false h', decide_eq_false (p := a :: as_ = b :: bs) (fun e => h' (by injection e with e _; rw [e]))]
    exact Ev.neg (by decide) (Ev.pure _)
  ·rw [decide_eq_false (p := a :: as_ = b :: bs) (fun e => h (by injection e with e _; rw [e]))]
   exact Ev.neg h (Ev.pure _)
theorem eq_ev (l m : List S81) (hl : okL l) : Ev (fun k => zar.f k l m) (decide (l = m)) := by
 unfold zar.f
 by_cases h : l.length = m.length
 ·exact Ev.pos (by omega) (eq_go l m hl h l m 0 rfl rfl)
 ·rw [decide_eq_false (fun e => h (by rw [e]))]
  exact Ev.neg (by omega) (Ev.pure _)
end Go.Proofs.YtchpbnabbjdfgaaDoor.Pure
