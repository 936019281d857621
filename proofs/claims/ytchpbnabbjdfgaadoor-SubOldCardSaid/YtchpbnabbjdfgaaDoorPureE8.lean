-- HALVED
import Derived.Test.YtchpbnabbjdfgaaDoorPureE7
import Derived.Test.YtchpbnabbjdfgaaDoorPureEq
import Derived.Test.YtchpbnabbjdfgaaDoorPx0
import Derived.Test.YtchpbnabbjdfgaaDoorPx101
namespace Go.Proofs.YtchpbnabbjdfgaaDoor.Pure
open Go.ChangeShapes Go.WideShapes Go.ChangeAt Go.RowKit Go.Proofs.YtchpbnabbjdfgaaDoorW.PrintWords Go.Proofs.YtchpbnabbjdfgaaDoorW.PrintLast Go.Proofs.YtchpbnabbjdfgaaDoor.P Go.Proofs.YtchpbnabbjdfgaaDoor.Open
set_option linter.unusedVariables false
set_option linter.unusedSimpArgs false
deriving instance DecidableEq for S56
theorem samech_go (l m : List S56) (hl : l.length ≤ 1000) (ho : ∀ c ∈ l, okL c.f1) (he : l.length = m.length) : ∀ (a b : List S56) (i : Nat), l.drop i = a → m.drop i = b → Ev (fun k => zag.l0 k l m (i : Int)) (decide (a = b))
 | [], b, i, ha, hb => by
  have la := dl ha
  have lb := dl hb
  have : b = [] := by apply List.eq_nil_of_length_eq_zero; rw [lb, ← he]; simp only [List.length_nil] at la; omega
  subst this
  apply Ev.succ
  simp only [zag.l0]
  exact Ev.neg (dn ha) (Ev.pure _)
 | a :: as_, b, i, ha, hb => by
  obtain ⟨a1, a2, a3, a4, a5⟩ := ds ha
  have oa := ho a (List.mem_of_getElem? a5)
  match b, hb with
  | [], hb => exact absurd (dn hb) (by omega)
  | b :: bs, hb =>
  obtain ⟨b1, b2, b3, b4, b5⟩ := ds hb
  have ea : zbl l (i : Int) = a := a2 _
  have eb : zbl m (i : Int) = b := b2 _
  apply Ev.succ
  simp only [zag.l0]
  rw [ea, eb, ws (by omega)]
  refine Ev.pos a1 (Ev.pos (nn i) (Ev.pos b1 ?_))
  by_cases h : a.f0 = b.f0
  ·refine Ev.pos (by rw [h]) (Ev.bind (eq_ev a.f1 b.f1 oa) ?_)
   by_cases h' : a.f1 = b.f1
   ·have hab : a = b := by cases a; cases b; simp only at h h'; rw [h, h']
    subst hab
    rw [decide_eq_true rfl, show decide (a :: as_ = a :: bs) = decide (as_ = bs) by simp]
    exact Ev.pos rfl (samech_go l m hl ho he as_ bs (i + 1) a3 b3)
   ·rw [decide_eq_false h', decide_eq_false (p := a :: as_ = b :: bs) (fun e => h' (by injection e with e _; rw [e]))]
    exact Ev.neg (by decide) (Ev.pure _)
  ·rw [decide_eq_false (p := a :: as_ = b :: bs) (fun e => h (by injection e with e _; rw [e]))]
   exact Ev.neg (fun e => h (ba_ext e)) (Ev.pure _)
theorem samech_ev (l m : List S56) (hl : l.length ≤ 1000) (ho : ∀ c ∈ l, okL c.f1) : Ev (fun k => zag.f k l m) (decide (l = m)) := by
 unfold zag.f
 by_cases h : l.length = m.length
 ·exact Ev.pos (by omega) (samech_go l m hl ho h l m 0 rfl rfl)
 ·rw [decide_eq_false (fun e => h (by rw [e]))]
  exact Ev.neg (by omega) (Ev.pure _)
end Go.Proofs.YtchpbnabbjdfgaaDoor.Pure
