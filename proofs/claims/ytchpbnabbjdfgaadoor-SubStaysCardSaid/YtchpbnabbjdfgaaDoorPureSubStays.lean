-- HALVED
import Derived.Test.YtchpbnabbjdfgaaDoorPureE7
import Derived.Test.YtchpbnabbjdfgaaDoorStatSubStays
import Derived.Test.YtchpbnabbjdfgaaDoorPx0
import Derived.Test.YtchpbnabbjdfgaaDoorPx100
namespace Go.Proofs.YtchpbnabbjdfgaaDoor.Pure
open Go.ChangeShapes Go.WideShapes Go.ChangeAt Go.RowKit Go.Proofs.YtchpbnabbjdfgaaDoorW.PrintWords Go.Proofs.YtchpbnabbjdfgaaDoorW.PrintLast Go.Proofs.YtchpbnabbjdfgaaDoor.P Go.Proofs.YtchpbnabbjdfgaaDoor.Open
set_option linter.unusedVariables false
set_option linter.unusedSimpArgs false
theorem stays_go (l : List S41) (hw : zix l) : ∀ (d i : Nat), 30 - i ≤ d → ∀ (s : S33), Right s → okSb (60 + 960 * min i 30) 60 s → Ev (fun k => zac.l0 k l (i : Int) s.f0 s.f1 s.f2 s.f3 s.f4 s.f5) true
 | d, i, hd, s, hs, ho => by
  have stop : Ev (fun k => zac.j2 k l (i : Int) false s.f0 s.f1 s.f2 s.f3 s.f4 s.f5) true := by
   apply Ev.succ
   simp only [zac.j2]
   exact Ev.neg (by decide) aw1
  apply Ev.succ
  simp only [zac.l0]
  by_cases h1 : (i : Int) < (l.length : Int)
  ·refine Ev.pos h1 ?_
   by_cases h30 : (i : Int) < 30
   ·rw [decide_eq_true h30]
    obtain ⟨d, rfl⟩ : ∃ m, d = m + 1 := ⟨d - 1, by omega⟩
    obtain ⟨c, hc⟩ : ∃ c, l[i]? = some c := ⟨_, List.getElem?_eq_getElem (by omega)⟩
    have e : zaa l (i : Int) = c := by
     unfold zaa
     rw [Int.toNat_natCast, List.getD_eq_getElem?_getD, hc]; rfl
    have hwc := hw.2 c (List.mem_of_getElem? hc)
    apply Ev.succ
    simp only [zac.j2]
    rw [e]
    refine Ev.pos trivial (Ev.pos (nn i) (Ev.pos h1 (Ev.bind (few_ev c.f5) ?_)))
    by_cases hf : FewC c.f5
    ·rw [decide_eq_true hf]
     have hco := hf.ok hwc.2.2.2.2.2
     have hmin : min i 30 = i := by omega
     rw [hmin] at ho
     obtain ⟨r1, r2, r3⟩ := hear_right c hs
     have ho2 := hear_ok hs ho hco (by omega)
     have ho3 : okSb (60 + 960 * min (i + 1) 30) 60 (zef s c) := by
      rw [show 60 + 960 * min (i + 1) 30 = 60 + 960 * i + 60 * 16 by omega]; exact ho2
     refine Ev.pos rfl (Ev.bind (hear_ev ho hco (by omega)) (Ev.bind (zid (zef s c) ho2.sub) ?_))
     rw [ziw.2 r1]
     refine Ev.pos rfl (Ev.neg (by show ¬ (zef s c).f1 < s.f1; omega) (Ev.pos r3 ?_))
     rw [ws (by omega)]
     exact stays_go l hw d (i + 1) (by omega) (zef s c) r1 ho3
    ·rw [decide_eq_false hf]
     exact Ev.neg (by decide) aw1
   ·rw [decide_eq_false h30]; exact stop
  ·exact Ev.neg h1 stop
theorem SubStays_ev (s : S33) (l : List S41) (hs : wf_T33 s) (hl : zix l) (h5 : s.f5.length ≤ 2199023255488) : Ev (fun k => zac.f k s.f0 s.f1 s.f2 s.f3 s.f4 s.f5 l) true := by
 have stop : Ev (fun k => zac.j0 k l true s.f0 s.f1 s.f2 s.f3 s.f4 s.f5) true := by
  apply Ev.succ
  simp only [zac.j0]
  exact Ev.pos trivial aw1
 unfold zac.f
 refine Ev.bind (ref_ev s h5) (Ev.bind (smalls_ev s) ?_)
 by_cases hm : zji s
 ·rw [decide_eq_true hm]
  have ho := hm.ok hs
  refine Ev.pos rfl (Ev.bind (zid s ho.sub) ?_)
  by_cases hr : zjq s = true
  ·rw [hr]
   apply Ev.succ
   simp only [zac.j0]
   exact Ev.neg (by decide) (stays_go l hl 30 0 (by omega) s (ziw.1 hr) ho)
  ·rw [Bool.eq_false_iff.2 hr]; exact stop
 ·rw [decide_eq_false hm]
  exact Ev.neg (by decide) stop
theorem SubStays_pure : Stat.SubStays := by
 intro a0 a1 l2 a3 a4 l5 l w h5 w1
 exact (SubStays_ev ⟨a0, a1, l2, a3, a4, l5⟩ l w w1 h5).imp fun k h => h k (Nat.le_refl k)
end Go.Proofs.YtchpbnabbjdfgaaDoor.Pure
