-- HALVED
import Derived.Test.YtchpbnabbjdfgaaDoorPureE8
import Derived.Test.YtchpbnabbjdfgaaDoorStatSubOld
import Derived.Test.YtchpbnabbjdfgaaDoorPx0
import Derived.Test.YtchpbnabbjdfgaaDoorPx99
import Derived.Test.YtchpbnabbjdfgaaDoorPx104
import Derived.Test.YtchpbnabbjdfgaaDoorPx105
import Derived.Test.YtchpbnabbjdfgaaDoorPx106
namespace Go.Proofs.YtchpbnabbjdfgaaDoor.Pure
open Go.ChangeShapes Go.WideShapes Go.ChangeAt Go.RowKit Go.Proofs.YtchpbnabbjdfgaaDoorW.PrintWords Go.Proofs.YtchpbnabbjdfgaaDoorW.PrintLast Go.Proofs.YtchpbnabbjdfgaaDoor.P Go.Proofs.YtchpbnabbjdfgaaDoor.Open
set_option linter.unusedVariables false
set_option linter.unusedSimpArgs false
theorem insP_again (n : S41) : ∀ l : List S41, l.Pairwise (fun a b => a.f3 < b.f3) → insP n (insP n l) = insP n l
 | [], _ => by
  rw [insP, insP, if_neg (by omega), if_pos rfl]
 | x :: l, hp => by
  rw [List.pairwise_cons] at hp
  rw [insP]
  by_cases h1 : x.f3 < n.f3
  ·rw [if_pos h1, insP, if_pos h1, insP_again n l hp.2]
  ·rw [if_neg h1]
   by_cases h2 : x.f3 = n.f3
   ·rw [if_pos h2, insP, if_neg h1, if_pos h2]
   ·rw [if_neg h2, insP, if_neg (by omega), if_pos rfl]
theorem hear_old {s : S33} {n : S41} (h : n.f2 ≤ s.f1) : zei s n = s := by
 unfold zei nextS
 split
 ·split
  ·rw [if_neg (by omega)]
  ·split
   ·rw [if_neg (by omega)]
   ·rfl
 ·rfl
theorem gather_def (s : S33) (n : S41) : zer s n = if n.f2 = (ahead s n).f3 ∧ n.f4 = (ahead s n).f4 then fullS (ahead s n) (insP n (ahead s n).f5) else ahead s n := rfl
theorem hear_again {s : S33} {n : S41} (hs : Right s) (hx : ¬ (n.f0 = 2 ∧ (zei s n).f3 = 0 ∧ (zei s n).f1 = s.f1)) : zei (zei s n) n = zei s n := by
 by_cases hc : zjn s = true ∧ rnS n = true ∧ n.f1 = s.f0
 ·obtain ⟨p1, p2, p3, p4, p5, p6, p7, p8, p9⟩ := ziy hc.2.1
  have e : zei s n = if n.f0 = 1 then nextS s n else if n.f0 = 2 then (if n.f2 > s.f1 then zer s n else s) else s := by unfold zei; rw [if_pos hc]
  have same : ∀ t, t = s → zei s n = t → zei t n = t := fun t h1 h2 => by rw [h1] at h2 ⊢; exact h2
  by_cases h1 : n.f0 = 1
  ·rw [if_pos h1] at e
   by_cases h2 : n.f2 = s.f1 + 1 ∧ (zdo s.f2 n.f5).2 = 0
   ·rw [e]
    apply hear_old
    unfold nextS
    rw [if_pos h2]
    split <;> exact Int.le_refl _
   ·have e0 : nextS s n = s := by unfold nextS; rw [if_neg h2]
    rw [e]; exact same _ e0 e
  ·rw [if_neg h1] at e
   by_cases h2 : n.f0 = 2
   ·rw [if_pos h2] at e
    by_cases h3 : n.f2 > s.f1
    ·rw [if_pos h3] at e
     have hg := ahead_got hs hc.2.1 h2 h3
     have ra := gather_right hs hc.2.1 hc.2.2 h2 h3
     have a0 : (ahead s n).f0 = s.f0 ∧ (ahead s n).f1 = s.f1 ∧ (ahead s n).f2 = s.f2 := by unfold ahead; split <;> exact ⟨rfl, rfl, rfl⟩
     by_cases h4 : n.f2 = (ahead s n).f3 ∧ n.f4 = (ahead s n).f4
     ·have e1 : zer s n = fullS (ahead s n) (insP n (ahead s n).f5) := by unfold zer; rw [if_pos h4]
      by_cases h5 : ((insP n (ahead s n).f5).length : Int) < (ahead s n).f4
      ·have e2 : zer s n = ⟨s.f0, s.f1, s.f2, n.f2, n.f4, insP n (ahead s n).f5⟩ := by
        rw [e1]; unfold fullS; rw [if_pos h5, a0.1, a0.2.1, a0.2.2, ← h4.1, ← h4.2]
       rw [e]
       have hr : zjn (zer s n) = true := zis.2 ra.1
       have hn : n.f1 = (zer s n).f0 := by rw [ra.2.2]; exact hc.2.2
       have ea : ahead (zer s n) n = zer s n := by
        unfold ahead
        rw [if_neg]
        rw [e2]
        show ¬ (n.f2 = 0 ∨ n.f2 > n.f2)
        have := hs.pos.1
        omega
       unfold zei
       rw [if_pos ⟨hr, hc.2.1, hn⟩, if_neg h1, if_pos h2, if_pos (by rw [e2]; exact h3)]
       rw [gather_def (zer s n) n, ea, if_pos (by rw [e2]; exact ⟨rfl, rfl⟩)]
       rw [e2]
       show fullS _ (insP n (insP n (ahead s n).f5)) = _
       rw [insP_again n _ hg.1]
       unfold fullS
       rw [if_pos (by show _ < n.f4; rw [h4.2]; exact h5)]
      ·by_cases h6 : (zdo [] (allC (insP n (ahead s n).f5))).2 = 0
       ·rw [e]
        apply hear_old
        rw [e1]; unfold fullS; rw [if_neg h5, if_pos h6]
        show n.f2 ≤ (ahead s n).f3
        omega
       ·exfalso
        apply hx
        rw [e, e1]; unfold fullS; rw [if_neg h5, if_neg h6]
        exact ⟨h2, rfl, a0.2.1⟩
     ·have e1 : zer s n = ahead s n := by unfold zer; rw [if_neg h4]
      have e2 : ahead s n = s := by
       by_cases h5 : s.f3 = 0 ∨ n.f2 > s.f3
       ·exfalso; apply h4; unfold ahead; rw [if_pos h5]; exact ⟨rfl, rfl⟩
       ·unfold ahead; rw [if_neg h5]
      rw [e]; exact same _ (e1.trans e2) e
    ·rw [if_neg h3] at e
     rw [e]; exact same _ rfl e
   ·rw [if_neg h2] at e
    rw [e]; exact same _ rfl e
 ·have e : zei s n = s := by unfold zei; rw [if_neg hc]
  rw [e]; exact e
theorem rsame_go (l : List S74) (hl : l.length ≤ 1000) (ho : ∀ n ∈ l, okG 1000000 n.f5) : ∀ (a : List S74) (i : Nat), l.drop i = a → Ev (fun k => zap.l0 k l l (i : Int)) true
 | [], i, ha => by
  apply Ev.succ
  simp only [zap.l0]
  exact Ev.neg (dn ha) (Ev.pure _)
 | a :: as_, i, ha => by
  obtain ⟨a1, a2, a3, a4, a5⟩ := ds ha
  have oa := ho a (List.mem_of_getElem? a5)
  have ea : zak l (i : Int) = a := a2 _
  apply Ev.succ
  simp only [zap.l0]
  rw [ea, ws (by omega)]
  refine Ev.pos a1 (Ev.pos (nn i) (Ev.pos a1 (Ev.pos trivial (Ev.pos trivial (Ev.pos trivial (Ev.pos trivial (Ev.pos trivial (Ev.bind (samech_ev a.f5 a.f5 oa.1 (fun c hc => (oa.2 c hc).2.1)) ?_))))))))
  rw [decide_eq_true rfl]
  exact Ev.pos rfl (rsame_go l hl ho as_ (i + 1) a3)
theorem equal_ev {Bs Bn : Nat} (s : S33) (ho : okSb Bs Bn s) (hb : Bn ≤ 1000000) : Ev (fun k => zcc.f k s.f0 s.f1 s.f2 s.f3 s.f4 (s.f5.map refN) s.f0 s.f1 s.f2 s.f3 s.f4 (s.f5.map refN)) true := by
 unfold zcc.f zap.f
 refine Ev.pos rfl (Ev.pos rfl (Ev.bind (samech_ev _ _ ho.1.1 (fun c hc => (ho.1.2 c hc).2.1)) ?_))
 rw [decide_eq_true rfl]
 refine Ev.pos rfl (Ev.pos rfl (Ev.pos rfl (Ev.bind (Ev.pos rfl (rsame_go _ (by rw [List.length_map]; exact ho.2.1) (fun n hn => ?_) _ 0 rfl)) (Ev.pure _))))
 obtain ⟨m, hm, rfl⟩ := List.mem_map.1 hn
 exact (ho.2.2 m hm).mono hb
theorem SubOld_ev (s : S33) (n : S41) (hs : wf_T33 s) (hn : wf_T41 n) (h5 : s.f5.length ≤ 2199023255488) : Ev (fun k => zac.f k s.f0 s.f1 s.f2 s.f3 s.f4 s.f5 n.f0 n.f1 n.f2 n.f3 n.f4 n.f5) true := by
 have stop : Ev (fun k => zac.j0 k true s.f0 s.f1 s.f2 s.f3 s.f4 s.f5 n.f0 n.f1 n.f2 n.f3 n.f4 n.f5) true := by
  apply Ev.succ
  simp only [zac.j0]
  exact Ev.pos trivial aw1
 unfold zac.f
 refine Ev.bind (ref_ev s h5) (Ev.bind (smalls_ev s) ?_)
 by_cases hm : zjg s
 ·rw [decide_eq_true hm]
  have ho := hm.ok hs
  refine Ev.pos rfl (Ev.bind (few_ev n.f5) ?_)
  by_cases hf : FewC n.f5
  ·rw [decide_eq_true hf]
   have hno := hf.ok hn.2.2.2.2.2
   refine Ev.pos rfl (Ev.bind (zic s ho.sub) ?_)
   by_cases hr : zjn s = true
   ·rw [hr]
    have hR := zis.1 hr
    have ho2 := hear_ok hR ho hno (by omega)
    have l2 := ho2.2.1
    have l1 := ho.2.1
    have tail : Ev (fun k => zac.j1 k false s.f0 s.f1 s.f2 s.f3 s.f4 s.f5 n.f0 n.f1 n.f2 n.f3 n.f4 n.f5 (zei s n).f0 (zei s n).f1 (zei s n).f2 (zei s n).f3 (zei s n).f4 (zei s n).f5) true := by
     apply Ev.succ
     simp only [zac.j1]
     refine Ev.neg (by decide) ?_
     have go : ∀ b, (b = true ∨ ¬ (n.f0 = 2 ∧ (zei s n).f3 = 0 ∧ (zei s n).f1 = s.f1)) → Ev (fun k => zac.j2 k b n.f0 n.f1 n.f2 n.f3 n.f4 n.f5 (zei s n).f0 (zei s n).f1 (zei s n).f2 (zei s n).f3 (zei s n).f4 (zei s n).f5) true := by
      intro b hb
      apply Ev.succ
      simp only [zac.j2]
      by_cases e : b = true
      ·exact Ev.pos e aw1
      ·refine Ev.neg e (Ev.bind (hear_ev ho2 hno (by omega)) ?_)
       have := hear_again hR (hb.resolve_left e)
       rw [this]
       refine Ev.bind (ref_ev (zei s n) (by omega)) (Ev.bind (ref_ev (zei s n) (by omega)) (Ev.bind (equal_ev (zei s n) ho2 (by omega)) (Ev.pos rfl aw1)))
     by_cases c1 : n.f0 = 2
     ·refine Ev.pos c1 ?_
      by_cases c2 : (zei s n).f3 = 0
      ·refine Ev.pos c2 (go _ ?_)
       by_cases c3 : (zei s n).f1 = s.f1
       ·exact .inl (by simpa using c3)
       ·exact .inr (fun h => c3 h.2.2)
      ·exact Ev.neg c2 (go _ (.inr fun h => c2 h.2.1))
     ·exact Ev.neg c1 (go _ (.inr fun h => c1 h.1))
    apply Ev.succ
    simp only [zac.j0]
    refine Ev.neg (by decide) (Ev.bind (hear_ev ho hno (by omega)) ?_)
    by_cases hp : n.f2 ≤ s.f1
    ·refine Ev.pos hp ?_
     have e := hear_old hp
     rw [e] at tail ⊢
     exact Ev.bind (ref_ev s h5) (Ev.bind (ref_ev s h5) (Ev.bind (equal_ev s ho (by omega)) tail))
    ·exact Ev.neg hp tail
   ·rw [Bool.eq_false_iff.2 hr]; exact stop
  ·rw [decide_eq_false hf]
   exact Ev.neg (by decide) stop
 ·rw [decide_eq_false hm]
  exact Ev.neg (by decide) stop
theorem SubOld_pure : Stat.SubOld := by
 intro a0 a1 l2 a3 a4 l5 b0 b1 b2 b3 b4 l w h5 w1
 exact (SubOld_ev ⟨a0, a1, l2, a3, a4, l5⟩ ⟨b0, b1, b2, b3, b4, l⟩ w w1 h5).imp fun k h => h k (Nat.le_refl k)
end Go.Proofs.YtchpbnabbjdfgaaDoor.Pure
