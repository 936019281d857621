-- HALVED
import Derived.Test.YtchpbnabbjdfgaaDoorPureE5
import Derived.Test.YtchpbnabbjdfgaaDoorPx0
import Derived.Test.YtchpbnabbjdfgaaDoorPx1
import Derived.Test.YtchpbnabbjdfgaaDoorPx95
import Derived.Test.YtchpbnabbjdfgaaDoorPx97
import Derived.Test.YtchpbnabbjdfgaaDoorPx98
import Derived.Test.YtchpbnabbjdfgaaDoorPx99
namespace Go.Proofs.YtchpbnabbjdfgaaDoor.Pure
open Go.ChangeShapes Go.WideShapes Go.ChangeAt Go.RowKit Go.Proofs.YtchpbnabbjdfgaaDoorW.PrintWords Go.Proofs.YtchpbnabbjdfgaaDoorW.PrintLast Go.Proofs.YtchpbnabbjdfgaaDoor.P Go.Proofs.YtchpbnabbjdfgaaDoor.Open
set_option linter.unusedVariables false
set_option linter.unusedSimpArgs false
def FewC (l : List S56) : Prop := l.length ≤ 30 ∧ ∀ c ∈ l, c.f0.size ≤ 100 ∧ Small c.f1
instance (l : List S56) : Decidable (FewC l) := by unfold FewC; infer_instance
def okF (c : S56) : Bool := decide (c.f0.size ≤ 100) && decide (Small c.f1)
theorem few_go (l : List S56) (hl : l.length ≤ 30) : ∀ (t : List S56) (i : Nat), l.drop i = t → Ev (fun k => zal.l0 k l (i : Int)) (t.all okF)
 | [], i, h => by
  apply Ev.succ
  simp only [zal.l0]
  exact Ev.neg (dn h) (Ev.pure _)
 | c :: t, i, h => by
  obtain ⟨h1, h2, h3, h4, _⟩ := ds h
  apply Ev.succ
  simp only [zal.l0]
  have e : zbm l (i : Int) = c := h2 _
  rw [e, ws (by omega), List.all_cons]
  refine Ev.pos h1 (Ev.pos (nn i) ?_)
  unfold okF
  by_cases hs : c.f0.size ≤ 100
  ·refine Ev.neg (by omega) (Ev.bind (small_ev c.f1) ?_)
   rw [decide_eq_true hs, Bool.true_and]
   by_cases hm : Small c.f1
   ·rw [decide_eq_true hm, Bool.true_and]; exact Ev.pos rfl (few_go l hl t (i + 1) h3)
   ·rw [decide_eq_false hm, Bool.false_and]; exact Ev.neg (by decide) (Ev.pure _)
  ·rw [decide_eq_false hs, Bool.false_and, Bool.false_and]
   exact Ev.pos (by omega) (Ev.pure _)
theorem few_ev (l : List S56) : Ev (fun k => zal.f k l) (decide (FewC l)) := by
 unfold zal.f
 by_cases h : l.length ≤ 30
 ·have : decide (FewC l) = l.all okF := by
   rw [Bool.eq_iff_iff, decide_eq_true_eq, List.all_eq_true]
   unfold FewC okF
   simp only [Bool.and_eq_true, decide_eq_true_eq]
   exact ⟨fun h => h.2, fun h' => ⟨h, h'⟩⟩
  rw [this]
  exact Ev.neg (by omega) (few_go l h l 0 rfl)
 ·rw [decide_eq_false (fun h' => h h'.1)]
  exact Ev.pos (by omega) (Ev.pure _)
theorem FewC.ok {l : List S56} (h : FewC l) (hw : zfm l) : okG 60 l := ⟨by have := h.1; omega, fun c hc => ⟨(h.2 c hc).1, okL_of (h.2 c hc).2 (hw.2 c hc).2, (h.2 c hc).2.1⟩⟩
def refN (n : S41) : S74 := ⟨n.f0, n.f1, n.f2, n.f3, n.f4, n.f5⟩
theorem ref_go (s : S33) (hl : s.f5.length ≤ 2199023255488) : ∀ (t : List S41) (i : Nat), s.f5.drop i = t → i ≤ s.f5.length → Ev (fun k => zaq.l0 k s.f5 (s.f5.length : Int) (i : Int) s.f0 s.f1 s.f2 s.f3 s.f4 ((s.f5.take i).map refN)) (s.f0, s.f1, s.f2, s.f3, s.f4, s.f5.map refN)
 | [], i, h, hi => by
  apply Ev.succ
  simp only [zaq.l0]
  rw [List.take_of_length_le (List.drop_eq_nil_iff.1 h)]
  exact Ev.neg (dn h) (Ev.pure _)
 | c :: t, i, h, hi => by
  obtain ⟨h1, h2, h3, h4, h5⟩ := ds h
  apply Ev.succ
  simp only [zaq.l0]
  have e : zaa s.f5 (i : Int) = c := h2 _
  rw [e, ws (by omega)]
  have := ref_go s hl t (i + 1) h3 h4
  have hc : s.f5[i] = c := by rw [List.getElem?_eq_getElem h4] at h5; exact Option.some.inj h5
  rw [List.take_succ_eq_append_getElem h4, List.map_append, hc] at this
  exact Ev.pos h1 (Ev.pos (nn i) (Ev.pos h1 (Ev.pos (by rw [List.length_map, List.length_take]; omega) this)))
theorem ref_ev (s : S33) (hl : s.f5.length ≤ 2199023255488) : Ev (fun k => zaq.f k s.f0 s.f1 s.f2 s.f3 s.f4 s.f5) (s.f0, s.f1, s.f2, s.f3, s.f4, s.f5.map refN) := ref_go s hl s.f5 0 rfl (Nat.zero_le _)
def zji (s : S33) : Prop := FewC s.f2 ∧ s.f5.length ≤ 30 ∧ ∀ n ∈ s.f5, FewC n.f5
instance (s : S33) : Decidable (zji s) := by unfold zji; infer_instance
theorem smalls_go (a0 a1 : Int) (a2 : List S56) (a3 a4 : Int) (l : List S74) (hl : l.length ≤ 30) : ∀ (t : List S74) (i : Nat), l.drop i = t → Ev (fun k => zam.l0 k (i : Int) a0 a1 a2 a3 a4 l) (t.all fun n => decide (FewC n.f5))
 | [], i, h => by
  apply Ev.succ
  simp only [zam.l0]
  exact Ev.neg (dn h) (Ev.pure _)
 | c :: t, i, h => by
  obtain ⟨h1, h2, h3, h4, _⟩ := ds h
  apply Ev.succ
  simp only [zam.l0]
  have e : zak l (i : Int) = c := h2 _
  rw [e, ws (by omega), List.all_cons]
  refine Ev.pos h1 (Ev.pos (nn i) (Ev.bind (few_ev c.f5) ?_))
  by_cases hm : FewC c.f5
  ·rw [decide_eq_true hm, Bool.true_and]; exact Ev.pos rfl (smalls_go a0 a1 a2 a3 a4 l hl t (i + 1) h3)
  ·rw [decide_eq_false hm, Bool.false_and]; exact Ev.neg (by decide) (Ev.pure _)
theorem smalls_ev (s : S33) : Ev (fun k => zam.f k s.f0 s.f1 s.f2 s.f3 s.f4 (s.f5.map refN)) (decide (zji s)) := by
 have stop : Ev (fun k => zam.j0 k true s.f0 s.f1 s.f2 s.f3 s.f4 (s.f5.map refN)) false := by
  apply Ev.succ
  simp only [zam.j0]
  exact Ev.pos trivial (Ev.pure _)
 unfold zam.f
 refine Ev.bind (few_ev s.f2) ?_
 by_cases h1 : FewC s.f2
 ·rw [decide_eq_true h1]
  refine Ev.pos rfl ?_
  by_cases h2 : s.f5.length ≤ 30
  ·have : decide (zji s) = (s.f5.map refN).all fun n => decide (FewC n.f5) := by
    rw [Bool.eq_iff_iff, decide_eq_true_eq, List.all_eq_true]
    unfold zji
    simp only [List.mem_map, decide_eq_true_eq]
    exact ⟨fun h n ⟨m, hm, e⟩ => by subst e; exact h.2.2 m hm, fun h => ⟨h1, h2, fun n hn => h (refN n) ⟨n, hn, rfl⟩⟩⟩
   rw [this, decide_eq_false (by rw [List.length_map]; omega)]
   apply Ev.succ
   simp only [zam.j0]
   exact Ev.neg (by decide) (smalls_go _ _ _ _ _ _ (by rw [List.length_map]; exact h2) _ 0 rfl)
  ·have hd : decide (((s.f5.map refN).length : Int) > 30) = true := decide_eq_true (by rw [List.length_map]; omega)
   rw [hd, decide_eq_false (fun h : zji s => h2 h.2.1)]
   exact stop
 ·rw [decide_eq_false h1, decide_eq_false (fun h : zji s => h1 h.1)]
  exact Ev.neg (by decide) stop
theorem zji.ok {s : S33} (h : zji s) (hw : wf_T33 s) : okSb 60 60 s := ⟨h.1.ok hw.2.2.1, by have := h.2.1; omega, fun n hn => (h.2.2 n hn).ok (hw.2.2.2.2.2.2 n hn).2.2.2.2.2⟩
def sub1 : S33 := ⟨1, 0, [], 0, 0, []⟩
theorem state_nil : zgb [] = true := by unfold zgb zib; rfl
theorem item_nil : zib [] = true := by unfold zib; rfl
theorem apply_nil : zdm [] [] = ([], 0) := by
 unfold zdm finA
 rw [if_pos state_nil, if_pos item_nil]
 show (if (0 : Int) = 0 then (if zgb [] = true then (([] : List S56), (0 : Int)) else ([], 1)) else ([], 0)) = _
 rw [if_pos rfl, if_pos state_nil]
theorem right_of1 (p : Int) (h : 0 ≤ p ∧ p ≤ 10) : zjq ⟨1, p, [], 0, 0, []⟩ = true := ziw.2 ⟨⟨Int.le_refl 1, (by show (1 : Int) ≤ 4; decide)⟩, ⟨h.1, by show p ≤ _; omega⟩, state_nil, .inl ⟨rfl, rfl, rfl⟩⟩
def noteN : S41 := ⟨1, 1, 1, 0, 0, []⟩
def noteS : S41 := ⟨2, 1, 5, 0, 1, []⟩
theorem rn_N : rnS noteN = true := by unfold rnS noteN; rw [item_nil]; decide
theorem rn_S : rnS noteS = true := by unfold rnS noteS; rw [item_nil]; decide
theorem hear1 : zef sub1 noteN = ⟨1, 1, [], 0, 0, []⟩ := by
 unfold zef
 rw [if_pos ⟨right_of1 0 (by decide), rn_N, rfl⟩, if_pos (show noteN.f0 = 1 from rfl)]
 unfold nextS
 show (if (1 : Int) = 0 + 1 ∧ (zdm [] []).2 = 0 then (if (0 : Int) ≤ 1 then (⟨1, 1, (zdm [] []).1, 0, 0, []⟩ : S33) else ⟨1, 1, (zdm [] []).1, 0, 0, []⟩) else ⟨1, 0, [], 0, 0, []⟩) = _
 rw [apply_nil]; rfl
theorem hear2 : zef ⟨1, 1, [], 0, 0, []⟩ noteS = ⟨1, 5, [], 0, 0, []⟩ := by
 unfold zef
 rw [if_pos ⟨right_of1 1 (by decide), rn_S, rfl⟩, if_neg (by decide), if_pos (show noteS.f0 = 2 from rfl), if_pos (by decide)]
 unfold zes
 have e : ahead ⟨1, 1, [], 0, 0, []⟩ noteS = ⟨1, 1, [], 5, 1, []⟩ := rfl
 rw [e, if_pos ⟨rfl, rfl⟩]
 unfold fullS
 rw [if_neg (by decide)]
 show (if (zdm [] (allC [noteS])).2 = 0 then (⟨1, 5, (zdm [] (allC [noteS])).1, 0, 0, []⟩ : S33) else ⟨1, 1, [], 0, 0, []⟩) = _
 have e2 : allC [noteS] = [] := rfl
 rw [e2, apply_nil]; rfl
theorem okSb_nil (a b c d : Int) : okSb 0 0 ⟨a, b, [], c, d, []⟩ := ⟨okG_nil 0, Nat.zero_le _, fun x hx => by cases hx⟩
theorem awake_ev : Ev (fun k => zaw.f k) true := by
 unfold zaw.f
 have e : zim.f 1 = some (1, 0, ([] : List S56), 0, 0, ([] : List S41), 0) := rfl
 rw [e]
 refine Ev.bind (Ev.of rfl) ?_
 have h1 := hear_ev (s := sub1) (n := noteN) (okSb_nil ..) (okG_nil 0) (by decide)
 rw [hear1] at h1
 refine Ev.bind h1 ?_
 have h2 := hear_ev (s := ⟨1, 1, [], 0, 0, []⟩) (n := noteS) (okSb_nil ..) (okG_nil 0) (by decide)
 rw [hear2] at h2
 refine Ev.bind h2 ?_
 have h3 : Ev (fun k => zgi.f k 1 5 [] 0 0 []) (3, 1, 5, 0, 0, [], true) := by
  unfold zgi.f
  have := zid (s := ⟨1, 5, [], 0, 0, []⟩) (okSb_nil ..).sub
  rw [right_of1 5 (by decide)] at this
  exact Ev.bind this (Ev.pos rfl (Ev.pure _))
 refine Ev.bind h3 (Ev.of ?_)
 rfl
theorem aw1 : Ev (fun k => (zaw.f k).bind fun t => (some t : Option Bool)) true := Ev.bind awake_ev (Ev.pure _)
end Go.Proofs.YtchpbnabbjdfgaaDoor.Pure
