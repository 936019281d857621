-- HALVED
import Derived.Test.YtchpbnabbjdfgaaDoorPureE7
import Derived.Test.YtchpbnabbjdfgaaDoorPureEq
import Derived.Test.YtchpbnabbjdfgaaDoorPx0
import Derived.Test.YtchpbnabbjdfgaaDoorPx98
namespace Go.Proofs.YtchpbnabbjdfgaaDoor.Pure
open Go.ChangeShapes Go.WideShapes Go.ChangeAt Go.RowKit Go.Proofs.YtchpbnabbjdfgaaDoorW.PrintWords Go.Proofs.YtchpbnabbjdfgaaDoorW.PrintLast Go.Proofs.YtchpbnabbjdfgaaDoor.P Go.Proofs.YtchpbnabbjdfgaaDoor.Open
set_option linter.unusedVariables false
set_option linter.unusedSimpArgs false
theorem bag_uniq {l m : List S81} (hl : bagR l = true) (hm : bagR m = true) (h : ∀ r, cnt l r = cnt m r) : l = m := by
 have pl := rise_lt l (bagR_all hl).2
 have pm := rise_lt m (bagR_all hm).2
 have mem : ∀ {l m : List S81}, bagR l = true → l.Pairwise (fun a b => LtR a.f0 b.f0) → m.Pairwise (fun a b => LtR a.f0 b.f0) → (∀ r, cnt l r = cnt m r) → ∀ c ∈ l, c ∈ m := by
  intro l m hl pl pm h c hc
  obtain ⟨i, hi, rfl⟩ := List.getElem_of_mem hc
  have h1 := cnt_at pl (List.getElem?_eq_getElem hi) rfl
  have hne := ((bagR_all hl).1 _ hc).2.1
  have hex : ∃ d ∈ m, d.f0 = (l[i]).f0 := by
   refine Classical.byContradiction fun hno => ?_
   have := zih (r := (l[i]).f0) (l := m) (fun d hd he => hno ⟨d, hd, he⟩)
   rw [← h, h1] at this; exact hne this
  obtain ⟨d, hd, he⟩ := hex
  obtain ⟨j, hj, rfl⟩ := List.getElem_of_mem hd
  have h2 := cnt_at pm (List.getElem?_eq_getElem hj) rfl
  rw [he, ← h, h1] at h2
  have : l[i] = m[j] := by
   cases hx : l[i]; cases hy : m[j]
   rw [hx, hy] at he h2; simp only at he h2; rw [he, h2]
  rw [this]; exact hd
 have e1 := mem hl pl pm h
 have e2 := mem hm pm pl (fun r => (h r).symm)
 have hu : ∀ {l m : List S81}, l.Pairwise (fun a b => LtR a.f0 b.f0) → m.Pairwise (fun a b => LtR a.f0 b.f0) → (∀ c, c ∈ l ↔ c ∈ m) → l = m := by
  intro l
  induction l with
  | nil => intro m _ _ hh; cases m with
   | nil => rfl
   | cons x m => exact absurd ((hh x).2 List.mem_cons_self) (by simp)
  | cons x l ih =>
   intro m hp hq hh
   cases m with
   | nil => exact absurd ((hh x).1 List.mem_cons_self) (by simp)
   | cons y m =>
    rw [List.pairwise_cons] at hp hq
    have hxy : x = y := by
     rcases List.mem_cons.1 ((hh x).1 List.mem_cons_self) with h | h
     ·exact h
     ·rcases List.mem_cons.1 ((hh y).2 List.mem_cons_self) with h' | h'
      ·exact h'.symm
      ·exact absurd (hq.1 x h) (LtR.asym (hp.1 y h'))
    subst hxy
    rw [ih hp.2 hq.2 (fun c => ?_)]
    constructor
    ·intro hc
     rcases List.mem_cons.1 ((hh c).1 (List.mem_cons_of_mem _ hc)) with h | h
     ·subst h; exact absurd (hp.1 c hc) (LtR.irr _)
     ·exact h
    ·intro hc
     rcases List.mem_cons.1 ((hh c).2 (List.mem_cons_of_mem _ hc)) with h | h
     ·subst h; exact absurd (hq.1 c hc) (LtR.irr _)
     ·exact h
 exact hu pl pm (fun c => ⟨e1 c, e2 c⟩)
def valA (n : ByteArray) (r : List S105) : List S56 → Int
 | [] => 0
 | c :: l => (if c.f0 = n then cnt c.f1 r else 0) + valA n r l
theorem state_parts {l : List S56} (h : zef l = true) : l.Pairwise (fun a b => ltN a.f0 b.f0) ∧ ∀ c ∈ l, goodC c = true := by
 unfold zef zgd at h
 simp only [Bool.and_eq_true, List.all_eq_true] at h
 exact ⟨riseN_pw.1 h.1.1, h.2.2⟩
deriving instance DecidableEq for S56
theorem samech_go (l m : List S56) (hl : l.length ≤ 1000) (ho : ∀ c ∈ l, okL c.f1) (he : l.length = m.length) : ∀ (a b : List S56) (i : Nat), l.drop i = a → m.drop i = b → Ev (fun k => zai.l0 k l m (i : Int)) (decide (a = b))
 | [], b, i, ha, hb => by
  have la := dl ha
  have lb := dl hb
  have : b = [] := by apply List.eq_nil_of_length_eq_zero; rw [lb, ← he]; simp only [List.length_nil] at la; omega
  subst this
  apply Ev.succ
  simp only [zai.l0]
  exact Ev.neg (dn ha) (Ev.pure _)
 | a :: as_, b, i, ha, hb => by
  obtain ⟨a1, a2, a3, a4, a5⟩ := ds ha
  have oa := ho a (List.mem_of_getElem? a5)
  match b, hb with
  | [], hb => exact absurd (dn hb) (by omega)
  | b :: bs, hb =>
  obtain ⟨b1, b2, b3, b4, b5⟩ := ds hb
  have ea : zbb l (i : Int) = a := a2 _
  have eb : zbb m (i : Int) = b := b2 _
  apply Ev.succ
  simp only [zai.l0]
  rw [ea, eb, ws (by omega)]
  refine Ev.pos a1 (Ev.pos (nn i) (Ev.pos b1 ?_))
  by_cases h : a.f0 = b.f0
  ·refine Ev.pos (by rw [h]) (Ev.bind (eq_ev a.f1 b.f1 oa) ?_)
   by_cases h' : a.f1 = b.f1
   ·have hab : a = b := by cases a; cases b; simp only at h h'; rw [h, h']
    subst hab
    rw [decide_eq_true rfl, show decide (a :: as_ = a :: bs) = decide (as_ = bs) by simp]
    exact Ev.pos rfl (samech_go l m hl ho he as_ bs (i + 1) a3 b3)
   ·rw [decide_eq_false h', decide_eq_false (p := a :: as_ = b :: bs) (fun e => h' (by injection e with e _; rw [e]))]
    exact Ev.neg (by decide) (Ev.pure _)
  ·rw [decide_eq_false (p := a :: as_ = b :: bs) (fun e => h (by injection e with e _; rw [e]))]
   exact Ev.neg (fun e => h (ba_ext e)) (Ev.pure _)
theorem samech_ev (l m : List S56) (hl : l.length ≤ 1000) (ho : ∀ c ∈ l, okL c.f1) : Ev (fun k => zai.f k l m) (decide (l = m)) := by
 unfold zai.f
 by_cases h : l.length = m.length
 ·exact Ev.pos (by omega) (samech_go l m hl ho h l m 0 rfl rfl)
 ·rw [decide_eq_false (fun e => h (by rw [e]))]
  exact Ev.neg (by omega) (Ev.pure _)
end Go.Proofs.YtchpbnabbjdfgaaDoor.Pure
