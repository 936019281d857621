-- HALVED
import Derived.Test.YtchpbnabbjdfgaaDoorPureE8
import Derived.Test.YtchpbnabbjdfgaaDoorPureRefR
import Derived.Test.YtchpbnabbjdfgaaDoorPureB10
import Derived.Test.YtchpbnabbjdfgaaDoorPx0
import Derived.Test.YtchpbnabbjdfgaaDoorPx23
import Derived.Test.YtchpbnabbjdfgaaDoorPx98
import Derived.Test.YtchpbnabbjdfgaaDoorPx108
import Derived.Test.YtchpbnabbjdfgaaDoorPx114
namespace Go.Proofs.YtchpbnabbjdfgaaDoor.Pure
open Go.ChangeShapes Go.WideShapes Go.ChangeAt Go.RowKit Go.Proofs.YtchpbnabbjdfgaaDoorW.PrintWords Go.Proofs.YtchpbnabbjdfgaaDoorW.PrintLast Go.Proofs.YtchpbnabbjdfgaaDoor.P Go.Proofs.YtchpbnabbjdfgaaDoor.Open
set_option linter.unusedVariables false
set_option linter.unusedSimpArgs false
theorem Ev.uniq {α : Type} {g : Nat → Option α} {v w : α} (h : Ev g v) (h' : Ev g w) : v = w := by
 obtain ⟨k, h⟩ := h
 obtain ⟨k', h'⟩ := h'
 have a := h (max k k') (by omega)
 rw [h' (max k k') (by omega)] at a
 exact (Option.some.inj a).symm
def wordL : List (List UInt8) := [[115, 101, 108, 101, 99, 116], [102, 114, 111, 109], [106, 111, 105, 110], [111, 110], [119, 104, 101, 114, 101], [103, 114, 111, 117, 112], [98, 121], [97, 110, 100], [111, 114], [110, 111, 116], [105, 115], [110, 117, 108, 108], [116, 114, 117, 101], [102, 97, 108, 115, 101], [99, 111, 117, 110, 116], [115, 117, 109], [109, 105, 110], [109, 97, 120]]
def wordB (s : ByteArray) : Bool := wordL.any fun w => decide (s.toList = w)
theorem ite_or {c : Prop} [Decidable c] {X : Option Bool} {b : Bool} (h : X = some b) : (if c then some true else X) = some (decide c || b) := by
 by_cases hc : c
 ·rw [if_pos hc, decide_eq_true hc, Bool.true_or]
 ·rw [if_neg hc, decide_eq_false hc, Bool.false_or, h]
theorem word_eq (s : ByteArray) : zeb.f s = some (wordB s) := by
 unfold zeb.f wordB wordL
 simp only [List.any_cons, List.any_nil]
 repeat' first | rfl | (refine ite_or ?_)
theorem words_eq : ∃ l : List ByteArray, zco.f = some l ∧ l.map (fun b => b.toList) = wordL ∧ l.length ≤ 100 := ⟨_, rfl, by simp only [List.map_cons, List.map_nil, ByteArray.toList_eq]; rfl, by decide⟩
theorem refword_go (s : ByteArray) (l : List ByteArray) (hl : l.length ≤ 100) : ∀ (t : List ByteArray) (i : Nat), l.drop i = t → Ev (fun k => zbf.l0 k s l (i : Int)) (t.any fun w => decide (s.toList = w.toList))
 | [], i, h => by
  apply Ev.succ
  simp only [zbf.l0]
  exact Ev.neg (dn h) (Ev.pure _)
 | c :: t, i, h => by
  obtain ⟨h1, h2, h3, h4, _⟩ := ds h
  apply Ev.succ
  simp only [zbf.l0]
  have e : rdOf ByteArray.empty l (i : Int) = c := h2 _
  rw [e, ws (by omega), List.any_cons]
  refine Ev.pos h1 (Ev.pos (nn i) ?_)
  by_cases hc : c.toList = s.toList
  ·rw [decide_eq_true hc.symm, Bool.true_or]; exact Ev.pos hc (Ev.pure _)
  ·rw [decide_eq_false (fun e => hc e.symm), Bool.false_or]; exact Ev.neg hc (refword_go s l hl t (i + 1) h3)
theorem refword_ev (s : ByteArray) : Ev (fun k => zbf.f k s) (wordB s) := by
 obtain ⟨l, h1, h2, h3⟩ := words_eq
 unfold zbf.f
 rw [h1]
 have e : wordB s = l.any fun w => decide (s.toList = w.toList) := by
  unfold wordB
  rw [← h2, List.any_map]
  rfl
 rw [e]
 exact Ev.bind (Ev.of rfl) (refword_go s l h3 l 0 rfl)
def okB (s : ByteArray) (i : Nat) : Bool := decide (97 ≤ bt s i ∧ bt s i ≤ 122) || (decide (48 ≤ bt s i ∧ bt s i ≤ 57) || decide (bt s i = 95))
def zhf (s : ByteArray) : Nat → Nat → Bool
 | 0, _ => true
 | d + 1, i => okB s i && zhf s d (i + 1)
theorem okB_t {s : ByteArray} {i : Nat} (h : (97 ≤ bt s i ∧ bt s i ≤ 122) ∨ (48 ≤ bt s i ∧ bt s i ≤ 57) ∨ bt s i = 95) : okB s i = true := by
 unfold okB; simp only [Bool.or_eq_true, decide_eq_true_eq]; exact h
theorem okB_f {s : ByteArray} {i : Nat} (h : ¬ ((97 ≤ bt s i ∧ bt s i ≤ 122) ∨ (48 ≤ bt s i ∧ bt s i ≤ 57) ∨ bt s i = 95)) : okB s i = false := by
 refine Bool.eq_false_iff.2 fun e => h ?_
 unfold okB at e; simpa only [Bool.or_eq_true, decide_eq_true_eq] using e
def endB (s : ByteArray) : Bool := decide (1 ≤ s.size) && (decide (s.size ≤ 16) && !wordB s)
theorem nmA_go (s : ByteArray) (hs : s.size ≤ 1000000) : ∀ (d i : Nat), 1 ≤ i → s.size - i = d → Ev (fun k => zbn.l0 k s (s.size : Int) (i : Int)) (zhf s d i && endB s)
 | 0, i, h0, h => by
  apply Ev.succ
  simp only [zbn.l0]
  unfold zhf endB
  rw [Bool.true_and, word_eq]
  refine Ev.neg (by omega) ?_
  by_cases h1 : 1 ≤ s.size
  ·rw [decide_eq_true h1, Bool.true_and]
   refine Ev.pos (by omega) ?_
   by_cases h2 : s.size ≤ 16
   ·rw [decide_eq_true h2, Bool.true_and]; exact Ev.pos (by omega) (Ev.bind (Ev.of rfl) (Ev.pure _))
   ·rw [decide_eq_false h2, Bool.false_and]; exact Ev.neg (by omega) (Ev.pure _)
  ·rw [decide_eq_false h1, Bool.false_and]; exact Ev.neg (by omega) (Ev.pure _)
 | d + 1, i, h0, h => by
  have ih := nmA_go s hs d (i + 1) (by omega) (by omega)
  apply Ev.succ
  simp only [zbn.l0]
  rw [ws (by omega)]
  simp only [zhf]
  refine Ev.pos (by omega) (Ev.pos (by omega) (Ev.pos (by omega) ?_))
  have A : ∀ hn : ¬ (97 ≤ bt s i ∧ bt s i ≤ 122), Ev (fun k => if (i : Int) = 0 then some false else if bt s (i : Int) = 95 then zbn.l0 k s (s.size : Int) ((i + 1 : Nat) : Int) else if bt s (i : Int) < 48 then some false else if bt s (i : Int) > 57 then some false else zbn.l0 k s (s.size : Int) ((i + 1 : Nat) : Int)) ((okB s i && zhf s d (i + 1)) && endB s) := fun hn => by
   refine Ev.neg (by omega) ?_
   by_cases q1 : bt s i = 95
   ·rw [okB_t (.inr (.inr q1)), Bool.true_and]; exact Ev.pos q1 ih
   ·refine Ev.neg q1 ?_
    by_cases q2 : 48 ≤ bt s i ∧ bt s i ≤ 57
    ·rw [okB_t (.inr (.inl q2)), Bool.true_and]; exact Ev.neg (by omega) (Ev.neg (by omega) ih)
    ·rw [okB_f (by rintro (h | h | h); exact hn h; exact q2 h; exact q1 h), Bool.false_and, Bool.false_and]
     by_cases q3 : bt s i < 48
     ·exact Ev.pos q3 (Ev.pure _)
     ·exact Ev.neg q3 (Ev.pos (by omega) (Ev.pure _))
  by_cases p1 : bt s i ≥ 97
  ·refine Ev.pos p1 ?_
   by_cases p2 : bt s i ≤ 122
   ·rw [okB_t (.inl ⟨p1, p2⟩), Bool.true_and]; exact Ev.pos p2 ih
   ·exact Ev.neg p2 (A fun h => p2 h.2)
  ·exact Ev.neg p1 (A fun h => p1 h.1)
def nameB (s : ByteArray) : Bool := decide (97 ≤ bt s (0 : Nat) ∧ bt s (0 : Nat) ≤ 122) && (zhf s (s.size - 1) 1 && endB s)
theorem name_ev (s : ByteArray) (hs : s.size ≤ 1000000) : Ev (fun k => zbn.f k s) (nameB s) := by
 unfold zbn.f nameB
 apply Ev.succ
 simp only [zbn.l0]
 by_cases h0 : s.size = 0
 ·have : endB s = false := by unfold endB; rw [decide_eq_false (by omega), Bool.false_and]
  rw [this, Bool.and_false, Bool.and_false]
  exact Ev.neg (by omega) (Ev.neg (by omega) (Ev.pure _))
 ·have ih := nmA_go s hs (s.size - 1) 1 (Nat.le_refl 1) rfl
  have e : wrap64 ((0 : Int) + 1) = ((1 : Nat) : Int) := ws (i := 0) (by omega)
  rw [e]
  refine Ev.pos (by omega) (Ev.pos (by omega) (Ev.pos (by omega) ?_))
  have hb : bt s (0 : Int) = bt s ((0 : Nat) : Int) := rfl
  rw [hb]
  by_cases p1 : bt s ((0 : Nat) : Int) ≥ 97
  ·refine Ev.pos p1 ?_
   by_cases p2 : bt s ((0 : Nat) : Int) ≤ 122
   ·rw [decide_eq_true ⟨p1, p2⟩, Bool.true_and]; exact Ev.pos p2 ih
   ·rw [decide_eq_false (fun h => p2 h.2), Bool.false_and]; exact Ev.neg p2 (Ev.pos trivial (Ev.pure _))
  ·rw [decide_eq_false (fun h => p1 h.1), Bool.false_and]; exact Ev.neg p1 (Ev.pos trivial (Ev.pure _))
theorem refnm_go (s : ByteArray) (hs : s.size ≤ 1000000) (h1 : 1 ≤ s.size) : ∀ (d i : Nat), s.size - i = d → Ev (fun k => zaj.l0 k s (i : Int)) (zhf s d i && (decide (bt s (0 : Nat) ≠ 95) && decide (bt s (0 : Nat) ≤ 122)))
 | 0, i, h => by
  apply Ev.succ
  simp only [zaj.l0]
  unfold zhf
  rw [Bool.true_and]
  refine Ev.neg (by omega) (Ev.pos (by omega) ?_)
  by_cases q : bt s ((0 : Nat) : Int) = 95
  ·rw [decide_eq_false (p := bt s ((0 : Nat) : Int) ≠ 95) (fun h => h q), Bool.false_and]; exact Ev.pos q (Ev.pure _)
  ·rw [decide_eq_true (p := bt s ((0 : Nat) : Int) ≠ 95) q, Bool.true_and]; exact Ev.neg q (Ev.pure _)
 | d + 1, i, h => by
  have ih := refnm_go s hs h1 d (i + 1) (by omega)
  apply Ev.succ
  simp only [zaj.l0]
  rw [ws (by omega)]
  simp only [zhf]
  refine Ev.pos (by omega) (Ev.pos (by omega) ?_)
  have B : ∀ (g : Nat → Option Bool), Ev g (zhf s d (i + 1) && (decide (bt s (0 : Nat) ≠ 95) && decide (bt s (0 : Nat) ≤ 122))) → ∀ hn : ¬ (97 ≤ bt s i ∧ bt s i ≤ 122), ¬ (48 ≤ bt s i ∧ bt s i ≤ 57) → Ev (fun k => if bt s (i : Int) = 95 then g k else some false) ((okB s i && zhf s d (i + 1)) && (decide (bt s (0 : Nat) ≠ 95) && decide (bt s (0 : Nat) ≤ 122))) := fun g hg hn hm => by
   by_cases q : bt s i = 95
   ·rw [okB_t (.inr (.inr q)), Bool.true_and]; exact Ev.pos q hg
   ·rw [okB_f (by rintro (h | h | h); exact hn h; exact hm h; exact q h), Bool.false_and, Bool.false_and]; exact Ev.neg q (Ev.pure _)
  have A : ∀ hn : ¬ (97 ≤ bt s i ∧ bt s i ≤ 122), Ev (fun k => if bt s (i : Int) ≥ 48 then (if bt s (i : Int) ≤ 57 then zaj.l0 k s ((i + 1 : Nat) : Int) else if bt s (i : Int) = 95 then zaj.l0 k s ((i + 1 : Nat) : Int) else some false) else if bt s (i : Int) = 95 then zaj.l0 k s ((i + 1 : Nat) : Int) else some false) ((okB s i && zhf s d (i + 1)) && (decide (bt s (0 : Nat) ≠ 95) && decide (bt s (0 : Nat) ≤ 122))) := fun hn => by
   by_cases q1 : bt s i ≥ 48
   ·refine Ev.pos q1 ?_
    by_cases q2 : bt s i ≤ 57
    ·rw [okB_t (.inr (.inl ⟨q1, q2⟩)), Bool.true_and]; exact Ev.pos q2 ih
    ·exact Ev.neg q2 (B _ ih hn fun h => q2 h.2)
   ·exact Ev.neg q1 (B _ ih hn fun h => q1 h.1)
  by_cases p1 : bt s i ≥ 97
  ·refine Ev.pos p1 ?_
   by_cases p2 : bt s i ≤ 122
   ·rw [okB_t (.inl ⟨p1, p2⟩), Bool.true_and]; exact Ev.pos p2 ih
   ·exact Ev.neg p2 (A fun h => p2 h.2)
  ·exact Ev.neg p1 (A fun h => p1 h.1)
theorem refname_ev (s : ByteArray) (hs : s.size ≤ 1000000) : Ev (fun k => zaj.f k s) (nm s) := by
 rw [Ev.uniq (nm_ev s hs) (name_ev s hs)]
 have jt : Ev (fun k => zaj.j0 k s true) false := by
  apply Ev.succ
  simp only [zaj.j0]
  exact Ev.pos trivial (Ev.pure _)
 unfold zaj.f nameB endB
 by_cases h0 : s.size = 0
 ·rw [decide_eq_false (p := 1 ≤ s.size) (by omega), Bool.false_and, Bool.and_false, Bool.and_false]; exact Ev.pos (by omega) jt
 ·rw [decide_eq_true (p := 1 ≤ s.size) (by omega), Bool.true_and]
  refine Ev.neg (by omega) ?_
  by_cases h16 : s.size ≤ 16
  ·rw [decide_eq_true h16, Bool.true_and]
   refine Ev.neg (by omega) (Ev.pos (by omega) ?_)
   by_cases p1 : bt s ((0 : Nat) : Int) < 97
   ·rw [decide_eq_false (fun h => by omega), Bool.false_and]; exact Ev.pos p1 jt
   ·refine Ev.neg p1 (Ev.bind (refword_ev s) ?_)
    by_cases hw : wordB s = true
    ·rw [hw, Bool.not_true, Bool.and_false, Bool.and_false]; exact jt
    ·rw [Bool.eq_false_iff.2 hw, Bool.not_false, Bool.and_true]
     apply Ev.succ
     simp only [zaj.j0]
     refine Ev.neg (by decide) ?_
     have := refnm_go s hs (by omega) s.size 0 rfl
     obtain ⟨d, hd⟩ : ∃ d, s.size = d + 1 := ⟨s.size - 1, by omega⟩
     have e : (zhf s s.size 0 && (decide (bt s ((0 : Nat) : Int) ≠ 95) && decide (bt s ((0 : Nat) : Int) ≤ 122))) = (decide (97 ≤ bt s ((0 : Nat) : Int) ∧ bt s ((0 : Nat) : Int) ≤ 122) && zhf s (s.size - 1) 1) := by
      rw [hd, Nat.add_sub_cancel]
      simp only [zhf]
      by_cases p2 : bt s ((0 : Nat) : Int) ≤ 122
      ·rw [okB_t (.inl ⟨by omega, p2⟩), decide_eq_true p2, decide_eq_true (p := bt s ((0 : Nat) : Int) ≠ 95) (by omega), decide_eq_true (p := 97 ≤ bt s ((0 : Nat) : Int) ∧ bt s ((0 : Nat) : Int) ≤ 122) ⟨by omega, p2⟩]
       simp
      ·rw [decide_eq_false p2, decide_eq_false (p := 97 ≤ bt s ((0 : Nat) : Int) ∧ bt s ((0 : Nat) : Int) ≤ 122) (fun h => p2 h.2)]
       simp
     rw [e] at this
     exact this
  ·rw [decide_eq_false h16, Bool.false_and, Bool.and_false, Bool.and_false]; exact Ev.pos (by omega) jt
theorem refitem_go {B : Nat} (l : List S56) (hl : okG B l) : ∀ (t : List S56) (i : Nat), l.drop i = t → Ev (fun k => zbc.l0 k l (i : Int)) (t.all zft && decide (l.length ≤ 16))
 | [], i, h => by
  apply Ev.succ
  simp only [zbc.l0]
  rw [List.all_nil, Bool.true_and]
  refine Ev.neg (dn h) (Ev.of ?_)
  congr 2
  exact propext (by omega)
 | c :: t, i, h => by
  obtain ⟨h1, h2, h3, h4, h5⟩ := ds h
  have hll := hl.1
  have hc := hl.2 c (List.mem_of_getElem? h5)
  apply Ev.succ
  simp only [zbc.l0]
  have e : zbg l (i : Int) = c := h2 _
  rw [e, ws (by omega), List.all_cons]
  refine Ev.pos h1 (Ev.pos (nn i) (Ev.bind (refname_ev _ (by have := hc.1; omega)) ?_))
  by_cases hn : nm c.f0 = true
  ·rw [hn]
   refine Ev.pos rfl ?_
   by_cases he : c.f1.isEmpty = true
   ·have : zft c = false := by unfold zft; rw [he]; simp
    rw [this, Bool.false_and, Bool.false_and]
    exact Ev.pos ((len0 _).2 he) (Ev.pure _)
   ·refine Ev.neg (fun h => he ((len0 _).1 h)) (Ev.bind (refR_ev _ hc.2.1) ?_)
    by_cases hb : bagR c.f1 = true
    ·have : zft c = true := by unfold zft; rw [hn, hb, Bool.eq_false_iff.2 he]; rfl
     rw [hb, this, Bool.true_and]
     exact Ev.pos rfl (refitem_go l hl t (i + 1) h3)
    ·have : zft c = false := by unfold zft; rw [Bool.eq_false_iff.2 hb]; simp
     rw [Bool.eq_false_iff.2 hb, this, Bool.false_and, Bool.false_and]
     exact Ev.neg (by decide) (Ev.pure _)
  ·have : zft c = false := by unfold zft; rw [Bool.eq_false_iff.2 hn]; rfl
   rw [Bool.eq_false_iff.2 hn, this, Bool.false_and, Bool.false_and]
   exact Ev.neg (by decide) (Ev.pure _)
theorem refitem_ev {B : Nat} (l : List S56) (hl : okG B l) : Ev (fun k => zbc.f k l) (zfj l) := by
 have := refitem_go l hl l 0 rfl
 rw [Bool.and_comm] at this
 exact this
def nnC (c : S56) : Bool := c.f1.all fun d => decide (0 ≤ d.f1)
theorem refneg_go (l : List S56) (c : S56) (i : Nat) (hi : l[i]? = some c) (hc : c.f1.length ≤ 1000000) (v : Bool) (hv : Ev (fun k => zah.l0 k l (wrap64 ((i : Int) + 1))) v) : ∀ (t : List S81) (j : Nat), c.f1.drop j = t → Ev (fun k => zah.l1 k l (i : Int) (j : Int)) ((t.all fun d => decide (0 ≤ d.f1)) && v)
 | t, j, h => by
  have hil : i < l.length := (List.getElem?_eq_some_iff.1 hi).1
  have e : zbg l (i : Int) = c := by unfold zbg; rw [Int.toNat_natCast, List.getD_eq_getElem?_getD, hi]; rfl
  apply Ev.succ
  simp only [zah.l1]
  rw [e]
  refine Ev.pos (nn i) (Ev.pos (by omega) ?_)
  match t, h with
  | [], h => rw [List.all_nil, Bool.true_and]; exact Ev.neg (dn h) hv
  | d :: t, h =>
   obtain ⟨h1, h2, h3, h4, _⟩ := ds h
   have e2 : zal c.f1 (j : Int) = d := h2 _
   rw [e2, ws (by omega), List.all_cons]
   refine Ev.pos h1 (Ev.pos (nn j) ?_)
   by_cases hd : d.f1 < 0
   ·rw [decide_eq_false (by omega), Bool.false_and, Bool.false_and]; exact Ev.pos hd (Ev.pure _)
   ·rw [decide_eq_true (by omega), Bool.true_and]; exact Ev.neg hd (refneg_go l c i hi hc v hv t (j + 1) h3)
 termination_by t => t.length
theorem refstate_go {B : Nat} (l : List S56) (hl : okG B l) : ∀ (t : List S56) (i : Nat), l.drop i = t →
  Ev (fun k => zah.l0 k l (i : Int)) ((zgl ((l.take i).drop (i - 1) ++ t) && t.all nnC) && zfj l)
 | [], i, h => by
  apply Ev.succ
  simp only [zah.l0]
  have : zgl ((l.take i).drop (i - 1) ++ []) = true := by
   rw [List.append_nil]
   have hlen : ((l.take i).drop (i - 1)).length ≤ 1 := by rw [List.length_drop, List.length_take]; omega
   match (l.take i).drop (i - 1), hlen with
   | [], _ => rfl
   | [_], _ => rfl
   | _ :: _ :: _, hh => simp at hh
  rw [this, List.all_nil, Bool.true_and, Bool.true_and]
  exact Ev.neg (dn h) (Ev.bind (refitem_ev _ hl) (Ev.pure _))
 | c :: t, i, h => by
  obtain ⟨h1, h2, h3, h4, h5⟩ := ds h
  have hm : c ∈ l := List.mem_of_getElem? h5
  have hc := hl.2 c hm
  have hll := hl.1
  have e : zbg l (i : Int) = c := h2 _
  apply Ev.succ
  simp only [zah.l0]
  rw [e]
  refine Ev.pos h1 ?_
  have ih := refstate_go l hl t (i + 1) h3
  have htk : (l.take (i + 1)).drop (i + 1 - 1) = [c] := by
   rw [Nat.add_sub_cancel, List.take_succ_eq_append_getElem h4, List.drop_left' (by rw [List.length_take]; omega)]
   have := List.getElem?_eq_getElem h4
   rw [h5] at this
   rw [Option.some.inj this]
  rw [htk] at ih
  have jf : ∀ v, zgl ((l.take i).drop (i - 1) ++ c :: t) = (v && zgl (c :: t)) → v = true → Ev (fun k => zah.j1 k l (i : Int) false) ((zgl ((l.take i).drop (i - 1) ++ c :: t) && (c :: t).all nnC) && zfj l) := by
   intro v hv hvt
   rw [hv, hvt, Bool.true_and, List.all_cons]
   apply Ev.succ
   simp only [zah.j1]
   refine Ev.neg (by decide) ?_
   have hw : wrap64 ((i : Int) + 1) = ((i + 1 : Nat) : Int) := ws (by omega)
   have := refneg_go l c i h5 (by have := hc.2.1.1; omega) _ (by rw [hw]; exact ih) c.f1 0 rfl
   have e2 : ((zgl (c :: t) && (nnC c && t.all nnC)) && zfj l) = ((c.f1.all fun d => decide (0 ≤ d.f1)) && ((zgl ([c] ++ t) && t.all nnC) && zfj l)) := by
    show ((zgl (c :: t) && (nnC c && t.all nnC)) && zfj l) = (nnC c && ((zgl (c :: t) && t.all nnC) && zfj l))
    cases zgl (c :: t) <;> cases nnC c <;> simp
   rw [e2]; exact this
  by_cases hi0 : i = 0
  ·subst hi0
   exact Ev.neg (by omega) (jf true rfl rfl)
  ·apply Ev.pos (by omega)
   obtain ⟨p, hp⟩ : ∃ p, l[i - 1]? = some p := ⟨l[i - 1]'(by omega), List.getElem?_eq_getElem _⟩
   have hpd : (l.take i).drop (i - 1) = [p] := by
    obtain ⟨j, rfl⟩ : ∃ j, i = j + 1 := ⟨i - 1, by omega⟩
    rw [Nat.add_sub_cancel] at hp ⊢
    rw [List.take_succ_eq_append_getElem (by omega), List.drop_left' (by rw [List.length_take]; omega)]
    rw [List.getElem?_eq_getElem (by omega)] at hp
    rw [Option.some.inj hp]
   have hw : wrap64 ((i : Int) - 1) = ((i - 1 : Nat) : Int) := by rw [w64 (by omega) (by omega)]; omega
   have ep : zbg l ((i - 1 : Nat) : Int) = p := by
    unfold zbg
    rw [Int.toNat_natCast, List.getD_eq_getElem?_getD, hp]
    rfl
   have hr : zgl ((l.take i).drop (i - 1) ++ c :: t) = (decide (ltN p.f0 c.f0) && zgl (c :: t)) := by rw [hpd]; rfl
   rw [hw, ep]
   refine Ev.pos (nn _) (Ev.pos (by omega) (Ev.pos (nn i) ?_))
   by_cases hlt : ltN p.f0 c.f0
   ·have : (!Op.bytesLess p.f0.toList c.f0.toList) = false := by rw [show Op.bytesLess p.f0.toList c.f0.toList = true from hlt]; rfl
    rw [this]
    exact jf _ hr (decide_eq_true hlt)
   ·have : (!Op.bytesLess p.f0.toList c.f0.toList) = true := by rw [Bool.eq_false_iff.2 hlt]; rfl
    rw [this, hr, decide_eq_false hlt, Bool.false_and, Bool.false_and, Bool.false_and]
    apply Ev.succ
    simp only [zah.j1]
    exact Ev.pos trivial (Ev.pure _)
theorem state_nn (l : List S56) : ((zgl l && l.all nnC) && zfj l) = zed l := by
 unfold zed
 by_cases hi : zfj l = true
 ·rw [hi, Bool.and_true, Bool.and_true]
  congr 1
  rw [Bool.eq_iff_iff, List.all_eq_true, List.all_eq_true]
  have hg : ∀ c ∈ l, bagR c.f1 = true := fun c hc => by
   unfold zfj at hi
   simp only [Bool.and_eq_true, List.all_eq_true] at hi
   have := hi.2 c hc
   unfold zft at this
   simp only [Bool.and_eq_true] at this
   exact this.2.2
  have he : ∀ c ∈ l, (nnC c = true ↔ wholeR c.f1 = true) := fun c hc => by
   unfold nnC wholeR
   rw [hg c hc, Bool.true_and, List.all_eq_true, Bool.not_eq_true', Bool.eq_false_iff, Ne, List.any_eq_true]
   simp only [decide_eq_true_eq]
   exact ⟨fun h ⟨x, hx, hx2⟩ => by have := h x hx; omega, fun h x hx => by
    by_cases h0 : x.f1 < 0
    ·exact absurd ⟨x, hx, h0⟩ h
    ·omega⟩
  exact ⟨fun h c hc => (he c hc).1 (h c hc), fun h c hc => (he c hc).2 (h c hc)⟩
 ·rw [Bool.eq_false_iff.2 hi, Bool.and_false, Bool.and_false]
theorem refstate_ev {B : Nat} (l : List S56) (hl : okG B l) : Ev (fun k => zah.f k l) (zed l) := by
 rw [← state_nn l]
 exact refstate_go l hl l 0 rfl
theorem outOf_some {g : List S105 → Int} : ∀ {D : List (List S105)}, (∀ r ∈ D, fit (g r) = true) → ∃ o, zfk g D = some o
 | [], _ => ⟨[], rfl⟩
 | r :: D, h => by
  obtain ⟨o, ho⟩ := outOf_some (D := D) (fun x hx => h x (List.mem_cons_of_mem _ hx))
  simp only [zfk]
  rw [if_pos (h r List.mem_cons_self), ho]
  exact ⟨_, rfl⟩
theorem ziz {l : List S81} (h : bagR l = true) : zgb l = (l, 0) := by
 obtain ⟨h1, h2⟩ := bagR_all h
 have hp := rise_lt l h2
 have ha : l.all zgk = true := List.all_eq_true.2 fun c hc => by
  unfold zgk
  rw [(h1 c hc).1, (h1 c hc).2.2]; rfl
 have hf : ∀ r, fit (cnt l r) = true := fun r => by
  by_cases hx : ∃ c ∈ l, c.f0 = r
  ·obtain ⟨c, hc, e⟩ := hx
   obtain ⟨i, hi, rfl⟩ := List.getElem_of_mem hc
   rw [cnt_at hp (List.getElem?_eq_getElem hi) e]
   exact (h1 _ hc).1
  ·rw [zix fun c hc e => hx ⟨c, hc, e⟩]; rfl
 obtain ⟨o, ho⟩ := outOf_some (g := cnt l) (D := dis l) (fun r _ => hf r)
 have e0 : (zgb l).2 = 0 := by unfold zgb; rw [if_pos ha, ho]; rfl
 have e1 : (zgb l).1 = l := bag_uniq sortS_right h (fun r => sortS_cnt e0 r)
 exact Prod.ext e1 e0
theorem sum_two {a b : List S81} (ha : bagR a = true) (hb : bagR b = true) : sumS [a, b] = zgb (a ++ b) := by
 unfold sumS
 rw [if_pos (by simp [ha, hb])]
 simp
theorem zhi (last : ByteArray) : ∀ (l m : List S56) (b : ByteArray), zac.pick last b (l ++ m) = zac.pick last (zac.pick last b l) m
 | [], m, b => rfl
 | c :: l, m, b => by simp only [List.cons_append, zac.pick]; exact zhi last l m _
theorem zfc (last : ByteArray) : ∀ (l : List S56) (b : ByteArray), (∀ x ∈ l, ¬ (ltN last x.f0 ∧ (b.size = 0 ∨ ltN x.f0 b))) → zac.pick last b l = b
 | [], b, _ => rfl
 | c :: l, b, h => by
  have hc := h c List.mem_cons_self
  unfold ltN at hc
  simp only [zac.pick]
  rw [if_neg hc]
  exact zfc last l b fun x hx => h x (List.mem_cons_of_mem _ hx)
theorem zgj (b : ByteArray) : ∀ (l m : List S56) (a : List S81), zac.gath b a (l ++ m) = zac.gath b (zac.gath b a l) m
 | [], m, a => rfl
 | c :: l, m, a => by simp only [List.cons_append, zac.gath]; exact zgj b l m _
theorem zhs (b : ByteArray) : ∀ (l : List S56) (a : List S81), (∀ x ∈ l, x.f0 ≠ b) → zac.gath b a l = a
 | [], a, _ => rfl
 | c :: l, a, h => by
  simp only [zac.gath]
  rw [if_neg (h c List.mem_cons_self)]
  exact zhs b l a fun x hx => h x (List.mem_cons_of_mem _ hx)
theorem zhz (b : ByteArray) (c : S56) (a : List S81) : zac.gath b a [c] = if c.f0 = b then a ++ c.f1 else a := by simp only [zac.gath]
theorem ltN_ne {a b : ByteArray} (h : ltN a b) : a ≠ b := fun e => ltN.irr b (by rw [e] at h; exact h)
theorem ltN_nil {s : ByteArray} (h : s.size ≠ 0) : ltN ⟨#[]⟩ s := by
 unfold ltN
 rw [ByteArray.toList_eq, ByteArray.toList_eq]
 have : s.data.toList.length ≠ 0 := by rw [Array.length_toList]; exact h
 cases hs : s.data.toList with
 | nil => rw [hs] at this; exact absurd rfl this
 | cons x l => rfl
theorem add_step {s : List S56} {last B : ByteArray} {G : List S81} {l : List S56} {v : List S56} (hp : zac.pick last ⟨#[]⟩ s = B) (hB : B.size ≠ 0) (hg : zac.gath B [] s = G) (hG : okL G) (hl : l.length ≤ 1000000)
  (h : Ev (fun k => zac.l0 s k (if (zgb G).1.length = 0 then l else l ++ [⟨B, (zgb G).1⟩]) B) v) : Ev (fun k => zac.l0 s k l last) v := by
 apply Ev.succ
 simp only [zac.l0]
 rw [hp, hg]
 exact Ev.neg hB (Ev.pos ⟨hG.1, hl⟩ (Ev.bind (refS_ev G hG) h))
theorem zdf {c : S56} (h : zft c = true) : nm c.f0 = true ∧ ne0 c = true ∧ c.f1.length ≠ 0 ∧ bagR c.f1 = true := by
 unfold zft at h
 simp only [Bool.and_eq_true] at h
 have : c.f1.length ≠ 0 := fun e => by
  have := List.eq_nil_of_length_eq_zero e
  rw [this] at h; exact absurd h.2.1 (by decide)
 exact ⟨h.1, by unfold ne0; simpa using this, this, h.2.2⟩
theorem nm_size {s : ByteArray} (hs : s.size ≤ 1000000) (h : nm s = true) : s.size ≠ 0 := by
 rw [Ev.uniq (nm_ev s hs) (name_ev s hs)] at h
 intro e
 unfold nameB endB at h
 rw [decide_eq_false (p := 1 ≤ s.size) (by omega), Bool.false_and, Bool.and_false, Bool.and_false] at h
 cases h
def zhu (last : ByteArray) (rest : List S56) (c : S56) : List S56 := if ltN last c.f0 then (addC rest c).1.filter ne0 else rest
theorem add_go {B M : Nat} (hBM : B + M ≤ 1000000) (s : List S56) (c : S56) (hok : ∀ x ∈ s, x.f0.size ≤ 100 ∧ okL x.f1 ∧ x.f1.length ≤ B) (hgs : ∀ x ∈ s, zft x = true) (hpw : s.Pairwise (fun a b => ltN a.f0 b.f0)) (hc : c.f0.size ≤ 100 ∧ okL c.f1 ∧ c.f1.length ≤ M) (hgc : zft c = true) :
  ∀ (n : Nat) (pre rest l : List S56) (last : ByteArray), rest.length + (if ltN last c.f0 then 1 else 0) ≤ n → s = pre ++ rest → (∀ x ∈ pre, ¬ ltN last x.f0) → (∀ x ∈ rest, ltN last x.f0) → (ltN last c.f0 → (addC rest c).2 = 0) → l.length + n ≤ 1000000 →
   Ev (fun k => zac.l0 (s ++ [c]) k l last) (l ++ zhu last rest c) := by
 have szs : ∀ x ∈ s, x.f0.size ≠ 0 := fun x hx => nm_size (by have := (hok x hx).1; omega) (zdf (hgs x hx)).1
 have szc : c.f0.size ≠ 0 := nm_size (by have := hc.1; omega) (zdf hgc).1
 obtain ⟨_, _, c3, c4⟩ := zdf hgc
 intro n
 induction n with
 | zero =>
  intro pre rest l last hn hs hpre hrest hadd hl
  have h0 : ¬ ltN last c.f0 := fun h => by rw [if_pos h] at hn; omega
  have hr : rest = [] := List.eq_nil_of_length_eq_zero (by omega)
  subst hr
  unfold zhu
  rw [if_neg h0, List.append_nil]
  apply Ev.succ
  simp only [zac.l0]
  have : zac.pick last ⟨#[]⟩ (s ++ [c]) = ⟨#[]⟩ := zfc last _ _ fun x hx h => by
   rcases List.mem_append.1 hx with hx | hx
   ·rw [hs, List.append_nil] at hx; exact hpre x hx h.1
   ·rw [List.mem_singleton] at hx; rw [hx] at h; exact h0 h.1
  rw [this]
  exact Ev.pos rfl (Ev.pure _)
 | succ n ih =>
  intro pre rest l last hn hs hpre hrest hadd hl
  by_cases hpend : ltN last c.f0
  ·rw [if_pos hpend] at hn
   have ha0 := hadd hpend
   cases rest with
   | nil =>
    have hs' : s = pre := by rw [hs, List.append_nil]
    have hnone : ∀ x ∈ s, x.f0 ≠ c.f0 := fun x hx e => hpre x (hs' ▸ hx) (by rw [e]; exact hpend)
    have e1 : zac.pick last ⟨#[]⟩ (s ++ [c]) = c.f0 := by
     rw [zhi, zfc last s _ (fun x hx h => hpre x (hs' ▸ hx) h.1)]
     simp only [zac.pick]
     exact if_pos ⟨hpend, .inl rfl⟩
    have e2 : zac.gath c.f0 [] (s ++ [c]) = c.f1 := by
     rw [zgj, zhs _ _ _ hnone, zhz, if_pos rfl]; rfl
    refine add_step e1 szc e2 hc.2.1 (by omega) ?_
    rw [ziz c4, if_neg c3]
    have := ih s [] (l ++ [⟨c.f0, c.f1⟩]) c.f0 (by rw [if_neg (ltN.irr _)]; simp) (List.append_nil s).symm (fun x hx h => hpre x (hs' ▸ hx) (hpend.tr h)) (fun x hx => by cases hx) (fun h => absurd h (ltN.irr _)) (by simp; omega)
    have e3 : l ++ zhu last [] c = (l ++ [⟨c.f0, c.f1⟩]) ++ zhu c.f0 [] c := by
     unfold zhu
     rw [if_pos hpend, if_neg (ltN.irr _)]
     simp only [addC]
     rw [sum_two rfl c4, List.nil_append, ziz c4, List.filter_cons_of_pos (by unfold ne0; simp [c3]), List.append_assoc]
     rfl
    rw [e3]; exact this
   | cons d r =>
    have hd := hrest d List.mem_cons_self
    have hds : d ∈ s := by rw [hs]; simp
    obtain ⟨_, d2, d3, d4⟩ := zdf (hgs d hds)
    have hdo := hok d hds
    rw [List.length_cons] at hn
    have hpw' : ∀ x ∈ r, ltN d.f0 x.f0 := fun x hx => by
     have := hpw; rw [hs] at this
     exact (List.pairwise_cons.1 (List.pairwise_append.1 this).2.1).1 x hx
    have hpd : ∀ x ∈ pre, ltN x.f0 d.f0 := fun x hx => by
     have := hpw; rw [hs] at this
     exact (List.pairwise_append.1 this).2.2 x hx d List.mem_cons_self
    have p1 : zac.pick last ⟨#[]⟩ s = d.f0 := by
     rw [hs, zhi, zfc last pre _ (fun x hx h => hpre x hx h.1)]
     simp only [zac.pick]
     rw [if_pos ⟨hd, .inl rfl⟩]
     exact zfc last r _ fun x hx h => by
      rcases h.2 with h | h
      ·exact szs d hds h
      ·exact h.asym (hpw' x hx)
    have g1 : ∀ b, (∀ x ∈ pre, x.f0 ≠ b) → (∀ x ∈ r, x.f0 ≠ b) → zac.gath b [] s = if d.f0 = b then d.f1 else [] := fun b h1 h2 => by
     rw [hs, zgj, zhs _ _ _ h1, show d :: r = [d] ++ r from rfl, zgj, zhz, zhs _ _ _ h2]
     rfl
    have g2 := g1 d.f0 (fun x hx => ltN_ne (hpd x hx)) (fun x hx e => ltN_ne (hpw' x hx) e.symm)
    rw [if_pos rfl] at g2
    by_cases q1 : ltN d.f0 c.f0
    ·have e1 : zac.pick last ⟨#[]⟩ (s ++ [c]) = d.f0 := by
      rw [zhi, p1]
      exact zfc last _ _ fun x hx h => by
       rw [List.mem_singleton] at hx
       rw [hx] at h
       rcases h.2 with h | h
       ·exact szs d hds h
       ·exact h.asym q1
     have e2 : zac.gath d.f0 [] (s ++ [c]) = d.f1 := by
      rw [zgj, g2, zhz, if_neg (fun e => ltN_ne q1 e.symm)]
     refine add_step e1 (szs d hds) e2 hdo.2.1 (by omega) ?_
     rw [ziz d4, if_neg d3]
     have ha1 : (addC r c).2 = 0 := by simp only [addC] at ha0; rw [if_pos q1] at ha0; exact ha0
     have := ih (pre ++ [d]) r (l ++ [⟨d.f0, d.f1⟩]) d.f0 (by rw [if_pos q1]; omega) (by rw [hs]; simp) (fun x hx h => by
      rcases List.mem_append.1 hx with hx | hx
      ·exact h.asym (hpd x hx)
      ·rw [List.mem_singleton.1 hx] at h; exact ltN.irr _ h) hpw' (fun _ => ha1) (by simp; omega)
     have e3 : l ++ zhu last (d :: r) c = (l ++ [⟨d.f0, d.f1⟩]) ++ zhu d.f0 r c := by
      unfold zhu
      rw [if_pos hpend, if_pos q1]
      simp only [addC]
      rw [if_pos q1, List.filter_cons_of_pos d2, List.append_assoc]
      rfl
     rw [e3]; exact this
    ·by_cases q2 : d.f0 = c.f0
     ·have e1 : zac.pick last ⟨#[]⟩ (s ++ [c]) = d.f0 := by
       rw [zhi, p1]
       exact zfc last _ _ fun x hx h => by
        rw [List.mem_singleton] at hx
        rw [hx] at h
        rcases h.2 with h | h
        ·exact szs d hds h
        ·rw [q2] at h; exact ltN.irr _ h
      have e2 : zac.gath d.f0 [] (s ++ [c]) = d.f1 ++ c.f1 := by
       rw [zgj, g2, zhz, if_pos q2.symm]
      have hG : okL (d.f1 ++ c.f1) := by
       have := okL_app hdo.2.1 hc.2.1 (by have := hdo.2.2; have := hc.2.2; omega)
       simpa using this
      refine add_step e1 (szs d hds) e2 hG (by omega) ?_
      obtain ⟨G, hGe⟩ : ∃ G, G = (zgb (d.f1 ++ c.f1)).1 := ⟨_, rfl⟩
      rw [← hGe]
      have := ih (pre ++ [d]) r (if G.length = 0 then l else l ++ [⟨d.f0, G⟩]) d.f0 (by rw [if_neg q1]; omega) (by rw [hs]; simp) (fun x hx h => by
       rcases List.mem_append.1 hx with hx | hx
       ·exact h.asym (hpd x hx)
       ·rw [List.mem_singleton.1 hx] at h; exact ltN.irr _ h) hpw' (fun h => absurd h q1) (by split <;> (try rw [List.length_append, List.length_singleton]) <;> omega)
      have e3 : l ++ zhu last (d :: r) c = (if G.length = 0 then l else l ++ [⟨d.f0, G⟩]) ++ zhu d.f0 r c := by
       unfold zhu
       rw [if_pos hpend, if_neg q1]
       simp only [addC]
       rw [if_neg q1, if_pos q2, sum_two d4 c4, ← hGe]
       have hr : r.filter ne0 = r := List.filter_eq_self.2 fun x hx => (zdf (hgs x (by rw [hs]; simp [hx]))).2.1
       by_cases hG0 : G.length = 0
       ·rw [if_pos hG0, List.filter_cons_of_neg (by unfold ne0; simp [hG0]), hr]
       ·rw [if_neg hG0, List.filter_cons_of_pos (by unfold ne0; simp [hG0]), hr, List.append_assoc]
        rfl
      rw [e3]; exact this
     ·have q3 : ltN c.f0 d.f0 := by
       rcases ltN.tri d.f0 c.f0 with h | h | h
       ·exact absurd h q1
       ·exact absurd h q2
       ·exact h
      have e1 : zac.pick last ⟨#[]⟩ (s ++ [c]) = c.f0 := by
       rw [zhi, p1]
       simp only [zac.pick]
       exact if_pos ⟨hpend, .inr q3⟩
      have e2 : zac.gath c.f0 [] (s ++ [c]) = c.f1 := by
       rw [zgj, g1 c.f0 (fun x hx e => hpre x hx (by rw [e]; exact hpend)) (fun x hx e => by have := hpw' x hx; rw [e] at this; exact this.asym q3), if_neg q2, zhz, if_pos rfl]
       rfl
      refine add_step e1 szc e2 hc.2.1 (by omega) ?_
      rw [ziz c4, if_neg c3]
      have := ih pre (d :: r) (l ++ [⟨c.f0, c.f1⟩]) c.f0 (by rw [if_neg (ltN.irr _), List.length_cons]; omega) hs (fun x hx h => hpre x hx (hpend.tr h)) (fun x hx => by
       rcases List.mem_cons.1 hx with rfl | hx
       ·exact q3
       ·exact q3.tr (hpw' x hx)) (fun h => absurd h (ltN.irr _)) (by simp; omega)
      have e3 : l ++ zhu last (d :: r) c = (l ++ [⟨c.f0, c.f1⟩]) ++ zhu c.f0 (d :: r) c := by
       unfold zhu
       rw [if_pos hpend, if_neg (ltN.irr _)]
       simp only [addC]
       rw [if_neg q1, if_neg q2, sum_two rfl c4, List.nil_append, ziz c4]
       have hr : (d :: r).filter ne0 = d :: r := List.filter_eq_self.2 fun x hx => (zdf (hgs x (by rw [hs]; exact List.mem_append_right _ hx))).2.1
       rw [List.filter_cons_of_pos (by unfold ne0; simp [c3]), hr, List.append_assoc]
       rfl
      rw [e3]; exact this
  ·rw [if_neg hpend] at hn
   have eR : ∀ r, zhu last r c = r := fun r => by unfold zhu; rw [if_neg hpend]
   cases rest with
   | nil =>
    exact (by
     rw [eR, List.append_nil]
     apply Ev.succ
     simp only [zac.l0]
     have : zac.pick last ⟨#[]⟩ (s ++ [c]) = ⟨#[]⟩ := zfc last _ _ fun x hx h => by
      rcases List.mem_append.1 hx with hx | hx
      ·rw [hs, List.append_nil] at hx; exact hpre x hx h.1
      ·rw [List.mem_singleton] at hx; rw [hx] at h; exact hpend h.1
     rw [this]
     exact Ev.pos rfl (Ev.pure _))
   | cons d r =>
    have hd := hrest d List.mem_cons_self
    have hds : d ∈ s := by rw [hs]; simp
    obtain ⟨_, d2, d3, d4⟩ := zdf (hgs d hds)
    have hdo := hok d hds
    rw [List.length_cons] at hn
    have hpw' : ∀ x ∈ r, ltN d.f0 x.f0 := fun x hx => by
     have := hpw; rw [hs] at this
     exact (List.pairwise_cons.1 (List.pairwise_append.1 this).2.1).1 x hx
    have hpd : ∀ x ∈ pre, ltN x.f0 d.f0 := fun x hx => by
     have := hpw; rw [hs] at this
     exact (List.pairwise_append.1 this).2.2 x hx d List.mem_cons_self
    have e1 : zac.pick last ⟨#[]⟩ (s ++ [c]) = d.f0 := by
     rw [zhi, hs, zhi, zfc last pre _ (fun x hx h => hpre x hx h.1)]
     have : zac.pick last ⟨#[]⟩ (d :: r) = d.f0 := by
      simp only [zac.pick]
      rw [if_pos ⟨hd, .inl rfl⟩]
      exact zfc last r _ fun x hx h => by
       rcases h.2 with h | h
       ·exact szs d hds h
       ·exact h.asym (hpw' x hx)
     rw [this]
     exact zfc last _ _ fun x hx h => by
      rw [List.mem_singleton] at hx
      rw [hx] at h; exact hpend h.1
    have e2 : zac.gath d.f0 [] (s ++ [c]) = d.f1 := by
     have g2 : zac.gath d.f0 [] s = d.f1 := by
      rw [hs, zgj, zhs _ pre _ (fun x hx => ltN_ne (hpd x hx)), show d :: r = [d] ++ r from rfl, zgj, zhz, if_pos rfl, zhs _ r _ (fun x hx e => ltN_ne (hpw' x hx) e.symm)]
      rfl
     rw [zgj, g2, zhz, if_neg (fun e => hpend (by rw [e]; exact hd))]
    refine add_step e1 (szs d hds) e2 hdo.2.1 (by omega) ?_
    rw [ziz d4, if_neg d3]
    have hnp : ¬ ltN d.f0 c.f0 := fun h => hpend (hd.tr h)
    have := ih (pre ++ [d]) r (l ++ [⟨d.f0, d.f1⟩]) d.f0 (by rw [if_neg hnp]; omega) (by rw [hs]; simp) (fun x hx h => by
     rcases List.mem_append.1 hx with hx | hx
     ·exact h.asym (hpd x hx)
     ·rw [List.mem_singleton.1 hx] at h; exact ltN.irr _ h) hpw' (fun h => absurd h hnp) (by simp; omega)
    have e3 : l ++ zhu last (d :: r) c = (l ++ [⟨d.f0, d.f1⟩]) ++ zhu d.f0 r c := by
     rw [eR]
     unfold zhu
     rw [if_neg hnp, List.append_assoc]
     rfl
    rw [e3]; exact this
theorem add_ev {B M : Nat} (hBM : B + M ≤ 1000000) (s : List S56) (c : S56) (hl : s.length ≤ 1000) (hok : ∀ x ∈ s, x.f0.size ≤ 100 ∧ okL x.f1 ∧ x.f1.length ≤ B) (hgs : ∀ x ∈ s, zft x = true) (hpw : s.Pairwise (fun a b => ltN a.f0 b.f0)) (hc : c.f0.size ≤ 100 ∧ okL c.f1 ∧ c.f1.length ≤ M) (hgc : zft c = true) (h0 : (addC s c).2 = 0) :
  Ev (fun k => zac.f k s [c]) ((addC s c).1.filter ne0) := by
 have szs : ∀ x ∈ s, x.f0.size ≠ 0 := fun x hx => nm_size (by have := (hok x hx).1; omega) (zdf (hgs x hx)).1
 have szc : c.f0.size ≠ 0 := nm_size (by have := hc.1; omega) (zdf hgc).1
 have := add_go hBM s c hok hgs hpw hc hgc (s.length + 1) [] s [] ⟨#[]⟩ (by split <;> omega) rfl (fun x hx => by cases hx) (fun x hx => ltN_nil (szs x hx)) (fun _ => h0) (by simp; omega)
 unfold zhu at this
 rw [if_pos (ltN_nil szc)] at this
 exact this
theorem addC_good {c : S56} {s : List S56} (hg : ∀ x ∈ s, zft x = true) (hgc : zft c = true) : ∀ x ∈ (addC s c).1.filter ne0, zft x = true := fun x hx => by
 obtain ⟨h1, h2⟩ := List.mem_filter.1 hx
 rcases addC_mem c s x h1 with h | ⟨e, a, _, e2⟩
 ·exact hg x h
 ·unfold zft
  rw [e, (zdf hgc).1, Bool.true_and, e2, sumS_right, Bool.and_true]
  unfold ne0 at h2
  rw [e2] at h2
  cases hq : (sumS [a, c.f1]).1 with
  | nil => rw [hq] at h2; exact absurd h2 (by decide)
  | cons _ _ => rfl
theorem addC_filter (c : S56) : ∀ {out : List S56}, out.Pairwise (fun a b => ltN a.f0 b.f0) → (addC (out.filter ne0) c).2 = (addC out c).2 ∧ (addC (out.filter ne0) c).1.filter ne0 = (addC out c).1.filter ne0
 | [], _ => ⟨rfl, rfl⟩
 | d :: l, hp => by
  obtain ⟨p1, p2⟩ := List.pairwise_cons.1 hp
  obtain ⟨i1, i2⟩ := addC_filter c p2
  by_cases hd : ne0 d = true
  ·rw [List.filter_cons_of_pos hd]
   simp only [addC]
   by_cases q1 : ltN d.f0 c.f0
   ·rw [if_pos q1, if_pos q1]
    exact ⟨i1, by rw [List.filter_cons_of_pos hd, List.filter_cons_of_pos hd, i2]⟩
   ·rw [if_neg q1, if_neg q1]
    by_cases q2 : d.f0 = c.f0
    ·rw [if_pos q2, if_pos q2]
     refine ⟨rfl, ?_⟩
     show ([_] ++ l.filter ne0).filter ne0 = ([_] ++ l).filter ne0
     rw [List.filter_append, List.filter_append, List.filter_filter]
     simp
    ·rw [if_neg q2, if_neg q2]
     refine ⟨rfl, ?_⟩
     show ([_, d] ++ l.filter ne0).filter ne0 = ([_, d] ++ l).filter ne0
     rw [List.filter_append, List.filter_append, List.filter_filter]
     simp
  ·rw [List.filter_cons_of_neg hd]
   have hd1 : d.f1 = [] := by
    unfold ne0 at hd
    simpa using hd
   by_cases q1 : ltN d.f0 c.f0
   ·simp only [addC]
    rw [if_pos q1]
    exact ⟨i1, by rw [List.filter_cons_of_neg hd, i2]⟩
   ·have hlt : ∀ x ∈ l.filter ne0, ¬ ltN x.f0 c.f0 ∧ x.f0 ≠ c.f0 := fun x hx => by
     have h1 := p1 x (List.mem_filter.1 hx).1
     rcases ltN.tri d.f0 c.f0 with h | h | h
     ·exact absurd h q1
     ·rw [h] at h1; exact ⟨h1.asym, fun e => ltN.irr c.f0 (by rw [e] at h1; exact h1)⟩
     ·exact ⟨fun h' => ltN.irr d.f0 ((h1.tr h').tr h), fun e => ltN.irr d.f0 (by rw [e] at h1; exact h1.tr h)⟩
    have e : addC (l.filter ne0) c = (⟨c.f0, (sumS [[], c.f1]).1⟩ :: l.filter ne0, (sumS [[], c.f1]).2) := by
     cases hf : l.filter ne0 with
     | nil => rfl
     | cons x m =>
      have hx := hlt x (by rw [hf]; exact List.mem_cons_self)
      simp only [addC]
      rw [if_neg hx.1, if_neg hx.2]
    rw [e]
    simp only [addC]
    rw [if_neg q1]
    by_cases q2 : d.f0 = c.f0
    ·rw [if_pos q2, hd1]
     refine ⟨rfl, ?_⟩
     show ([_] ++ l.filter ne0).filter ne0 = ([_] ++ l).filter ne0
     rw [List.filter_append, List.filter_append, List.filter_filter, q2]
     simp
    ·rw [if_neg q2]
     refine ⟨rfl, ?_⟩
     show ([_] ++ l.filter ne0).filter ne0 = ([_] ++ (d :: l)).filter ne0
     rw [List.filter_append, List.filter_append, List.filter_filter, List.filter_cons_of_neg hd]
     simp
def foldR : List S56 → List S56 → List S56 × Int
 | out, [] => (out, 0)
 | out, c :: r => if (addC out c).2 = 0 then foldR ((addC out c).1.filter ne0) r else ([], (addC out c).2)
theorem foldR_eq : ∀ (r out : List S56), out.Pairwise (fun a b => ltN a.f0 b.f0) → foldR (out.filter ne0) r = ((zik out r).1.filter ne0, (zik out r).2)
 | [], out, _ => rfl
 | c :: r, out, hp => by
  obtain ⟨h1, h2⟩ := addC_filter c hp
  simp only [foldR, zik]
  rw [h1, h2]
  by_cases h0 : (addC out c).2 = 0
  ·rw [if_pos h0, if_pos h0]; exact foldR_eq r _ (addC_pw c hp)
  ·rw [if_neg h0, if_neg h0]; rfl
theorem look_skip (n : ByteArray) : ∀ (l : List S56) (b : List S81), (∀ x ∈ l, x.f0 ≠ n) → zak.look n b l = b
 | [], b, _ => rfl
 | c :: l, b, h => by
  simp only [zak.look]
  rw [if_neg (h c List.mem_cons_self)]
  exact look_skip n l b fun x hx => h x (List.mem_cons_of_mem _ hx)
theorem look_add (c : S56) (hgc : zft c = true) : ∀ {l : List S56}, (∀ x ∈ l, zft x = true) → l.Pairwise (fun a b => ltN a.f0 b.f0) → (addC l c).2 = (zgb (zak.look c.f0 [] l ++ c.f1)).2 ∧ (zak.look c.f0 [] l = [] ∨ ∃ x ∈ l, zak.look c.f0 [] l = x.f1)
 | [], _, _ => by
  simp only [zak.look, addC]
  rw [sum_two rfl (zdf hgc).2.2.2]
  exact ⟨rfl, .inl trivial⟩
 | d :: l, hg, hp => by
  obtain ⟨p1, p2⟩ := List.pairwise_cons.1 hp
  obtain ⟨i1, i2⟩ := look_add c hgc (fun x hx => hg x (List.mem_cons_of_mem _ hx)) p2
  simp only [zak.look, addC]
  by_cases q1 : ltN d.f0 c.f0
  ·rw [if_pos q1, if_neg (ltN_ne q1)]
   exact ⟨i1, i2.imp id fun ⟨x, hx, e⟩ => ⟨x, List.mem_cons_of_mem _ hx, e⟩⟩
  ·rw [if_neg q1]
   have hsk : ∀ b, zak.look c.f0 b l = b := fun b => look_skip _ l b fun x hx e => by
    have := p1 x hx
    rw [e] at this; exact q1 this
   rw [hsk]
   by_cases q2 : d.f0 = c.f0
   ·rw [if_pos q2, if_pos q2, sum_two (zdf (hg d List.mem_cons_self)).2.2.2 (zdf hgc).2.2.2]
    exact ⟨rfl, .inr ⟨d, List.mem_cons_self, rfl⟩⟩
   ·rw [if_neg q2, if_neg q2, sum_two rfl (zdf hgc).2.2.2]
    exact ⟨rfl, .inl rfl⟩
noncomputable def finR (r : List S56 × Int) : List S56 × Int := if r.2 = 0 then (if zed r.1 = true then (r.1, 0) else ([], 1)) else ([], r.2)
theorem refl_ev (M : Nat) : ∀ (r out : List S56) (N B : Nat), okA N B out → (∀ x ∈ out, zft x = true) → out.Pairwise (fun a b => ltN a.f0 b.f0) → (∀ c ∈ r, c.f0.size ≤ 100 ∧ okL c.f1 ∧ c.f1.length ≤ M) → (∀ c ∈ r, zft c = true) → N + r.length ≤ 1000 → B + M * r.length ≤ 1000000 →
  Ev (fun k => zak.l k out r) (finR (foldR out r))
 | [], out, N, B, ho, hgo, hp, hr, hgr, hN, hB => by
  simp only [zak.l]
  refine Ev.bind (refstate_ev _ (ho.G (by omega))) ?_
  show Ev _ (finR (out, 0))
  unfold finR
  rw [if_pos rfl]
  show Ev _ (if zed out = true then (out, (0 : Int)) else ([], 1))
  by_cases hs : zed out = true
  ·simp only [if_pos hs]; exact Ev.pure _
  ·simp only [if_neg hs]; exact Ev.pure _
 | c :: r, out, N, B, ho, hgo, hp, hr, hgr, hN, hB => by
  have hl := ho.1
  have hc := hr c List.mem_cons_self
  have hgc := hgr c List.mem_cons_self
  rw [List.length_cons] at hN hB
  have hMr : M * (r.length + 1) = M * r.length + M := Nat.mul_succ _ _
  obtain ⟨l1, l2⟩ := look_add c hgc hgo hp
  have hlo : okL (zak.look c.f0 [] out) ∧ (zak.look c.f0 [] out).length ≤ B := by
   rcases l2 with e | ⟨x, hx, e⟩
   ·rw [e]; exact ⟨okL_nil, Nat.zero_le _⟩
   ·rw [e]; exact (ho.2 x hx).2
  have hG : okL (zak.look c.f0 [] out ++ c.f1) := by
   have := okL_app hlo.1 hc.2.1 (by have := hlo.2; have := hc.2.2; omega)
   simpa using this
  simp only [zak.l, foldR]
  refine Ev.pos ⟨by have := hlo.2; omega, by have := hc.2.2; omega, by omega⟩ (Ev.bind (refS_ev _ hG) ?_)
  rw [← l1]
  by_cases h0 : (addC out c).2 = 0
  ·rw [if_pos h0]
   refine Ev.pos h0 (Ev.bind (add_ev (B := B) (M := M) (by omega) out c (by omega) ho.2 hgo hp hc hgc h0) ?_)
   have hadd := addC_ok ho hc (by omega)
   exact refl_ev M r _ (N + 1) (B + M) ⟨Nat.le_trans (List.length_filter_le _ _) hadd.1, fun x hx => hadd.2 x (List.mem_filter.1 hx).1⟩ (addC_good hgo hgc) ((addC_pw c hp).filter _) (fun d hd => hr d (List.mem_cons_of_mem _ hd)) (fun d hd => hgr d (List.mem_cons_of_mem _ hd)) (by omega) (by omega)
  ·rw [if_neg h0]
   refine Ev.neg h0 (Ev.of ?_)
   unfold finR
   rw [if_neg h0]
theorem refapply_ev {B M : Nat} (old more : List S56) (ho : okG B old) (hm : okG M more) (h1 : old.length ≤ 500) (h2 : more.length ≤ 500) (hB : B + M * 16 ≤ 1000000) : Ev (fun k => zak.f k old more) (zfo old more) := by
 unfold zak.f zfo
 refine Ev.bind (refstate_ev _ ho) ?_
 by_cases hs : zed old = true
 ·rw [if_pos hs]
  refine Ev.pos hs (Ev.bind (refitem_ev _ hm) ?_)
  by_cases hi : zfj more = true
  ·rw [if_pos hi]
   refine Ev.pos hi ?_
   have hi' := hi
   unfold zfj at hi'
   rw [Bool.and_eq_true, decide_eq_true_eq, List.all_eq_true] at hi'
   obtain ⟨hp, hg⟩ := state_parts hs
   have := refl_ev M more old 500 B ⟨h1, ho.2⟩ hg hp hm.2 hi'.2 (by omega) (by have := Nat.mul_le_mul_left M hi'.1; omega)
   have e0 : old.filter ne0 = old := List.filter_eq_self.2 fun x hx => (zdf (hg x hx)).2.1
   have e : finR (foldR old more) = finA (zik old more) := by
    have := foldR_eq more old hp
    rw [e0] at this
    rw [this]
    unfold finR finA
    rfl
   rw [e] at this
   exact this
  ·rw [if_neg hi]; exact Ev.neg hi (Ev.pure _)
 ·rw [if_neg hs]; exact Ev.neg hs (Ev.pure _)
end Go.Proofs.YtchpbnabbjdfgaaDoor.Pure
