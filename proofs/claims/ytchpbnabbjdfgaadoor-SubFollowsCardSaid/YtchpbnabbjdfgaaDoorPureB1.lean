-- HALVED
import Derived.Test.YtchpbnabbjdfgaaDoorPure
import Derived.Test.YtchpbnabbjdfgaaDoorPx0
import Derived.Test.YtchpbnabbjdfgaaDoorPx1
import Derived.Test.YtchpbnabbjdfgaaDoorPx19
import Derived.Test.YtchpbnabbjdfgaaDoorPx22
import Derived.Test.YtchpbnabbjdfgaaDoorPx23
import Derived.Test.YtchpbnabbjdfgaaDoorPx34
import Derived.Test.YtchpbnabbjdfgaaDoorPx56
namespace Go.Proofs.YtchpbnabbjdfgaaDoor.Pure
open Go.ChangeShapes Go.WideShapes Go.ChangeAt Go.RowKit Go.Proofs.YtchpbnabbjdfgaaDoorW.PrintWords Go.Proofs.YtchpbnabbjdfgaaDoorW.PrintLast Go.Proofs.YtchpbnabbjdfgaaDoor.P Go.Proofs.YtchpbnabbjdfgaaDoor.Open
set_option linter.unusedVariables false
set_option linter.unusedSimpArgs false
def zfu : List S105 → List S105 → Int
 | [], [] => 0
 | [], _ :: _ => -1
 | _ :: _, [] => 1
 | a :: as_, b :: bs => if cmpS a b = 0 then zfu as_ bs else cmpS a b
theorem rows_go (l m : List S105) (hl : (l.length : Int) ≤ 1000) (hm : (m.length : Int) ≤ 1000) : ∀ (x p y q : List S105), l = p ++ x → m = q ++ y → p.length = q.length →
  Ev (fun k => zbe.l0 k l m (mn (l.length : Int) (m.length : Int)) (p.length : Int)) (zfu x y)
 | x, p, y, q, el, em, hpq => by
  have ll : l.length = p.length + x.length := by rw [el]; simp
  have lm : m.length = q.length + y.length := by rw [em]; simp
  have stop : (x = [] ∨ y = []) → Ev (fun k => zbe.l0 k l m (mn (l.length : Int) (m.length : Int)) (p.length : Int)) (cmpI (l.length : Int) (m.length : Int)) := by
   intro h
   apply Ev.succ
   simp only [zbe.l0]
   apply Ev.neg (by
    unfold mn
    rcases h with rfl | rfl
    ·simp at ll; split <;> omega
    ·simp at lm; split <;> omega)
   rw [cmpI_eq]
   exact Ev.pure _
  match x, y with
  | [], [] =>
   have := stop (.inl rfl)
   have e : cmpI (l.length : Int) (m.length : Int) = 0 := by
    simp at ll lm
    unfold cmpI; rw [if_neg (by omega), if_neg (by omega)]
   rw [e] at this
   exact this
  | [], b :: bs =>
   have := stop (.inl rfl)
   have e : cmpI (l.length : Int) (m.length : Int) = -1 := by
    simp at ll lm
    unfold cmpI; rw [if_pos (by omega)]
   rw [e] at this
   exact this
  | a :: as_, [] =>
   have := stop (.inr rfl)
   have e : cmpI (l.length : Int) (m.length : Int) = 1 := by
    simp at ll lm
    unfold cmpI; rw [if_neg (by omega), if_pos (by omega)]
   rw [e] at this
   exact this
  | a :: as_, b :: bs =>
   simp at ll lm
   have ra : zbj l (p.length : Int) = a := by rw [el]; exact rdv p a as_
   have rb : zbj m (p.length : Int) = b := by rw [em, hpq]; exact rdv q b bs
   apply Ev.succ
   simp only [zbe.l0]
   apply Ev.pos (by unfold mn; split <;> omega)
   apply Ev.pos (by omega)
   apply Ev.pos (by omega)
   apply Ev.pos (by omega)
   rw [ra, rb]
   refine Ev.bind (cmp_ev a b) ?_
   simp only [zfu]
   by_cases h : cmpS a b = 0
   ·rw [if_pos h]
    apply Ev.pos h
    rw [show wrap64 ((p.length : Int) + 1) = ((p ++ [a]).length : Int) by rw [w64 (by omega) (by omega)]; simp]
    exact rows_go l m hl hm as_ (p ++ [a]) bs (q ++ [b]) (by rw [el]; simp) (by rw [em]; simp) (by simp [hpq])
   ·rw [if_neg h]
    exact Ev.neg h (Ev.pure _)
theorem rows_ev (l m : List S105) (hl : (l.length : Int) ≤ 1000) (hm : (m.length : Int) ≤ 1000) : Ev (fun k => zbe.f k l m) (zfu l m) :=
 rows_go l m hl hm l [] m [] rfl rfl rfl
theorem rowsS_anti : ∀ l m : List S105, zfu m l = - zfu l m
 | [], [] => rfl
 | [], _ :: _ => rfl
 | _ :: _, [] => rfl
 | a :: as_, b :: bs => by
  simp only [zfu]
  rw [cmpS_anti a b]
  by_cases h : cmpS a b = 0
  ·rw [if_pos h, if_pos (by omega)]; exact rowsS_anti as_ bs
  ·rw [if_neg h, if_neg (by omega)]
theorem ds {α : Type} {l : List α} {i : Nat} {c : α} {cs : List α} (h : l.drop i = c :: cs) : (i : Int) < (l.length : Int) ∧ (∀ d, l.getD ((i : Int)).toNat d = c) ∧ l.drop (i + 1) = cs ∧ i < l.length ∧ l[i]? = some c := by
 have hi : i < l.length := by
  rcases Nat.lt_or_ge i l.length with h1 | h1
  ·exact h1
  ·rw [List.drop_of_length_le h1] at h; cases h
 rw [List.drop_eq_getElem_cons hi] at h
 injection h with h1 h2
 refine ⟨by omega, fun d => ?_, h2, hi, by rw [List.getElem?_eq_getElem hi, h1]⟩
 rw [Int.toNat_natCast, List.getD_eq_getElem?_getD, List.getElem?_eq_getElem hi, h1]
 rfl
theorem dn {α : Type} {l : List α} {i : Nat} (h : l.drop i = []) : ¬ (i : Int) < (l.length : Int) := by
 have := List.drop_eq_nil_iff.1 h
 omega
theorem dl {α : Type} {l : List α} {i : Nat} {t : List α} (h : l.drop i = t) : t.length = l.length - i := by rw [← h, List.length_drop]
theorem nn (i : Nat) : (0 : Int) ≤ (i : Int) := Int.natCast_nonneg i
theorem ws {i : Nat} (h : i < 4611686018427387904) : wrap64 ((i : Int) + 1) = ((i + 1 : Nat) : Int) := by rw [w64 (by omega) (by omega)]; omega
theorem cmpS_eq0 {a b : S105} : cmpS a b = 0 ↔ a = b := by
 constructor
 ·intro h
  rcases cmpS_cases a b with ⟨e, _⟩ | ⟨e, _⟩ | ⟨_, e⟩
  ·omega
  ·omega
  ·exact e
 ·rintro rfl
  rcases cmpS_cases a a with ⟨_, e⟩ | ⟨_, e⟩ | ⟨e, _⟩
  ·exact absurd e (Lt.irrefl a)
  ·exact absurd e (Lt.irrefl a)
  ·exact e
theorem cmpS_lt {a b : S105} : cmpS a b < 0 ↔ Lt a b := by
 rcases cmpS_cases a b with ⟨e, h⟩ | ⟨e, h⟩ | ⟨e, h⟩
 ·exact ⟨fun _ => h, fun _ => by omega⟩
 ·exact ⟨fun _ => by omega, fun h' => absurd h' (h.asym)⟩
 ·subst h; exact ⟨fun _ => by omega, fun h' => absurd h' (Lt.irrefl a)⟩
theorem zhz : ∀ {l m : List S105}, zfu l m = 0 ↔ l = m
 | [], [] => by simp [zfu]
 | [], _ :: _ => by simp [zfu]
 | _ :: _, [] => by simp [zfu]
 | a :: l, b :: m => by
  simp only [zfu]
  by_cases h : cmpS a b = 0
  ·rw [if_pos h, zhz, cmpS_eq0.1 h]; simp
  ·rw [if_neg h]
   exact ⟨fun e => absurd e h, fun e => absurd (cmpS_eq0.2 (by injection e)) h⟩
theorem rowsS_tr : ∀ {l m n : List S105}, zfu l m < 0 → zfu m n < 0 → zfu l n < 0
 | [], [], _, h, _ => by simp [zfu] at h
 | _ :: _, [], _, h, _ => by simp [zfu] at h
 | [], _ :: _, [], _, h => by simp [zfu] at h
 | _ :: _, _ :: _, [], _, h => by simp [zfu] at h
 | [], _ :: _, _ :: _, _, _ => by simp [zfu]
 | a :: l, b :: m, c :: n, h1, h2 => by
  simp only [zfu] at h1 h2 ⊢
  by_cases e1 : cmpS a b = 0
  ·rw [if_pos e1] at h1
   rw [cmpS_eq0.1 e1]
   by_cases e2 : cmpS b c = 0
   ·rw [if_pos e2] at h2 ⊢; exact rowsS_tr h1 h2
   ·rw [if_neg e2] at h2 ⊢; exact h2
  ·rw [if_neg e1] at h1
   by_cases e2 : cmpS b c = 0
   ·rw [← cmpS_eq0.1 e2, if_neg e1]; exact h1
   ·rw [if_neg e2] at h2
    have h3 := (cmpS_lt.2 ((cmpS_lt.1 h1).trans (cmpS_lt.1 h2)))
    rw [if_neg (by omega)]; exact h3
def LtR (a b : List S105) : Prop := zfu a b < 0
theorem LtR.tr {a b c : List S105} (h1 : LtR a b) (h2 : LtR b c) : LtR a c := rowsS_tr h1 h2
theorem LtR.irr (a : List S105) : ¬ LtR a a := fun h => by have := zhz.2 (rfl : a = a); unfold LtR at h; omega
theorem LtR.asym {a b : List S105} (h : LtR a b) : ¬ LtR b a := fun h' => LtR.irr a (h.tr h')
theorem LtR.tri (a b : List S105) : LtR a b ∨ a = b ∨ LtR b a := by
 unfold LtR
 have := rowsS_anti a b
 by_cases h : zfu a b = 0
 ·exact .inr (.inl (zhz.1 h))
 ·omega
instance decLtR (a b : List S105) : Decidable (LtR a b) := by unfold LtR; infer_instance
theorem sv_vS (a b : S105) : sv_v a b = cmpS a b := rfl
theorem zgw : ∀ (a b : List S105), zgy a b = zfu a b
 | [], [] => rfl
 | [], _ :: _ => rfl
 | _ :: _, [] => rfl
 | a :: l, b :: m => by simp only [zgy, zfu, sv_vS]; rw [zgw l m]; rfl
def fit (n : Int) : Bool := decide (-1099511627776 ≤ n) && decide (n ≤ 1099511627776)
def rowR (r : List S105) : Bool := r.all vR
def zik (c : S81) : Bool := fit c.f1 && rowR c.f0
def rise : List S81 → Bool
 | [] => true
 | a :: l => (match l with | [] => true | b :: _ => decide (LtR a.f0 b.f0)) && rise l
def bagR (b : List S81) : Bool := b.all (fun c => decide (c.f1 ≠ 0) && zik c) && rise b
def cnt : List S81 → List S105 → Int
 | [], _ => 0
 | c :: l, r => (if c.f0 = r then c.f1 else 0) + cnt l r
def total : List S81 → Int
 | [] => 0
 | c :: l => c.f1 + total l
def insR (r : List S105) : List (List S105) → List (List S105)
 | [] => [r]
 | d :: D => if LtR r d then r :: d :: D else if r = d then d :: D else d :: insR r D
def dis (l : List S81) : List (List S105) := l.foldr (fun c D => insR c.f0 D) []
def zgk (g : List S105 → Int) : List (List S105) → Option (List S81)
 | [] => some []
 | r :: D => if fit (g r) = true then (zgk g D).map (fun o => if g r = 0 then o else ⟨r, g r⟩ :: o) else none
def fin (o : Option (List S81)) : List S81 × Int := match o with | some o => (o, 0) | none => ([], 14)
def zhd (l : List S81) : List S81 × Int := if l.all zik = true then fin (zgk (cnt l) (dis l)) else ([], 1)
def Small (l : List S81) : Prop := l.length ≤ 60 ∧ ∀ c ∈ l, c.f0.length ≤ 40
def okV (v : S105) : Prop := v.f2.size ≤ 9223372036854775807
def okR (r : List S105) : Prop := r.length ≤ 1000 ∧ ∀ v ∈ r, okV v
def okC (c : S81) : Prop := okR c.f0 ∧ -9223372036854775808 ≤ c.f1 ∧ c.f1 ≤ 9223372036854775807
def okL (l : List S81) : Prop := l.length ≤ 1000000 ∧ ∀ c ∈ l, okC c
theorem fits_eq (n : Int) : zdv.f n = some (fit n) := by
 unfold zdv.f fit
 by_cases h : n ≥ -1099511627776
 ·rw [if_pos h, decide_eq_true (show -1099511627776 ≤ n from h), Bool.true_and]
 ·rw [if_neg h, decide_eq_false (show ¬ -1099511627776 ≤ n from h), Bool.false_and]
theorem wrong_go (l : List S105) (hl : l.length ≤ 1000) : ∀ (t : List S105) (i : Nat), l.drop i = t → Ev (fun k => (zaq.l0 k l (l.length : Int) (i : Int)).bind fun n => some (decide (n ≥ 0))) (!t.all vR)
 | [], i, h => by
  apply Ev.succ
  simp only [zaq.l0]
  exact Ev.bind (Ev.neg (dn h) (Ev.pure _)) (Ev.pure _)
 | c :: t, i, h => by
  obtain ⟨h1, h2, h3, h4, _⟩ := ds h
  apply Ev.succ
  simp only [zaq.l0]
  have e : zbj l (i : Int) = c := h2 _
  have e1 : zgp.f c.f0 c.f1 c.f2 = some (!vR c) := by unfold zgp.f; rw [right_eq]; rfl
  rw [e, e1, ws (by omega)]
  by_cases hv : vR c = true
  ·have := wrong_go l hl t (i + 1) h3
   rw [List.all_cons, hv, Bool.true_and]
   refine this.congr (fun k => ?_)
   rw [if_pos h1, if_pos (nn i), if_pos h1]
   rfl
  ·rw [List.all_cons, Bool.eq_false_iff.2 hv, Bool.false_and]
   refine (Ev.pure true).congr (fun k => ?_)
   rw [if_pos h1, if_pos (nn i), if_pos h1]
   simp
theorem wrongs_ev (l : List S105) (hl : l.length ≤ 1000) : Ev (fun k => zba.f k l) (!rowR l) := wrong_go l hl l 0 rfl
theorem rows_ev' (a b : List S105) (ha : okR a) (hb : okR b) : Ev (fun k => zbe.f k a b) (zfu a b) := rows_ev a b (by have := ha.1; omega) (by have := hb.1; omega)
theorem right_go (l : List S81) (hl : okL l) : ∀ (t : List S81) (i : Nat), l.drop i = t →
  Ev (fun k => zbf.l0 k l l (l.length : Int) (i : Int)) (t.all (fun c => decide (c.f1 ≠ 0) && zik c) && rise ((l.take i).drop (i - 1) ++ t))
 | [], i, h => by
  apply Ev.succ
  simp only [zbf.l0]
  have : rise ((l.take i).drop (i - 1) ++ []) = true := by
   rw [List.append_nil]
   have hlen : ((l.take i).drop (i - 1)).length ≤ 1 := by rw [List.length_drop, List.length_take]; omega
   match (l.take i).drop (i - 1), hlen with
   | [], _ => rfl
   | [_], _ => rfl
   | _ :: _ :: _, hh => simp at hh
  rw [this]
  exact Ev.neg (dn h) (Ev.pure _)
 | c :: t, i, h => by
  obtain ⟨h1, h2, h3, h4, h5⟩ := ds h
  have hm : c ∈ l := List.mem_of_getElem? h5
  have hc := hl.2 c hm
  have hll := hl.1
  have e : zax l (i : Int) = c := h2 _
  apply Ev.succ
  simp only [zbf.l0]
  rw [e, ws (by omega), fits_eq]
  apply Ev.pos h1
  apply Ev.pos (nn i)
  apply Ev.pos h1
  rw [List.all_cons]
  by_cases hz : c.f1 = 0
  ·rw [decide_eq_false (by simp [hz]), Bool.false_and, Bool.false_and, Bool.false_and]
   exact Ev.pos hz (Ev.pure _)
  ·apply Ev.neg hz
   rw [decide_eq_true hz, Bool.true_and]
   refine Ev.bind (Ev.of rfl) ?_
   by_cases hf : fit c.f1 = true
   ·apply Ev.pos hf
    unfold zik
    rw [hf, Bool.true_and]
    refine Ev.bind (wrongs_ev c.f0 hc.1.1) ?_
    by_cases hr : rowR c.f0 = true
    ·apply Ev.neg (by simp [hr])
     rw [hr, Bool.true_and]
     have ih := right_go l hl t (i + 1) h3
     have htk : (l.take (i + 1)).drop (i + 1 - 1) = [c] := by
      rw [Nat.add_sub_cancel, List.take_succ_eq_append_getElem h4, List.drop_left' (by rw [List.length_take]; omega)]
      have := List.getElem?_eq_getElem h4
      rw [h5] at this
      rw [Option.some.inj this]
     rw [htk] at ih
     by_cases hi0 : i = 0
     ·subst hi0
      apply Ev.neg (by omega)
      exact ih
     ·apply Ev.pos (by omega)
      obtain ⟨p, hp⟩ : ∃ p, l[i - 1]? = some p := ⟨l[i - 1]'(by omega), List.getElem?_eq_getElem _⟩
      have hpd : (l.take i).drop (i - 1) = [p] := by
       obtain ⟨j, rfl⟩ : ∃ j, i = j + 1 := ⟨i - 1, by omega⟩
       rw [Nat.add_sub_cancel] at hp ⊢
       rw [List.take_succ_eq_append_getElem (by omega), List.drop_left' (by rw [List.length_take]; omega)]
       rw [List.getElem?_eq_getElem (by omega)] at hp
       rw [Option.some.inj hp]
      have hw : wrap64 ((i : Int) - 1) = ((i - 1 : Nat) : Int) := by rw [w64 (by omega) (by omega)]; omega
      have ep : zax l ((i - 1 : Nat) : Int) = p := by
       unfold zax
       rw [Int.toNat_natCast, List.getD_eq_getElem?_getD, hp]
       rfl
      have hpo := hl.2 p (List.mem_of_getElem? hp)
      rw [hw, ep, hpd]
      apply Ev.pos (nn _)
      apply Ev.pos (by omega)
      refine Ev.bind (rows_ev' p.f0 c.f0 hpo.1 hc.1) ?_
      by_cases hlt : LtR p.f0 c.f0
      ·apply Ev.neg (by unfold LtR at hlt; omega)
       have : rise ([p] ++ c :: t) = rise ([c] ++ t) := by
        show (decide (LtR p.f0 c.f0) && rise (c :: t)) = rise (c :: t)
        rw [decide_eq_true hlt, Bool.true_and]
       rw [this]
       exact ih
      ·have : rise ([p] ++ c :: t) = false := by
        show (decide (LtR p.f0 c.f0) && rise (c :: t)) = false
        rw [decide_eq_false hlt, Bool.false_and]
       rw [this, Bool.and_false]
       exact Ev.pos (by unfold LtR at hlt; omega) (Ev.pure _)
    ·apply Ev.pos (by simp [hr])
     rw [Bool.eq_false_iff.2 hr, Bool.false_and, Bool.false_and]
     exact Ev.pure _
   ·apply Ev.neg hf
    unfold zik
    rw [Bool.eq_false_iff.2 hf, Bool.false_and, Bool.false_and, Bool.false_and]
    exact Ev.pure _
theorem right_ev (l : List S81) (hl : okL l) : Ev (fun k => zbf.f k l) (bagR l) := right_go l hl l 0 rfl
theorem neg_go (l : List S81) (hl : l.length ≤ 1000000) : ∀ (t : List S81) (i : Nat), l.drop i = t → Ev (fun k => (zak.l0 k l (l.length : Int) (i : Int)).bind fun n => some (decide (n ≥ 0))) (t.any (fun c => decide (c.f1 < 0)))
 | [], i, h => by
  apply Ev.succ
  simp only [zak.l0]
  exact Ev.bind (Ev.neg (dn h) (Ev.pure _)) (Ev.pure _)
 | c :: t, i, h => by
  obtain ⟨h1, h2, h3, h4, _⟩ := ds h
  apply Ev.succ
  simp only [zak.l0]
  have e : zax l (i : Int) = c := h2 _
  have e1 : zft.f c.f0 c.f1 = some (decide (c.f1 < 0)) := rfl
  rw [e, e1, ws (by omega), List.any_cons]
  by_cases hv : c.f1 < 0
  ·rw [decide_eq_true hv, Bool.true_or]
   refine (Ev.pure true).congr (fun k => ?_)
   rw [if_pos h1, if_pos (nn i), if_pos h1]
   simp
  ·rw [decide_eq_false hv, Bool.false_or]
   refine (neg_go l hl t (i + 1) h3).congr (fun k => ?_)
   rw [if_pos h1, if_pos (nn i), if_pos h1]
   rfl
def wholeR (b : List S81) : Bool := bagR b && !b.any (fun c => decide (c.f1 < 0))
theorem whole_ev (l : List S81) (hl : okL l) : Ev (fun k => zcz.f k l) (wholeR l) := by
 unfold zcz.f wholeR
 refine Ev.bind (right_ev l hl) ?_
 by_cases h : bagR l = true
 ·rw [h, Bool.true_and]
  exact Ev.pos rfl (Ev.bind (neg_go l hl.1 l 0 rfl) (Ev.pure _))
 ·rw [Bool.eq_false_iff.2 h, Bool.false_and]
  exact Ev.neg (by decide) (Ev.pure _)
theorem fit_rng {n : Int} (h : fit n = true) : -1099511627776 ≤ n ∧ n ≤ 1099511627776 := by
 unfold fit at h
 simp only [Bool.and_eq_true, decide_eq_true_eq] at h
 exact h
theorem bagR_all {l : List S81} (h : bagR l = true) : (∀ c ∈ l, fit c.f1 = true ∧ c.f1 ≠ 0 ∧ rowR c.f0 = true) ∧ rise l = true := by
 unfold bagR at h
 rw [Bool.and_eq_true, List.all_eq_true] at h
 refine ⟨fun c hc => ?_, h.2⟩
 have := h.1 c hc
 simp only [zik, Bool.and_eq_true, decide_eq_true_eq] at this
 exact ⟨this.2.1, this.1, this.2.2⟩
theorem rise_lt : ∀ (l : List S81), rise l = true → l.Pairwise (fun a b => LtR a.f0 b.f0)
 | [], _ => .nil
 | [a], _ => by simp
 | a :: b :: l, h => by
  have h' : (decide (LtR a.f0 b.f0) && rise (b :: l)) = true := h
  rw [Bool.and_eq_true, decide_eq_true_eq] at h'
  have ih := rise_lt (b :: l) h'.2
  refine List.pairwise_cons.2 ⟨fun c hc => ?_, ih⟩
  rcases List.mem_cons.1 hc with rfl | hc
  ·exact h'.1
  ·exact h'.1.tr ((List.pairwise_cons.1 ih).1 c hc)
theorem lt_rise : ∀ (l : List S81), l.Pairwise (fun a b => LtR a.f0 b.f0) → rise l = true
 | [], _ => rfl
 | [a], _ => rfl
 | a :: b :: l, h => by
  have h' := List.pairwise_cons.1 h
  show (decide (LtR a.f0 b.f0) && rise (b :: l)) = true
  rw [Bool.and_eq_true, decide_eq_true_eq]
  exact ⟨h'.1 b List.mem_cons_self, lt_rise (b :: l) h'.2⟩
theorem zih {r : List S105} : ∀ {l : List S81}, (∀ c ∈ l, c.f0 ≠ r) → cnt l r = 0
 | [], _ => rfl
 | c :: l, h => by simp only [cnt]; rw [if_neg (h c List.mem_cons_self), zih (fun x hx => h x (List.mem_cons_of_mem _ hx))]; rfl
theorem cnt_at {r : List S105} : ∀ {l : List S81} {i : Nat} {c : S81}, l.Pairwise (fun a b => LtR a.f0 b.f0) → l[i]? = some c → c.f0 = r → cnt l r = c.f1
 | [], _, _, _, h, _ => by simp at h
 | d :: l, 0, c, hp, h, hr => by
  simp only [List.getElem?_cons_zero, Option.some.injEq] at h
  subst h
  simp only [cnt]
  rw [if_pos hr, zih, Int.add_zero]
  intro x hx e
  have := (List.pairwise_cons.1 hp).1 x hx
  rw [hr, e] at this
  exact LtR.irr _ this
 | d :: l, i + 1, c, hp, h, hr => by
  simp only [List.getElem?_cons_succ] at h
  simp only [cnt]
  have hm := List.mem_of_getElem? h
  rw [if_neg, cnt_at (List.pairwise_cons.1 hp).2 h hr, Int.zero_add]
  intro e
  have := (List.pairwise_cons.1 hp).1 c hm
  rw [hr, e] at this
  exact LtR.irr _ this
theorem half {a b : Int} (ha : 0 ≤ a) (hb : 0 ≤ b) (h1 : a ≤ 1000000) (h2 : b ≤ 1000000) : wrap64 ((IntKind.u64.wrap (wrap64 (a + b))) / 2) = (a + b) / 2 := by
 rw [w64 (n := a + b) (by omega) (by omega), IntKind.wrap_u64, Int.emod_eq_of_lt (by omega) (by omega), w64 (by omega) (by omega)]
end Go.Proofs.YtchpbnabbjdfgaaDoor.Pure
