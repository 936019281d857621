-- HALVED
import Derived.Test.YtchpbnabbjdfgaaDoorPureB1
import Derived.Test.YtchpbnabbjdfgaaDoorPx0
import Derived.Test.YtchpbnabbjdfgaaDoorPx1
import Derived.Test.YtchpbnabbjdfgaaDoorPx37
import Derived.Test.YtchpbnabbjdfgaaDoorPx56
import Derived.Test.YtchpbnabbjdfgaaDoorPx65
import Derived.Test.YtchpbnabbjdfgaaDoorPx70
namespace Go.Proofs.YtchpbnabbjdfgaaDoor.Pure
open Go.ChangeShapes Go.WideShapes Go.ChangeAt Go.RowKit Go.Proofs.YtchpbnabbjdfgaaDoorW.PrintWords Go.Proofs.YtchpbnabbjdfgaaDoorW.PrintLast Go.Proofs.YtchpbnabbjdfgaaDoor.P Go.Proofs.YtchpbnabbjdfgaaDoor.Open
set_option linter.unusedVariables false
set_option linter.unusedSimpArgs false
deriving instance DecidableEq for S81
theorem insR_mem {r x : List S105} : ∀ {D : List (List S105)}, x ∈ insR r D ↔ x = r ∨ x ∈ D
 | [] => by simp [insR]
 | d :: D => by
  unfold insR
  split
  ·simp
  split
  ·rename_i h; subst h; simp
  ·rw [List.mem_cons, insR_mem, List.mem_cons]
   constructor
   ·rintro (h | h | h) <;> simp [h]
   ·rintro (h | h | h) <;> simp [h]
theorem insR_pw {r : List S105} : ∀ {D : List (List S105)}, D.Pairwise LtR → (insR r D).Pairwise LtR
 | [], _ => by simp [insR]
 | d :: D, h => by
  obtain ⟨h1, h2⟩ := List.pairwise_cons.1 h
  unfold insR
  split
  ·rename_i hlt
   refine List.pairwise_cons.2 ⟨fun x hx => ?_, h⟩
   rcases List.mem_cons.1 hx with rfl | hx
   ·exact hlt
   ·exact hlt.tr (h1 x hx)
  split
  ·exact h
  ·rename_i n1 n2
   refine List.pairwise_cons.2 ⟨fun x hx => ?_, insR_pw h2⟩
   rcases insR_mem.1 hx with rfl | hx
   ·rcases LtR.tri x d with h | h | h
    ·exact absurd h n1
    ·exact absurd h n2
    ·exact h
   ·exact h1 x hx
theorem zhj {x : List S105} : ∀ {l : List S81}, x ∈ dis l ↔ ∃ c ∈ l, c.f0 = x
 | [] => by simp [dis]
 | c :: l => by
  show x ∈ insR c.f0 (dis l) ↔ _
  rw [insR_mem, zhj]
  simp only [List.mem_cons, exists_eq_or_imp]
  constructor
  ·rintro (h | h)
   ·exact .inl h.symm
   ·exact .inr h
  ·rintro (h | h)
   ·exact .inl h.symm
   ·exact .inr h
theorem dis_pw : ∀ {l : List S81}, (dis l).Pairwise LtR
 | [] => .nil
 | c :: l => insR_pw (dis_pw (l := l))
theorem pw_uniq : ∀ {D D' : List (List S105)}, D.Pairwise LtR → D'.Pairwise LtR → (∀ x, x ∈ D ↔ x ∈ D') → D = D'
 | [], [], _, _, _ => rfl
 | [], d :: _, _, _, h => by have := (h d).2 List.mem_cons_self; cases this
 | d :: _, [], _, _, h => by have := (h d).1 List.mem_cons_self; cases this
 | d :: D, e :: D', h1, h2, h => by
  obtain ⟨a1, a2⟩ := List.pairwise_cons.1 h1
  obtain ⟨b1, b2⟩ := List.pairwise_cons.1 h2
  have hde : d = e := by
   rcases List.mem_cons.1 ((h d).1 List.mem_cons_self) with h3 | h3
   ·exact h3
   ·rcases List.mem_cons.1 ((h e).2 List.mem_cons_self) with h4 | h4
    ·exact h4.symm
    ·exact absurd (a1 e h4) (b1 d h3).asym
  subst hde
  congr 1
  refine pw_uniq a2 b2 (fun x => ?_)
  have hx := h x
  rw [List.mem_cons, List.mem_cons] at hx
  constructor
  ·intro hm
   rcases hx.1 (.inr hm) with h3 | h3
   ·subst h3; exact absurd (a1 _ hm) (LtR.irr _)
   ·exact h3
  ·intro hm
   rcases hx.2 (.inr hm) with h3 | h3
   ·subst h3; exact absurd (b1 _ hm) (LtR.irr _)
   ·exact h3
theorem cnt_perm {l m : List S81} (r : List S105) (h : l.Perm m) : cnt l r = cnt m r := by
 induction h with
 | nil => rfl
 | cons c _ ih => simp only [cnt, ih]
 | swap c d l => simp only [cnt]; omega
 | trans _ _ h1 h2 => exact h1.trans h2
theorem dis_perm {l m : List S81} (h : l.Perm m) : dis l = dis m := pw_uniq dis_pw dis_pw (fun x => by
 rw [zhj, zhj]
 exact ⟨fun ⟨c, hc, e⟩ => ⟨c, h.mem_iff.1 hc, e⟩, fun ⟨c, hc, e⟩ => ⟨c, h.mem_iff.2 hc, e⟩⟩)
theorem zit {g g' : List S105 → Int} : ∀ {D : List (List S105)}, (∀ r ∈ D, g r = g' r) → zgk g D = zgk g' D
 | [], _ => rfl
 | r :: D, h => by
  simp only [zgk]
  rw [h r List.mem_cons_self, zit (fun x hx => h x (List.mem_cons_of_mem _ hx))]
theorem ev_all {α : Type} {P : α → Nat → Prop} (l : List α) (h : ∀ x ∈ l, ∃ k0, ∀ k, k0 ≤ k → P x k) : ∃ k0, ∀ k, k0 ≤ k → ∀ x ∈ l, P x k := by
 induction l with
 | nil => exact ⟨0, fun _ _ x hx => by cases hx⟩
 | cons a l ih =>
  obtain ⟨k1, h1⟩ := h a List.mem_cons_self
  obtain ⟨k2, h2⟩ := ih (fun x hx => h x (List.mem_cons_of_mem _ hx))
  refine ⟨max k1 k2, fun k hk x hx => ?_⟩
  rcases List.mem_cons.1 hx with rfl | hx
  ·exact h1 k (by omega)
  ·exact h2 k (by omega) x hx
theorem sorted_ev (l : List S81) (hl : okL l) : Ev (fun k => zbc.f k l) (Go.Stb.stable sv_lt l.toArray).toList := by
 have hz : okC z81 := ⟨⟨by decide, fun v hv => by cases hv⟩, by decide, by decide⟩
 have hall : ∀ x ∈ z81 :: l, okC x := fun x hx => by
  rcases List.mem_cons.1 hx with rfl | hx
  ·exact hz
  ·exact hl.2 x hx
 obtain ⟨k0, h0⟩ := ev_all (z81 :: l) (P := fun x k => ∀ y ∈ z81 :: l, zei.f k x.f0 x.f1 y.f0 y.f1 = some (zgy x.f0 y.f0)) (fun x hx => ev_all (z81 :: l) (fun y hy => by
  have := Ev.bind (rows_ev' x.f0 y.f0 (hall x hx).1 (hall y hy).1) (Ev.pure (zfu x.f0 y.f0))
  rw [← zgw] at this
  exact this))
 refine ⟨k0, fun k hk => ?_⟩
 show zbc.f k l = _
 unfold zbc.f
 exact if_pos ⟨hl.1, h0 k hk⟩
def Wk (s : List S81) : Prop := s.Pairwise (fun a b => ¬ LtR b.f0 a.f0)
theorem bad_go (l : List S81) (hl : okL l) : ∀ (t : List S81) (i : Nat), l.drop i = t → Ev (fun k => (zam.l0 k l (l.length : Int) (i : Int)).bind fun n => some (decide (n ≥ 0))) (!t.all zik)
 | [], i, h => by
  apply Ev.succ
  simp only [zam.l0]
  exact Ev.bind (Ev.neg (dn h) (Ev.pure _)) (Ev.pure _)
 | c :: t, i, h => by
  obtain ⟨h1, h2, h3, h4, h5⟩ := ds h
  have hll := hl.1
  have hc := hl.2 c (List.mem_of_getElem? h5)
  apply Ev.succ
  simp only [zam.l0]
  have e : zax l (i : Int) = c := h2 _
  have e1 : Ev (fun k => zda.f k c.f0 c.f1) (!zik c) := by
   unfold zda.f zik
   rw [fits_eq]
   refine Ev.bind (Ev.of rfl) ?_
   by_cases hf : fit c.f1 = true
   ·rw [hf]
    exact Ev.pos rfl (Ev.bind (wrongs_ev c.f0 hc.1.1) (Ev.pure _))
   ·rw [Bool.eq_false_iff.2 hf]
    exact Ev.neg (by decide) (Ev.pure _)
  rw [e, ws (by omega), List.all_cons]
  by_cases hv : zik c = true
  ·rw [hv, Bool.true_and]
   rw [hv] at e1
   obtain ⟨ka, ha⟩ := e1
   obtain ⟨kb, hb⟩ := bad_go l hl t (i + 1) h3
   refine ⟨max ka kb, fun k hk => ?_⟩
   have := hb k (by omega)
   have hak : zda.f k c.f0 c.f1 = some (!true) := ha k (by omega)
   simp only [] at this ⊢
   rw [if_pos h1, if_pos (nn i), if_pos h1, hak]
   exact this
  ·rw [Bool.eq_false_iff.2 hv, Bool.false_and]
   rw [Bool.eq_false_iff.2 hv] at e1
   obtain ⟨ka, ha⟩ := e1
   refine ⟨ka, fun k hk => ?_⟩
   have hak : zda.f k c.f0 c.f1 = some (!false) := ha k hk
   simp only []
   rw [if_pos h1, if_pos (nn i), if_pos h1, hak]
   simp
theorem clone_eq (r : List S105) (hr : okR r) : zeq.f r = some r := by
 unfold zeq.f
 exact if_pos (by have := hr.1; omega)
def dd : List S81 → List (List S105)
 | [] => []
 | [c] => [c.f0]
 | c :: d :: l => if c.f0 = d.f0 then dd (d :: l) else c.f0 :: dd (d :: l)
def run (r : List S105) : List S81 → Int × List S81
 | [] => (0, [])
 | c :: l => if c.f0 = r then ((run r l).1 + c.f1, (run r l).2) else (0, c :: l)
theorem run_mem {r : List S105} : ∀ {l : List S81} {c : S81}, c ∈ (run r l).2 → c ∈ l
 | [], c, h => by simp [run] at h
 | d :: l, c, h => by
  unfold run at h
  split at h
  ·exact List.mem_cons_of_mem _ (run_mem h)
  ·exact h
theorem run_cnt {r : List S105} : ∀ {l : List S81}, Wk l → (∀ c ∈ l, ¬ LtR c.f0 r) → cnt l r = (run r l).1 ∧ (∀ c ∈ (run r l).2, LtR r c.f0) ∧ (∀ x, LtR r x → cnt l x = cnt (run r l).2 x)
 | [], _, _ => ⟨rfl, fun c hc => (by simp [run] at hc), fun _ _ => rfl⟩
 | c :: l, hw, hr => by
  obtain ⟨w1, w2⟩ := List.pairwise_cons.1 hw
  unfold run
  by_cases h : c.f0 = r
  ·rw [if_pos h]
   obtain ⟨i1, i2, i3⟩ := run_cnt w2 (fun d hd => hr d (List.mem_cons_of_mem _ hd))
   refine ⟨by simp only [cnt]; rw [if_pos h, i1]; omega, i2, fun x hx => ?_⟩
   simp only [cnt]
   rw [if_neg (fun e => by rw [← e, h] at hx; exact LtR.irr _ hx), i3 x hx, Int.zero_add]
  ·rw [if_neg h]
   have hrc : LtR r c.f0 := by
    rcases LtR.tri r c.f0 with h1 | h1 | h1
    ·exact h1
    ·exact absurd h1.symm h
    ·exact absurd h1 (hr c List.mem_cons_self)
   have hall : ∀ d ∈ c :: l, LtR r d.f0 := fun d hd => by
    rcases List.mem_cons.1 hd with rfl | hd
    ·exact hrc
    ·rcases LtR.tri c.f0 d.f0 with h1 | h1 | h1
     ·exact hrc.tr h1
     ·rw [← h1]; exact hrc
     ·exact absurd h1 (w1 d hd)
   refine ⟨?_, hall, fun _ _ => rfl⟩
   exact zih (fun d hd e => by have := hall d hd; rw [e] at this; exact LtR.irr _ this)
theorem dis_run {c : S81} {l : List S81} (hw : Wk (c :: l)) : dis (c :: l) = c.f0 :: dis (run c.f0 (c :: l)).2 := by
 have hr : ∀ d ∈ c :: l, ¬ LtR d.f0 c.f0 := fun d hd => by
  rcases List.mem_cons.1 hd with rfl | hd
  ·exact LtR.irr _
  ·exact (List.pairwise_cons.1 hw).1 d hd
 obtain ⟨_, i2, _⟩ := run_cnt hw hr
 refine pw_uniq dis_pw ?_ (fun x => ?_)
 ·refine List.pairwise_cons.2 ⟨fun x hx => ?_, dis_pw⟩
  obtain ⟨d, hd, e⟩ := zhj.1 hx
  rw [← e]; exact i2 d hd
 ·rw [zhj, List.mem_cons, zhj]
  have key : ∀ (m : List S81) (d : S81), d ∈ m → d.f0 = c.f0 ∨ d ∈ (run c.f0 m).2 := by
   intro m
   induction m with
   | nil => intro d hd; cases hd
   | cons e m ih =>
    intro d hd
    unfold run
    split
    ·rename_i he
     rcases List.mem_cons.1 hd with rfl | hd
     ·exact .inl he
     ·exact ih d hd
    ·exact .inr hd
  constructor
  ·rintro ⟨d, hd, e⟩
   rcases key _ d hd with h | h
   ·exact .inl (e.symm.trans h)
   ·exact .inr ⟨d, h, e⟩
  ·rintro (h | ⟨d, hd, e⟩)
   ·exact ⟨c, List.mem_cons_self, h.symm⟩
   ·exact ⟨d, run_mem hd, e⟩
theorem swo_sv : Go.Sort.SWO sv_lt where
 irrefl x := by
  show decide (zgy x.f0 x.f0 < 0) = false
  rw [zgw]
  exact decide_eq_false (LtR.irr _)
 trans x y z h1 h2 := by
  have h1 := of_decide_eq_true h1
  have h2 := of_decide_eq_true h2
  rw [zgw] at h1 h2
  show decide (zgy x.f0 z.f0 < 0) = true
  rw [zgw]
  exact decide_eq_true (LtR.tr h1 h2)
 ntrans x y z h1 h2 := by
  have h1 := of_decide_eq_false h1
  have h2 := of_decide_eq_false h2
  rw [zgw] at h1 h2
  show decide (zgy x.f0 z.f0 < 0) = false
  rw [zgw]
  refine decide_eq_false (fun h => ?_)
  rcases LtR.tri x.f0 y.f0 with h3 | h3 | h3
  ·exact h1 h3
  ·rw [h3] at h; exact h2 h
  ·exact h2 (LtR.tr h3 h)
theorem stable_list (l : List S81) : (Go.Stb.stable sv_lt l.toArray).toList.Perm l ∧ Wk (Go.Stb.stable sv_lt l.toArray).toList := by
 obtain ⟨⟨h1, _, h2⟩, h3⟩ := Go.Stb.stable_spec swo_sv l.toArray
 constructor
 ·rw [← h1, Array.extract_size, h1, Array.extract_size] at h2
  simpa using h2
 ·unfold Wk
  rw [List.pairwise_iff_getElem]
  intro i j hi hj hij
  rw [Array.length_toList] at hi hj
  have := h3 i j (Nat.zero_le _) hij (by rw [← h1]; exact hj)
  rw [getElem!_pos (Go.Stb.stable sv_lt l.toArray) i hi, getElem!_pos (Go.Stb.stable sv_lt l.toArray) j hj] at this
  have := of_decide_eq_false this
  rw [zgw] at this
  rw [Array.getElem_toList, Array.getElem_toList]
  exact this
def more (acc : List S81) (o : Option (List S81)) : List S81 × Int := match o with | some o => (acc ++ o, 0) | none => ([], 14)
theorem sort_go (s : List S81) (hs : okL s) (hf : ∀ c ∈ s, fit c.f1 = true) : ∀ (n : Nat) (t : List S81) (i : Nat) (acc : List S81), t.length ≤ n → s.drop i = t → Wk t → acc.length ≤ i →
  Ev (fun k => zaz.l0 k s acc (i : Int)) (more acc (zgk (cnt t) (dis t)))
 | n, [], i, acc, _, h, _, _ => by
  apply Ev.succ
  simp only [zaz.l0]
  have : more acc (zgk (cnt []) (dis [])) = (acc, 0) := by simp [more, zgk, dis]
  rw [this]
  exact Ev.neg (dn h) (Ev.pure _)
 | 0, c :: t, i, acc, hn, _, _, _ => by simp at hn
 | n + 1, c :: t, i, acc, hn, h, hw, ha => by
  obtain ⟨h1, h2, h3, h4, h5⟩ := ds h
  have hll := hs.1
  have hc := hs.2 c (List.mem_of_getElem? h5)
  have e : zax s (i : Int) = c := h2 _
  apply Ev.succ
  simp only [zaz.l0]
  refine Ev.pos h1 (Ev.pos (nn i) ?_)
  rw [e, clone_eq _ hc.1]
  refine Ev.bind (Ev.of rfl) ?_
  have hwr : ∀ d ∈ c :: t, ¬ LtR d.f0 c.f0 := fun d hd => by
   rcases List.mem_cons.1 hd with rfl | hd
   ·exact LtR.irr _
   ·exact (List.pairwise_cons.1 hw).1 d hd
  obtain ⟨r1, r2, r3⟩ := run_cnt hw hwr
  have inner : ∀ (u : List S81) (j : Nat) (m : Int), s.drop j = u → i ≤ j → (∀ d ∈ u, d ∈ s) → (∃ p, p ++ u = c :: t) → -(1099511627776 * (j : Int)) ≤ m → m ≤ 1099511627776 * (j : Int) → (run c.f0 u).2 = (run c.f0 (c :: t)).2 →
    (u = [] ∨ i < j ∨ u = c :: t) →
    Ev (fun k => zaz.l1 k s acc (j : Int) c.f0 m) (if fit (m + (run c.f0 u).1) = true then more (if m + (run c.f0 u).1 = 0 then acc else acc ++ [⟨c.f0, m + (run c.f0 u).1⟩]) (zgk (cnt (run c.f0 u).2) (dis (run c.f0 u).2)) else ([], 14)) := by
   intro u
   induction u with
   | nil =>
    intro j m hj hij hmem hp hm1 hm2 hrun hor
    have hjl : s.length ≤ j := by have := List.drop_eq_nil_iff.1 hj; omega
    have fin_ : Ev (fun k => zaz.j2 k s acc (j : Int) c.f0 m) (if fit (m + 0) = true then more (if m + 0 = 0 then acc else acc ++ [⟨c.f0, m + 0⟩]) (zgk (cnt []) (dis [])) else ([], 14)) := by
     apply Ev.succ
     simp only [zaz.j2]
     rw [fits_eq, Int.add_zero]
     refine Ev.bind (Ev.of rfl) ?_
     by_cases hfi : fit m = true
     ·rw [if_pos hfi]
      refine Ev.pos hfi ?_
      by_cases hm0 : m = 0
      ·rw [if_pos hm0]
       exact Ev.pos hm0 (sort_go s hs hf n [] j acc (Nat.zero_le _) hj .nil (by omega))
      ·rw [if_neg hm0]
       exact Ev.neg hm0 (Ev.pos (by omega) (sort_go s hs hf n [] j _ (Nat.zero_le _) hj .nil (by rw [List.length_append]; simp only [List.length_cons, List.length_nil]; omega)))
     ·rw [if_neg hfi]
      exact Ev.neg hfi (Ev.pure _)
    apply Ev.succ
    simp only [zaz.l1]
    exact Ev.neg (dn hj) fin_
   | cons d u ih =>
    intro j m hj hij hmem hp hm1 hm2 hrun hor
    obtain ⟨g1, g2, g3, g4, g5⟩ := ds hj
    have hd := hs.2 d (hmem d List.mem_cons_self)
    have hdf := fit_rng (hf d (hmem d List.mem_cons_self))
    have ed : zax s (j : Int) = d := g2 _
    apply Ev.succ
    simp only [zaz.l1]
    refine Ev.pos g1 (Ev.pos (nn j) ?_)
    rw [ed]
    refine Ev.bind (rows_ev' d.f0 c.f0 hd.1 hc.1) ?_
    by_cases he : d.f0 = c.f0
    ·refine Ev.pos (zhz.2 he) ?_
     rw [ws (by omega), w64 (n := m + d.f1) (by omega) (by omega)]
     have hrd : run c.f0 (d :: u) = ((run c.f0 u).1 + d.f1, (run c.f0 u).2) := by simp only [run]; rw [if_pos he]
     have := ih (j + 1) (m + d.f1) g3 (by omega) (fun x hx => hmem x (List.mem_cons_of_mem _ hx)) (by obtain ⟨p, hp⟩ := hp; exact ⟨p ++ [d], by simpa using hp⟩) (by omega) (by omega) (by rw [← hrun, hrd]) (.inr (.inl (by omega)))
     rw [hrd]
     rw [show m + ((run c.f0 u).1 + d.f1) = m + d.f1 + (run c.f0 u).1 by omega]
     exact this
    ·refine Ev.neg (fun h0 => he (zhz.1 h0)) ?_
     have hrd : run c.f0 (d :: u) = (0, d :: u) := by simp only [run]; rw [if_neg he]
     rw [hrd, Int.add_zero]
     have hij' : i < j := by
      rcases hor with h0 | h0 | h0
      ·cases h0
      ·exact h0
      ·injection h0 with h0 _; exact absurd (by rw [h0]) he
     have hlen : (d :: u).length ≤ n := by
      have a1 := dl hj
      have a2 := dl h
      simp only [List.length_cons] at a1 a2 hn ⊢
      omega
     have hwu : Wk (d :: u) := by
      obtain ⟨p, hp⟩ := hp
      rw [← hp] at hw
      exact (List.pairwise_append.1 hw).2.1
     apply Ev.succ
     simp only [zaz.j2]
     rw [fits_eq]
     refine Ev.bind (Ev.of rfl) ?_
     by_cases hfi : fit m = true
     ·rw [if_pos hfi]
      refine Ev.pos hfi ?_
      by_cases hm0 : m = 0
      ·rw [if_pos hm0]
       exact Ev.pos hm0 (sort_go s hs hf n (d :: u) j acc hlen hj hwu (by omega))
      ·rw [if_neg hm0]
       exact Ev.neg hm0 (Ev.pos (by omega) (sort_go s hs hf n (d :: u) j _ hlen hj hwu (by rw [List.length_append]; simp only [List.length_cons, List.length_nil]; omega)))
     ·rw [if_neg hfi]
      exact Ev.neg hfi (Ev.pure _)
  have := inner (c :: t) i 0 h (Nat.le_refl _) (fun d hd => List.mem_of_mem_drop (h ▸ hd)) ⟨[], rfl⟩ (by omega) (by omega) rfl (.inr (.inr rfl))
  rw [Int.zero_add, ← r1] at this
  rw [dis_run hw]
  have hout : more acc (zgk (cnt (c :: t)) (c.f0 :: dis (run c.f0 (c :: t)).2)) = if fit (cnt (c :: t) c.f0) = true then more (if cnt (c :: t) c.f0 = 0 then acc else acc ++ [⟨c.f0, cnt (c :: t) c.f0⟩]) (zgk (cnt (run c.f0 (c :: t)).2) (dis (run c.f0 (c :: t)).2)) else ([], 14) := by
   simp only [zgk]
   rw [zit (g := cnt (c :: t)) (g' := cnt (run c.f0 (c :: t)).2) (fun r hr => by
    obtain ⟨d, hd, e'⟩ := zhj.1 hr
    exact r3 r (by rw [← e']; exact r2 d hd))]
   split
   ·cases zgk (cnt (run c.f0 (c :: t)).2) (dis (run c.f0 (c :: t)).2) with
    | none => rfl
    | some o =>
     simp only [Option.map_some, more]
     split
     ·rfl
     ·rw [List.append_assoc]; rfl
   ·rfl
  rw [hout]
  exact this
theorem cloneC_eq (l : List S81) (hl : okL l) : zep.f l = some l := by
 unfold zep.f
 exact if_pos hl.1
theorem sort_ev (l : List S81) (hl : okL l) : Ev (fun k => zaz.f k l) (zhd l) := by
 unfold zaz.f zhd
 refine Ev.bind (bad_go l hl l 0 rfl) ?_
 by_cases ha : l.all zik = true
 ·rw [if_pos ha, ha]
  refine Ev.neg (by decide) ?_
  rw [cloneC_eq l hl]
  refine Ev.bind (Ev.of rfl) (Ev.bind (sorted_ev l hl) ?_)
  obtain ⟨hp, hw⟩ := stable_list l
  have hs : okL (Go.Stb.stable sv_lt l.toArray).toList := ⟨by rw [hp.length_eq]; exact hl.1, fun c hc => hl.2 c (hp.mem_iff.1 hc)⟩
  have hf : ∀ c ∈ (Go.Stb.stable sv_lt l.toArray).toList, fit c.f1 = true := fun c hc => by
   have := List.all_eq_true.1 ha c (hp.mem_iff.1 hc)
   unfold zik at this
   rw [Bool.and_eq_true] at this
   exact this.1
  have := sort_go _ hs hf _ (Go.Stb.stable sv_lt l.toArray).toList 0 [] (Nat.le_refl _) rfl hw (Nat.le_refl _)
  rw [dis_perm hp, zit (fun r _ => cnt_perm r hp)] at this
  have e : ∀ o, more [] o = fin o := fun o => by cases o <;> rfl
  rw [e] at this
  exact this
 ·rw [if_neg ha, Bool.eq_false_iff.2 ha]
  exact Ev.pos rfl (Ev.pure _)
theorem small_go (l : List S81) (hl : l.length ≤ 60) : ∀ (t : List S81) (i : Nat), l.drop i = t → Ev (fun k => zau.l0 k l (i : Int)) (t.all (fun c => decide (c.f0.length ≤ 40)))
 | [], i, h => by
  apply Ev.succ
  simp only [zau.l0]
  exact Ev.neg (dn h) (Ev.pure _)
 | c :: t, i, h => by
  obtain ⟨h1, h2, h3, h4, h5⟩ := ds h
  apply Ev.succ
  simp only [zau.l0]
  have e : zax l (i : Int) = c := h2 _
  rw [e, ws (by omega), List.all_cons]
  refine Ev.pos h1 (Ev.pos (nn i) ?_)
  by_cases hc : c.f0.length ≤ 40
  ·rw [decide_eq_true hc, Bool.true_and]
   exact Ev.neg (by omega) (small_go l hl t (i + 1) h3)
  ·rw [decide_eq_false hc, Bool.false_and]
   exact Ev.pos (by omega) (Ev.pure _)
instance (l : List S81) : Decidable (Small l) := by unfold Small; infer_instance
theorem small_ev (l : List S81) : Ev (fun k => zau.f k l) (decide (Small l)) := by
 unfold zau.f
 by_cases h : l.length ≤ 60
 ·apply Ev.neg (by omega)
  have := small_go l h l 0 rfl
  have e : decide (Small l) = l.all (fun c => decide (c.f0.length ≤ 40)) := by
   rw [Bool.eq_iff_iff, decide_eq_true_eq, List.all_eq_true]
   unfold Small
   simp only [decide_eq_true_eq]
   exact ⟨fun h' => h'.2, fun h' => ⟨h, h'⟩⟩
  rw [e]
  exact this
 ·rw [decide_eq_false (fun h' => h h'.1)]
  exact Ev.pos (by omega) (Ev.pure _)
theorem okL_of {l : List S81} (h : Small l) (hw : wf_L81_T81 l) : okL l := ⟨by have := h.1; omega, fun c hc => by
 have h1 := h.2 c hc
 have h2 := hw.2 c hc
 exact ⟨⟨by omega, fun v hv => (h2.1.2 v hv).2.2⟩, (bounds_i64 h2.2).1, (bounds_i64 h2.2).2⟩⟩
theorem outOf_sub {g : List S105 → Int} : ∀ {D : List (List S105)} {o : List S81}, zgk g D = some o → (∀ c ∈ o, c.f0 ∈ D ∧ c.f1 = g c.f0 ∧ c.f1 ≠ 0 ∧ fit c.f1 = true) ∧ o.length ≤ D.length ∧ (D.Pairwise LtR → o.Pairwise (fun a b => LtR a.f0 b.f0))
 | [], o, h => by
  simp only [zgk, Option.some.injEq] at h
  subst h
  exact ⟨(fun c hc => by cases hc), Nat.le_refl _, fun _ => List.Pairwise.nil⟩
 | r :: D, o, h => by
  simp only [zgk] at h
  split at h
  ·rename_i hf
   rw [Option.map_eq_some_iff] at h
   obtain ⟨p, hp, rfl⟩ := h
   obtain ⟨i1, i2, i3⟩ := outOf_sub hp
   split
   ·refine ⟨fun c hc => ⟨List.mem_cons_of_mem _ (i1 c hc).1, (i1 c hc).2⟩, by simp only [List.length_cons]; omega, fun hpw => i3 (List.pairwise_cons.1 hpw).2⟩
   ·rename_i h0
    refine ⟨fun c hc => ?_, by simp only [List.length_cons]; omega, fun hpw => ?_⟩
    ·rcases List.mem_cons.1 hc with rfl | hc
     ·exact ⟨List.mem_cons_self, rfl, h0, hf⟩
     ·exact ⟨List.mem_cons_of_mem _ (i1 c hc).1, (i1 c hc).2⟩
    ·obtain ⟨q1, q2⟩ := List.pairwise_cons.1 hpw
     exact List.pairwise_cons.2 ⟨fun c hc => q1 _ (i1 c hc).1, i3 q2⟩
  ·cases h
theorem dis_len : ∀ l : List S81, (dis l).length ≤ l.length
 | [] => Nat.le_refl _
 | c :: l => by
  show (insR c.f0 (dis l)).length ≤ _
  have key : ∀ D : List (List S105), (insR c.f0 D).length ≤ D.length + 1 := by
   intro D
   induction D with
   | nil => simp [insR]
   | cons d D ih =>
    unfold insR
    split
    ·simp
    split
    ·simp
    ·simp only [List.length_cons]; omega
  have := key (dis l)
  have := dis_len l
  simp only [List.length_cons]; omega
theorem sortS_fst (l : List S81) : (zhd l).1.length ≤ l.length ∧ (∀ c ∈ (zhd l).1, (∃ d ∈ l, d.f0 = c.f0) ∧ c.f1 ≠ 0 ∧ fit c.f1 = true ∧ c.f1 = cnt l c.f0) ∧ (zhd l).1.Pairwise (fun a b => LtR a.f0 b.f0) := by
 unfold zhd
 split
 ·cases h : zgk (cnt l) (dis l) with
  | none => exact ⟨Nat.zero_le _, (fun c hc => by cases hc), List.Pairwise.nil⟩
  | some o =>
   obtain ⟨h1, h2, h3⟩ := outOf_sub h
   exact ⟨Nat.le_trans h2 (dis_len l), fun c hc => ⟨zhj.1 (h1 c hc).1, (h1 c hc).2.2.1, (h1 c hc).2.2.2, (h1 c hc).2.1⟩, h3 dis_pw⟩
 ·exact ⟨Nat.zero_le _, (fun c hc => by cases hc), List.Pairwise.nil⟩
theorem sortS_okL {l : List S81} (hl : okL l) : okL (zhd l).1 := by
 obtain ⟨h1, h2, _⟩ := sortS_fst l
 refine ⟨by have := hl.1; omega, fun c hc => ?_⟩
 obtain ⟨⟨d, hd, e⟩, _, hf, _⟩ := h2 c hc
 have := fit_rng hf
 exact ⟨e ▸ (hl.2 d hd).1, by omega, by omega⟩
theorem sortS_right {l : List S81} : bagR (zhd l).1 = true := by
 obtain ⟨h1, h2, h3⟩ := sortS_fst l
 unfold bagR
 rw [lt_rise _ h3, Bool.and_true, List.all_eq_true]
 intro c hc
 obtain ⟨⟨d, hd, e⟩, h0, hf, _⟩ := h2 c hc
 have hr : rowR c.f0 = true := by
  have hne : (zhd l).1 ≠ [] := fun h => by rw [h] at hc; cases hc
  unfold zhd at hne
  split at hne
  ·rename_i ha
   have := List.all_eq_true.1 ha d hd
   unfold zik at this
   rw [Bool.and_eq_true] at this
   rw [← e]; exact this.2
  ·exact absurd rfl hne
 unfold zik
 rw [hf, hr, decide_eq_true h0]
 rfl
theorem outOf_cnt {g : List S105 → Int} (x : List S105) : ∀ {D : List (List S105)} {o : List S81}, D.Pairwise LtR → zgk g D = some o → cnt o x = if x ∈ D then g x else 0
 | [], o, _, h => by
  simp only [zgk, Option.some.injEq] at h
  subst h
  simp [cnt]
 | r :: D, o, hp, h => by
  obtain ⟨q1, q2⟩ := List.pairwise_cons.1 hp
  simp only [zgk] at h
  split at h
  ·rw [Option.map_eq_some_iff] at h
   obtain ⟨p, hp', rfl⟩ := h
   have ih := outOf_cnt x q2 hp'
   by_cases hx : x = r
   ·subst hx
    have hnD : x ∉ D := fun hm => LtR.irr _ (q1 x hm)
    rw [if_neg hnD] at ih
    rw [if_pos List.mem_cons_self]
    split
    ·rename_i h0; rw [ih, h0]
    ·simp only [cnt]; rw [if_pos trivial, ih]; omega
   ·have hiff : (x ∈ r :: D) ↔ x ∈ D := by rw [List.mem_cons]; exact ⟨fun h => h.resolve_left hx, .inr⟩
    simp only [hiff]
    rw [← ih]
    split
    ·rfl
    ·simp only [cnt]; rw [if_neg (fun e => hx e.symm)]; omega
  ·cases h
theorem sortS_cnt {l : List S81} (h : (zhd l).2 = 0) (x : List S105) : cnt (zhd l).1 x = cnt l x := by
 unfold zhd at h ⊢
 split at h
 ·rename_i ha
  cases ho : zgk (cnt l) (dis l) with
  | none => rw [ho] at h; exact absurd h (by decide)
  | some o =>
   rw [if_pos ha]
   show cnt o x = _
   rw [outOf_cnt x dis_pw ho]
   split
   ·rfl
   ·rename_i hx
    exact (zih (fun c hc e => hx (zhj.2 ⟨c, hc, e⟩))).symm
 ·exact absurd h (by decide)
def over (g : List S105 → Int) : List (List S105) → Int
 | [] => 0
 | r :: D => g r + over g D
theorem sums_go (l : List (List S81)) (hl : l.length ≤ 1000000) (ho : ∀ b ∈ l, okL b) : ∀ (t : List (List S81)) (i : Nat), l.drop i = t → Ev (fun k => (zap.l0 k l (l.length : Int) (i : Int)).bind fun n => some (decide (n ≥ 0))) (!t.all bagR)
 | [], i, h => by
  apply Ev.succ
  simp only [zap.l0]
  exact Ev.bind (Ev.neg (dn h) (Ev.pure _)) (Ev.pure _)
 | c :: t, i, h => by
  obtain ⟨h1, h2, h3, h4, h5⟩ := ds h
  have hc := ho c (List.mem_of_getElem? h5)
  apply Ev.succ
  simp only [zap.l0]
  have e : rd_L5 l (i : Int) = c := h2 _
  have e1 : Ev (fun k => zdu.f k c) (!bagR c) := Ev.bind (right_ev c hc) (Ev.pure _)
  rw [e, ws (by omega), List.all_cons]
  obtain ⟨ka, ha⟩ := e1
  by_cases hv : bagR c = true
  ·rw [hv, Bool.true_and]
   rw [hv] at ha
   obtain ⟨kb, hb⟩ := sums_go l hl ho t (i + 1) h3
   refine ⟨max ka kb, fun k hk => ?_⟩
   have := hb k (by omega)
   have hak : zdu.f k c = some (!true) := ha k (by omega)
   simp only [] at this ⊢
   rw [if_pos h1, if_pos (nn i), if_pos h1, hak]
   exact this
  ·rw [Bool.eq_false_iff.2 hv, Bool.false_and]
   rw [Bool.eq_false_iff.2 hv] at ha
   refine ⟨ka, fun k hk => ?_⟩
   have hak : zdu.f k c = some (!false) := ha k hk
   simp only []
   rw [if_pos h1, if_pos (nn i), if_pos h1, hak]
   simp
def sumS (l : List (List S81)) : List S81 × Int := if l.all bagR = true then zhd l.flatten else ([], 1)
theorem sum_ev (l : List (List S81)) (hl : l.length ≤ 1000000) (ho : ∀ b ∈ l, okL b) (hf : l.flatten.length ≤ 1000000) : Ev (fun k => zgo.f k l) (sumS l) := by
 unfold zgo.f sumS
 refine Ev.bind (sums_go l hl ho l 0 rfl) ?_
 by_cases h : l.all bagR = true
 ·rw [if_pos h, h]
  refine Ev.neg (by decide) ?_
  have e : zch.f l = some l.flatten := by unfold zch.f; exact if_pos ⟨hl, hf⟩
  rw [e]
  refine Ev.bind (Ev.of rfl) (Ev.bind (sort_ev _ ⟨hf, fun c hc => ?_⟩) (Ev.pure _))
  obtain ⟨b, hb, hcb⟩ := List.mem_flatten.1 hc
  exact (ho b hb).2 c hcb
 ·rw [if_neg h, Bool.eq_false_iff.2 h]
  exact Ev.pos rfl (Ev.pure _)
def negC (c : S81) : S81 := ⟨c.f0, -c.f1⟩
def negS (l : List S81) : List S81 × Int := if bagR l = true then (l.map negC, 0) else ([], 1)
def ofS (l : List (List S105)) : List S81 := l.map fun r => ⟨r, 1⟩
def numR (n : Int) : List S105 := [⟨2, n, ⟨#[]⟩⟩]
end Go.Proofs.YtchpbnabbjdfgaaDoor.Pure
