-- HALVED
import Derived.Test.YtnggdcdiachkpaaDoorPureB7
import Derived.Test.YtnggdcdiachkpaaDoorPureE
import Derived.Test.YtnggdcdiachkpaaDoorPx97
import Derived.Test.YtnggdcdiachkpaaDoorPureEq
namespace Go.Proofs.YtnggdcdiachkpaaDoor.Pure
open Go.ChangeShapes Go.WideShapes Go.ChangeAt Go.RowKit Go.Proofs.YtnggdcdiachkpaaDoorW.PrintWords Go.Proofs.YtnggdcdiachkpaaDoorW.PrintLast Go.Proofs.YtnggdcdiachkpaaDoor.P Go.Proofs.YtnggdcdiachkpaaDoor.Open
set_option linter.unusedVariables false
set_option linter.unusedSimpArgs false
theorem outOf_zero {g : List S48 → Int} : ∀ {D : List (List S48)}, (∀ r ∈ D, g r = 0) → zhd g D = some []
 | [], _ => rfl
 | r :: D, h => by
  simp only [zhd]
  rw [h r List.mem_cons_self, if_pos (by decide), outOf_zero (fun x hx => h x (List.mem_cons_of_mem _ hx))]
  rfl
def lin (w : List S48 → Int) : List S54 → Int
 | [] => 0
 | c :: l => c.f1 * w c.f0 + lin w l
theorem lin_app (w : List S48 → Int) : ∀ l m : List S54, lin w (l ++ m) = lin w l + lin w m
 | [], m => by simp [lin]
 | c :: l, m => by rw [List.cons_append, lin, lin_app w l m, lin]; omega
theorem lin_add (f g : List S48 → Int) : ∀ l : List S54, lin (fun a => f a + g a) l = lin f l + lin g l
 | [] => rfl
 | c :: l => by simp only [lin]; rw [lin_add f g l, Int.mul_add]; omega
theorem lin_zero : ∀ l : List S54, lin (fun _ => 0) l = 0
 | [] => rfl
 | c :: l => by simp only [lin]; rw [lin_zero l]; simp
theorem lin_neg (f : List S48 → Int) : ∀ l : List S54, lin f (l.map negC) = - lin f l
 | [] => rfl
 | c :: l => by
  show (negC c).f1 * f (negC c).f0 + lin f (l.map negC) = -(c.f1 * f c.f0 + lin f l)
  rw [lin_neg f l]; show -c.f1 * f c.f0 + _ = _; rw [Int.neg_mul]; omega
theorem over_zero : ∀ D : List (List S48), over (fun _ => 0) D = 0
 | [] => rfl
 | r :: D => by simp only [over]; rw [over_zero D]; rfl
theorem over_ext {f g : List S48 → Int} : ∀ {D : List (List S48)}, (∀ r ∈ D, f r = g r) → over f D = over g D
 | [], _ => rfl
 | r :: D, h => by simp only [over]; rw [h r List.mem_cons_self, over_ext (fun x hx => h x (List.mem_cons_of_mem _ hx))]
theorem lin_over (w : List S48 → Int) : ∀ {l : List S54} {D : List (List S48)}, D.Pairwise LtR → (∀ c ∈ l, c.f0 ∈ D) → over (fun r => cnt l r * w r) D = lin w l
 | [], D, _, _ => by
  rw [show lin w [] = 0 from rfl, ← over_zero D]
  exact over_ext (fun r _ => by show (0 : Int) * w r = 0; simp)
 | c :: l, D, hp, hm => by
  have h1 := lin_over w (l := l) hp (fun x hx => hm x (List.mem_cons_of_mem _ hx))
  have h2 := over_one c.f0 (c.f1 * w c.f0) hp
  rw [if_pos (hm c List.mem_cons_self)] at h2
  show _ = c.f1 * w c.f0 + lin w l
  rw [← h1, ← h2, ← over_add]
  refine over_ext (fun r _ => ?_)
  simp only [cnt]
  by_cases h : c.f0 = r
  ·subst h; rw [if_pos rfl, if_pos rfl, Int.add_mul]
  ·rw [if_neg h, if_neg h]; simp
theorem lin_congr (w : List S48 → Int) {l m : List S54} (h : ∀ r, cnt l r = cnt m r) : lin w l = lin w m := by
 have hp := dis_pw (l := l ++ m)
 rw [← lin_over w (l := l) hp (fun c hc => zho.2 ⟨c, List.mem_append_left _ hc, rfl⟩), ← lin_over w (l := m) hp (fun c hc => zho.2 ⟨c, List.mem_append_right _ hc, rfl⟩)]
 exact over_ext (fun r _ => by rw [h r])
theorem lin_perm (w : List S48 → Int) {l m : List S54} (h : l.Perm m) : lin w l = lin w m := lin_congr w (fun r => cnt_perm r h)
theorem bag_uniq {l m : List S54} (hl : bagR l = true) (hm : bagR m = true) (h : ∀ r, cnt l r = cnt m r) : l = m := by
 have pl := rise_lt l (ziv hl).2
 have pm := rise_lt m (ziv hm).2
 have mem : ∀ {l m : List S54}, bagR l = true → l.Pairwise (fun a b => LtR a.f0 b.f0) → m.Pairwise (fun a b => LtR a.f0 b.f0) → (∀ r, cnt l r = cnt m r) → ∀ c ∈ l, c ∈ m := by
  intro l m hl pl pm h c hc
  obtain ⟨i, hi, rfl⟩ := List.getElem_of_mem hc
  have h1 := cnt_at pl (List.getElem?_eq_getElem hi) rfl
  have hne := ((ziv hl).1 _ hc).2.1
  have hex : ∃ d ∈ m, d.f0 = (l[i]).f0 := by
   refine Classical.byContradiction fun hno => ?_
   have := cnt_none (r := (l[i]).f0) (l := m) (fun d hd he => hno ⟨d, hd, he⟩)
   rw [← h, h1] at this; exact hne this
  obtain ⟨d, hd, he⟩ := hex
  obtain ⟨j, hj, rfl⟩ := List.getElem_of_mem hd
  have h2 := cnt_at pm (List.getElem?_eq_getElem hj) rfl
  rw [he, ← h, h1] at h2
  have : l[i] = m[j] := by
   cases hx : l[i]; cases hy : m[j]
   rw [hx, hy] at he h2; simp only at he h2; rw [he, h2]
  rw [this]; exact hd
 have e1 := mem hl pl pm h
 have e2 := mem hm pm pl (fun r => (h r).symm)
 have hu : ∀ {l m : List S54}, l.Pairwise (fun a b => LtR a.f0 b.f0) → m.Pairwise (fun a b => LtR a.f0 b.f0) → (∀ c, c ∈ l ↔ c ∈ m) → l = m := by
  intro l
  induction l with
  | nil => intro m _ _ hh; cases m with
   | nil => rfl
   | cons x m => exact absurd ((hh x).2 List.mem_cons_self) (by simp)
  | cons x l ih =>
   intro m hp hq hh
   cases m with
   | nil => exact absurd ((hh x).1 List.mem_cons_self) (by simp)
   | cons y m =>
    rw [List.pairwise_cons] at hp hq
    have hxy : x = y := by
     rcases List.mem_cons.1 ((hh x).1 List.mem_cons_self) with h | h
     ·exact h
     ·rcases List.mem_cons.1 ((hh y).2 List.mem_cons_self) with h' | h'
      ·exact h'.symm
      ·exact absurd (hq.1 x h) (LtR.asym (hp.1 y h'))
    subst hxy
    rw [ih hp.2 hq.2 (fun c => ?_)]
    constructor
    ·intro hc
     rcases List.mem_cons.1 ((hh c).1 (List.mem_cons_of_mem _ hc)) with h | h
     ·subst h; exact absurd (hp.1 c hc) (LtR.irr _)
     ·exact h
    ·intro hc
     rcases List.mem_cons.1 ((hh c).2 (List.mem_cons_of_mem _ hc)) with h | h
     ·subst h; exact absurd (hq.1 c hc) (LtR.irr _)
     ·exact h
 exact hu pl pm (fun c => ⟨e1 c, e2 c⟩)
def joinS (K : List S48 → List S48 → Bool) (l r : List S54) : List S54 := l.flatMap fun a => (r.filter fun b => K a.f0 b.f0).map fun b => ⟨a.f0 ++ b.f0, a.f1 * b.f1⟩
theorem lin_flat (w : List S48 → Int) (f : S54 → List S54) : ∀ l : List S54, lin w (l.flatMap f) = (l.map fun a => lin w (f a)).sum
 | [] => rfl
 | c :: l => by rw [List.flatMap_cons, lin_app, lin_flat w f l]; simp
theorem lin_part (w : List S48 → Int) (K : List S48 → Bool) (a : List S48) (n : Int) : ∀ r : List S54, lin w ((r.filter fun b => K b.f0).map fun b => (⟨a ++ b.f0, n * b.f1⟩ : S54)) = n * lin (fun b => if K b = true then w (a ++ b) else 0) r
 | [] => by simp [lin]
 | b :: r => by
  rw [List.filter_cons]
  simp only [lin]
  by_cases h : K b.f0 = true
  ·rw [if_pos h, if_pos h, List.map_cons]
   simp only [lin]
   rw [lin_part w K a n r, Int.mul_add, Int.mul_assoc]
  ·rw [if_neg h, if_neg h, lin_part w K a n r]; simp
theorem lin_sum (f : List S48 → Int) : ∀ l : List S54, lin f l = (l.map fun c => c.f1 * f c.f0).sum
 | [] => rfl
 | c :: l => by simp only [lin]; rw [lin_sum f l]; simp
theorem lin_join (w : List S48 → Int) (K : List S48 → List S48 → Bool) (l r : List S54) : lin w (joinS K l r) = lin (fun a => lin (fun b => if K a b = true then w (a ++ b) else 0) r) l := by
 unfold joinS
 rw [lin_flat, lin_sum]
 congr 1
 refine List.map_congr_left (fun c _ => ?_)
 exact lin_part w (K c.f0) c.f0 c.f1 r
def phi (φ : List S48 → Option (List S48)) (l : List S54) : List S54 := l.filterMap fun c => (φ c.f0).map fun r => ⟨r, c.f1⟩
theorem cnt_phi (φ : List S48 → Option (List S48)) (x : List S48) : ∀ l : List S54, cnt (phi φ l) x = lin (fun r => if φ r = some x then 1 else 0) l
 | [] => rfl
 | c :: l => by
  have ih := cnt_phi φ x l
  unfold phi at ih ⊢
  rw [List.filterMap_cons]
  simp only [lin]
  cases h : φ c.f0 with
  | none => simp [ih]
  | some r =>
   simp only [Option.map_some, cnt, ih]
   by_cases hr : r = x
   ·subst hr; simp
   ·rw [if_neg hr, if_neg (by simpa using hr)]; simp
theorem vR_okV {v : S48} (h : vR v = true) : okV v := by
 unfold vR at h
 have e : (v.f2.toList == ([] : List UInt8)) = true → okV v := fun h => by
  rw [str_nil] at h
  have := of_decide_eq_true h
  show v.f2.size ≤ 9223372036854775807
  rw [this]; decide
 have s : (v.f2.size : Int) ≤ 64 → okV v := fun h => by show v.f2.size ≤ 9223372036854775807; omega
 by_cases h0 : v.f0 = 0
 ·rw [if_pos h0] at h; exact e (Bool.and_eq_true _ _ ▸ h).2
 rw [if_neg h0] at h
 by_cases h1 : v.f0 = 1
 ·rw [if_pos h1] at h; exact e (Bool.and_eq_true _ _ ▸ h).2
 rw [if_neg h1] at h
 by_cases h2 : v.f0 = 2
 ·rw [if_pos h2] at h; exact e h
 rw [if_neg h2] at h
 by_cases h3 : v.f0 = 3
 ·rw [if_pos h3] at h
  simp only [Bool.and_eq_true, decide_eq_true_eq] at h
  exact s h.1.2
 rw [if_neg h3] at h
 by_cases h4 : v.f0 = 4
 ·rw [if_pos h4] at h
  simp only [Bool.and_eq_true, decide_eq_true_eq] at h
  exact s h.2
 ·rw [if_neg h4] at h; cases h
theorem Lt.tri (a b : S48) : Lt a b ∨ a = b ∨ Lt b a := by
 rcases zjl a b with ⟨_, h⟩ | ⟨_, h⟩ | ⟨_, h⟩
 ·exact .inl h
 ·exact .inr (.inr h)
 ·exact .inr (.inl h)
def hasAt (at_ : Int) (c : S54) : Bool := decide (0 ≤ at_) && decide (at_ < (c.f0.length : Int))
def zgy (at_ : Int) (r : List S48) : S48 := zak r at_
def zhv (at_ : Int) (b : List S54) : List S80 := (b.filter fun c => decide ((zgy at_ c.f0).f0 ≠ 0)).map fun c => ⟨zgy at_ c.f0, c⟩
def stS (l : List S80) : List S80 := (Go.Stb.stable sw_lt l.toArray).toList
def WkS (l : List S80) : Prop := l.Pairwise (fun a b => ¬ Lt b.f0 a.f0)
theorem swo_sw : Go.Sort.SWO sw_lt where
 irrefl x := decide_eq_false (fun h => Lt.irrefl _ (zgq.1 h))
 trans x y z h1 h2 := decide_eq_true (zgq.2 ((zgq.1 (of_decide_eq_true h1)).trans (zgq.1 (of_decide_eq_true h2))))
 ntrans x y z h1 h2 := by
  have h1 := of_decide_eq_false h1
  have h2 := of_decide_eq_false h2
  refine decide_eq_false (fun h => ?_)
  have h := zgq.1 h
  rcases Lt.tri x.f0 y.f0 with h3 | h3 | h3
  ·exact h1 (zgq.2 h3)
  ·rw [h3] at h; exact h2 (zgq.2 h)
  ·exact h2 (zgq.2 (h3.trans h))
theorem stS_spec (l : List S80) : (stS l).Perm l ∧ WkS (stS l) := by
 obtain ⟨⟨h1, _, h2⟩, h3⟩ := Go.Stb.stable_spec swo_sw l.toArray
 constructor
 ·rw [← h1, Array.extract_size, h1, Array.extract_size] at h2
  have h4 : (Go.Stb.stable sw_lt l.toArray).toList.Perm l := by simpa using h2
  exact h4
 ·unfold WkS stS
  rw [List.pairwise_iff_getElem]
  intro i j hi hj hij
  rw [Array.length_toList] at hi hj
  have := h3 i j (Nat.zero_le _) hij (by rw [← h1]; exact hj)
  rw [getElem!_pos (Go.Stb.stable sw_lt l.toArray) i hi, getElem!_pos (Go.Stb.stable sw_lt l.toArray) j hj] at this
  have := of_decide_eq_false this
  rw [Array.getElem_toList, Array.getElem_toList]
  exact fun h => this (zgq.2 h)
theorem sides1_ev (x y : S80) : Ev (fun k => zdm.f k x.f0.f0 x.f0.f1 x.f0.f2 x.f1.f0 x.f1.f1 y.f0.f0 y.f0.f1 y.f0.f2 y.f1.f0 y.f1.f1) (sw_v x.f0 y.f0) := Ev.bind (cmp_ev x.f0 y.f0) (Ev.pure _)
theorem stS_ev (l : List S80) (hl : l.length ≤ 1000000) : Ev (fun k => zbk.f k l) (stS l) := by
 obtain ⟨k0, h0⟩ := ev_all (z80 :: l) (P := fun x k => ∀ y ∈ z80 :: l, zdm.f k x.f0.f0 x.f0.f1 x.f0.f2 x.f1.f0 x.f1.f1 y.f0.f0 y.f0.f1 y.f0.f2 y.f1.f0 y.f1.f1 = some (sw_v x.f0 y.f0)) (fun x hx => ev_all (z80 :: l) (P := fun y k => zdm.f k x.f0.f0 x.f0.f1 x.f0.f2 x.f1.f0 x.f1.f1 y.f0.f0 y.f0.f1 y.f0.f2 y.f1.f0 y.f1.f1 = some (sw_v x.f0 y.f0)) (fun y hy => by have := sides1_ev x y; exact this))
 refine ⟨k0, fun k hk => ?_⟩
 show zbk.f k l = _
 unfold zbk.f
 exact if_pos ⟨hl, h0 k hk⟩
def sidesS (b : List S54) (at_ : Int) : List S80 × Bool := if b.all (hasAt at_) = true then (stS (zhv at_ b), true) else ([], false)
theorem sides_go (at_ : Int) (b : List S54) (hb : b.length ≤ 1000000) : ∀ (t : List S54) (i : Nat) (acc : List S80), b.drop i = t → acc.length ≤ i → i ≤ b.length → Ev (fun k => zby.l0 k at_ acc b (b.length : Int) (i : Int)) (if t.all (hasAt at_) = true then (stS (acc ++ zhv at_ t), true) else ([], false))
 | [], i, acc, h, ha, hi => by
  apply Ev.succ
  simp only [zby.l0]
  apply Ev.neg (dn h)
  rw [show ([] : List S54).all (hasAt at_) = true from rfl, if_pos rfl, show acc ++ zhv at_ [] = acc by simp [zhv]]
  exact Ev.bind (stS_ev acc (by omega)) (Ev.pure _)
 | c :: t, i, acc, h, ha, hi => by
  obtain ⟨h1, h2, h3, h4, h5⟩ := ds h
  have e : zah b (i : Int) = c := h2 _
  apply Ev.succ
  simp only [zby.l0]
  rw [e, ws (by omega)]
  refine Ev.pos h1 (Ev.pos (nn i) (Ev.pos h1 ?_))
  rw [List.all_cons]
  by_cases q1 : at_ < 0
  ·rw [if_neg (by simp [hasAt]; omega)]
   exact Ev.pos q1 (Ev.pure _)
  apply Ev.neg q1
  by_cases q2 : at_ ≥ (c.f0.length : Int)
  ·rw [if_neg (by simp [hasAt]; omega)]
   exact Ev.pos q2 (Ev.pure _)
  refine Ev.neg q2 (Ev.pos (by omega) (Ev.pos (by omega) ?_))
  rw [show hasAt at_ c = true by simp [hasAt]; omega, Bool.true_and]
  by_cases q3 : (zak c.f0 at_).f0 = 0
  ·apply Ev.pos q3
   have := sides_go at_ b hb t (i + 1) acc h3 (by omega) (by omega)
   rw [show zhv at_ (c :: t) = zhv at_ t by unfold zhv; rw [List.filter_cons_of_neg (by simp [zgy, q3])]]
   exact this
  ·apply Ev.neg q3
   apply Ev.pos (by omega)
   have := sides_go at_ b hb t (i + 1) (acc ++ [⟨zgy at_ c.f0, c⟩]) h3 (by simp; omega) (by omega)
   rw [show acc ++ zhv at_ (c :: t) = (acc ++ [⟨zgy at_ c.f0, c⟩]) ++ zhv at_ t by unfold zhv; rw [List.filter_cons_of_pos (by simp [zgy, q3])]; simp]
   exact this
theorem sides_ev (b : List S54) (at_ : Int) (hb : b.length ≤ 1000000) : Ev (fun k => zby.f k b at_) (sidesS b at_) := sides_go at_ b hb b 0 [] rfl (Nat.le_refl _) (Nat.zero_le _)
theorem tdiv_lt {x b : Int} (hb : b ≠ 0) : (Int.tdiv x b) * b - x < (b.natAbs : Int) ∧ x - (Int.tdiv x b) * b < (b.natAbs : Int) := by
 have h1 := Int.mul_tdiv_add_tmod x b
 have h2 : (Int.tmod x b).natAbs < b.natAbs := by
  rw [Int.natAbs_tmod]; exact Nat.mod_lt _ (by omega)
 rw [Int.mul_comm] at h1
 generalize hp : Int.tdiv x b * b = p at h1 ⊢
 omega
theorem product_eq (a b : Int) (ha : fit a = true) (hb : fit b = true) (h0 : b ≠ 0) : ∃ n, zey.f a b = some (n, fit (a * b)) ∧ (fit (a * b) = true → n = a * b) := by
 have ra := zji ha
 have rb := zji hb
 unfold zey.f
 rw [if_neg h0]
 have hw : ∀ m, wrap64 (Int.tdiv m b) = Int.tdiv m b ∨ True := fun _ => .inr trivial
 by_cases hf : fit (a * b) = true
 ·have rf := zji hf
  have e1 : wrap64 (a * b) = a * b := w64 (by omega) (by omega)
  rw [e1, Int.mul_tdiv_cancel _ h0, w64 (by omega) (by omega), if_pos rfl, if_pos (by omega), hf]
  exact ⟨a * b, by rw [decide_eq_true (by omega)], fun _ => rfl⟩
 ·have hf' : fit (a * b) = false := by simpa using hf
  rw [hf']
  by_cases hs : -9223372036854775808 ≤ a * b ∧ a * b < 9223372036854775808
  ·have e1 : wrap64 (a * b) = a * b := w64 hs.1 hs.2
   rw [e1, Int.mul_tdiv_cancel _ h0, w64 (by omega) (by omega), if_pos rfl]
   refine ⟨a * b, ?_, fun h => by cases h⟩
   by_cases hg : a * b ≥ -1099511627776
   ·rw [if_pos hg, decide_eq_false (fun hh => hf (fit_iff.2 ⟨hg, hh⟩))]
   ·rw [if_neg hg]
  ·refine ⟨wrap64 (a * b), ?_, fun h => by cases h⟩
   generalize hm : wrap64 (a * b) = m
   have hmr : -9223372036854775808 ≤ m ∧ m < 9223372036854775808 := by rw [← hm]; unfold wrap64; omega
   by_cases hq : wrap64 (Int.tdiv m b) = a
   ·rw [if_pos hq]
    have hd : Int.tdiv m b = a := by
     have h3 : (Int.tdiv m b).natAbs ≤ m.natAbs := by rw [Int.natAbs_tdiv]; exact Nat.div_le_self _ _
     by_cases h4 : Int.tdiv m b < 9223372036854775808
     ·rw [← hq]; exact (w64 (by omega) h4).symm
     ·exfalso
      have : Int.tdiv m b = 9223372036854775808 := by omega
      rw [this] at hq
      have : wrap64 9223372036854775808 = -9223372036854775808 := by unfold wrap64; decide
      omega
    have ht := tdiv_lt (x := m) h0
    rw [hd] at ht
    generalize a * b = p at ht hs
    by_cases hg : m ≥ -1099511627776
    ·rw [if_pos hg, decide_eq_false (by omega)]
    ·rw [if_neg hg]
   ·rw [if_neg hq]
theorem pw_getS {l : List S80} (hp : WkS l) {i j : Nat} {a b : S80} (hij : i < j) (ha : l[i]? = some a) (hb : l[j]? = some b) : ¬ Lt b.f0 a.f0 := by
 obtain ⟨hi, rfl⟩ := List.getElem?_eq_some_iff.1 ha
 obtain ⟨hj, rfl⟩ := List.getElem?_eq_some_iff.1 hb
 exact List.pairwise_iff_getElem.1 hp i j hi hj hij
theorem searchS_go (l : List S80) (hll : l.length ≤ 1000000) (v : S48) (hp : WkS l) : ∀ (n lo hi : Nat), hi - lo ≤ n → lo ≤ hi → hi ≤ l.length →
  (∀ i c, i < lo → l[i]? = some c → Lt c.f0 v) → (∀ i c, hi ≤ i → l[i]? = some c → ¬ Lt c.f0 v) →
  ∃ (p : Nat) (q : Bool), p ≤ l.length ∧ (∀ i c, i < p → l[i]? = some c → Lt c.f0 v) ∧ (∀ i c, p ≤ i → l[i]? = some c → ¬ Lt c.f0 v) ∧
   Ev (fun k => zad.l0 k l (l.length : Int) (lo : Int) (hi : Int) v.f0 v.f1 v.f2) ((p : Int), q)
 | n, lo, hi, hn, h1, h2, ha, hb => by
  by_cases hlt : lo < hi
  ·obtain ⟨n, rfl⟩ : ∃ m, n = m + 1 := ⟨n - 1, by omega⟩
   obtain ⟨m, hm⟩ : ∃ m : Nat, m = (lo + hi) / 2 := ⟨_, rfl⟩
   have hm' : ((lo : Int) + (hi : Int)) / 2 = (m : Int) := by omega
   have hml : m < l.length := by omega
   obtain ⟨c, hc⟩ : ∃ c, l[m]? = some c := ⟨_, List.getElem?_eq_getElem hml⟩
   have ec : zat l (m : Int) = c := by
    unfold zat
    rw [Int.toNat_natCast, List.getD_eq_getElem?_getD, hc]
    rfl
   have hs : Ev (fun k => zda.f k c.f0.f0 c.f0.f1 c.f0.f2 c.f1.f0 c.f1.f1 v.f0 v.f1 v.f2) (cmpS c.f0 v) := Ev.bind (cmp_ev c.f0 v) (Ev.pure _)
   by_cases hcr : Lt c.f0 v
   ·obtain ⟨p, q, p1, p2, p3, p4⟩ := searchS_go l hll v hp n (m + 1) hi (by omega) (by omega) h2 (fun i d hi' hd => by
      rcases Nat.lt_or_ge i m with h | h
      ·rcases Lt.tri d.f0 v with h' | h' | h'
       ·exact h'
       ·exact absurd (h' ▸ hcr) (pw_getS hp h hd hc)
       ·exact absurd (hcr.trans h') (pw_getS hp h hd hc)
      ·obtain rfl : i = m := by omega
       rw [hc] at hd; injection hd with hd; rw [← hd]; exact hcr) hb
    refine ⟨p, q, p1, p2, p3, ?_⟩
    apply Ev.succ
    simp only [zad.l0]
    rw [half (by omega) (by omega) (by omega) (by omega), hm', ec, ws (by omega)]
    exact Ev.pos (by omega) (Ev.pos (by omega) (Ev.pos (by omega) (Ev.bind hs (Ev.pos (zgq.2 hcr) p4))))
   ·obtain ⟨p, q, p1, p2, p3, p4⟩ := searchS_go l hll v hp n lo m (by omega) (by omega) (by omega) ha (fun i d hi' hd => by
      rcases Nat.lt_or_ge m i with h | h
      ·intro h'
       rcases Lt.tri c.f0 v with h3 | h3 | h3
       ·exact hcr h3
       ·exact pw_getS hp h hc hd (h3 ▸ h')
       ·exact pw_getS hp h hc hd (h'.trans h3)
      ·obtain rfl : i = m := by omega
       rw [hc] at hd; injection hd with hd; rw [← hd]; exact hcr)
    refine ⟨p, q, p1, p2, p3, ?_⟩
    apply Ev.succ
    simp only [zad.l0]
    rw [half (by omega) (by omega) (by omega) (by omega), hm', ec, ws (by omega)]
    exact Ev.pos (by omega) (Ev.pos (by omega) (Ev.pos (by omega) (Ev.bind hs (Ev.neg (fun h => hcr (zgq.1 h)) p4))))
  ·obtain rfl : lo = hi := by omega
   by_cases hl2 : lo < l.length
   ·obtain ⟨c, hc⟩ : ∃ c, l[lo]? = some c := ⟨_, List.getElem?_eq_getElem hl2⟩
    have ec : zat l (lo : Int) = c := by
     unfold zat
     rw [Int.toNat_natCast, List.getD_eq_getElem?_getD, hc]
     rfl
    have hs : Ev (fun k => zda.f k c.f0.f0 c.f0.f1 c.f0.f2 c.f1.f0 c.f1.f1 v.f0 v.f1 v.f2) (cmpS c.f0 v) := Ev.bind (cmp_ev c.f0 v) (Ev.pure _)
    refine ⟨lo, (cmpS c.f0 v == 0), h2, ha, hb, ?_⟩
    apply Ev.succ
    simp only [zad.l0]
    apply Ev.neg (by omega)
    rw [ec]
    exact Ev.pos (by omega) (Ev.pos (by omega) (Ev.pos (by omega) (Ev.bind hs (Ev.pure _))))
   ·refine ⟨lo, false, h2, ha, hb, ?_⟩
    apply Ev.succ
    simp only [zad.l0]
    apply Ev.neg (by omega)
    apply Ev.neg (by omega)
    exact Ev.pure _
def mkJ (a s : S80) : S54 := ⟨a.f1.f0 ++ s.f1.f0, a.f1.f1 * s.f1.f1⟩
def zhu (R : List S80) (a : S80) : List S54 := (R.filter fun s => decide (s.f0 = a.f0)).map (mkJ a)
def joinL (L R : List S80) : List S54 := L.flatMap (zhu R)
def okS (l : List S80) : Prop := l.length ≤ 500 ∧ ∀ s ∈ l, s.f1.f0.length ≤ 100000 ∧ fit s.f1.f1 = true ∧ s.f1.f1 ≠ 0
theorem part_len (R : List S80) (a : S80) : (zhu R a).length ≤ R.length := by
 unfold zhu; rw [List.length_map]; exact List.length_filter_le _ _
theorem join_len (R : List S80) : ∀ L : List S80, (joinL L R).length ≤ L.length * R.length
 | [] => by simp [joinL]
 | a :: L => by
  have := join_len R L
  have h2 := part_len R a
  unfold joinL at this ⊢
  rw [List.flatMap_cons, List.length_append, List.length_cons, Nat.add_mul]; omega
theorem l1_go (R : List S80) (hR : okS R) (hW : WkS R) (L : List S80) (n : Int) (j : Nat) (a : S80) (ha : a.f1.f0.length ≤ 100000) (hfa : fit a.f1.f1 = true)
  (V : List S54 × Int) :
  ∀ (t : List S80) (i : Nat) (acc : List S54), ((zhu t a).all (fun c => fit c.f1) = true → Ev (fun k => zaj.l0 k R (acc ++ zhu t a) L n (((j + 1 : Nat) : Int))) V) → R.drop i = t → (∀ s ∈ t, ¬ Lt s.f0 a.f0) → acc.length ≤ j * 500 + i → j ≤ 1000 → i ≤ 500 →
   Ev (fun k => zaj.l1 k R acc (i : Int) L n (j : Int) a.f0.f0 a.f0.f1 a.f0.f2 a.f1.f0 a.f1.f1) (if (zhu t a).all (fun c => fit c.f1) = true then V else ([], 14))
 | [], i, acc, hG, h, hn, hl, hj, hi => by
  apply Ev.succ
  simp only [zaj.l1]
  apply Ev.neg (dn h)
  apply Ev.succ
  simp only [zaj.j4]
  apply Ev.neg (by decide)
  have := hG rfl
  rw [show zhu [] a = [] from rfl, List.append_nil] at this
  rw [ws (by omega)]
  exact this
 | s :: t, i, acc, hG, h, hn, hl, hj, hi => by
  obtain ⟨h1, h2, h3, h4, h5⟩ := ds h
  have e : zat R (i : Int) = s := h2 _
  have hsR : s ∈ R := List.mem_of_getElem? h5
  obtain ⟨r1, r2, r3⟩ := hR.2 s hsR
  apply Ev.succ
  simp only [zaj.l1]
  rw [e, same_eq]
  refine Ev.pos h1 (Ev.pos (nn i) ?_)
  apply Ev.succ
  simp only [zaj.j4]
  rw [e, ws (by omega)]
  by_cases hk : s.f0 = a.f0
  ·rw [decide_eq_true hk]
   refine Ev.pos rfl (Ev.pos (nn i) (Ev.pos h1 ?_))
   obtain ⟨m, hm1, hm2⟩ := product_eq a.f1.f1 s.f1.f1 hfa r2 r3
   rw [hm1]
   simp only [Option.bind_some]
   have hpc : zhu (s :: t) a = mkJ a s :: zhu t a := by unfold zhu; rw [List.filter_cons_of_pos (by simpa using hk), List.map_cons]
   rw [hpc, List.all_cons] at hG
   rw [hpc, List.all_cons]
   by_cases hf : fit (a.f1.f1 * s.f1.f1) = true
   ·rw [show fit (mkJ a s).f1 = true from hf, Bool.true_and] at hG
    rw [show fit (mkJ a s).f1 = true from hf, Bool.true_and]
    apply Ev.pos hf
    have hc : zct.f [a.f1.f0, s.f1.f0] = some (a.f1.f0 ++ s.f1.f0) := by
     unfold zct.f
     rw [show [a.f1.f0, s.f1.f0].flatten = a.f1.f0 ++ s.f1.f0 by simp, if_pos ⟨by simp, by rw [List.length_append]; omega⟩]
    rw [hc]
    simp only [Option.bind_some]
    apply Ev.pos (by omega)
    have := l1_go R hR hW L n j a ha hfa V t (i + 1) (acc ++ [mkJ a s]) (fun hh => by rw [List.append_assoc]; exact hG hh) h3 (fun x hx => hn x (List.mem_cons_of_mem _ hx)) (by simp; omega) hj (by have := hR.1; omega)
    rw [hm2 hf]
    exact this
   ·have hf' : fit (mkJ a s).f1 = false := Bool.eq_false_iff.2 hf
    rw [hf', Bool.false_and, if_neg (by decide)]
    exact Ev.neg hf (Ev.pure _)
  ·rw [decide_eq_false hk]
   apply Ev.neg (by decide)
   have hgt : Lt a.f0 s.f0 := by
    rcases Lt.tri s.f0 a.f0 with h' | h' | h'
    ·exact absurd h' (hn s List.mem_cons_self)
    ·exact absurd h' hk
    ·exact h'
   have hno : zhu (s :: t) a = [] := by
    unfold zhu
    rw [List.map_eq_nil_iff, List.filter_eq_nil_iff]
    intro x hx
    rcases List.mem_cons.1 hx with rfl | hx
    ·simpa using hk
    ·obtain ⟨q, hq, rfl⟩ := List.getElem_of_mem hx
     have hx2 : R[i + 1 + q]? = some t[q] := by
      rw [← List.getElem?_drop, h3]; exact List.getElem?_eq_getElem hq
     have := pw_getS hW (show i < i + 1 + q by omega) h5 hx2
     intro he
     have he := of_decide_eq_true he
     rw [he] at this; exact this hgt
   rw [hno, List.append_nil] at hG
   rw [hno, ws (by omega)]
   exact hG rfl
def st3 (l : List S54) : List S54 := (Go.Stb.stable s3_lt l.toArray).toList
theorem s3_rowsS : ∀ (a b : List S48), zjf a b = zgi a b
 | [], [] => rfl
 | [], _ :: _ => rfl
 | _ :: _, [] => rfl
 | a :: l, b :: m => by
  simp only [zjf, zgi]
  rw [s3_rowsS l m]
  rfl
theorem s3_sv : s3_lt = sv_lt := by
 funext x y
 show decide (zjf x.f0 y.f0 < 0) = decide (zhk x.f0 y.f0 < 0)
 rw [s3_rowsS, zhf]
theorem st3_spec (l : List S54) : (st3 l).Perm l ∧ Wk (st3 l) := by
 unfold st3; rw [s3_sv]; exact stable_list l
def okR2 (r : List S48) : Prop := r.length ≤ 1000 ∧ ∀ v ∈ r, okV v
theorem st3_ev (l : List S54) (hl : okL l) : Ev (fun k => zbo.f k l) (st3 l) := by
 have hz : okC z54 := ⟨⟨by decide, fun v hv => by cases hv⟩, by decide, by decide⟩
 have hall : ∀ x ∈ z54 :: l, okC x := fun x hx => by
  rcases List.mem_cons.1 hx with rfl | hx
  ·exact hz
  ·exact hl.2 x hx
 obtain ⟨k0, h0⟩ := ev_all (z54 :: l) (P := fun x k => ∀ y ∈ z54 :: l, zdx.f k x.f0 x.f1 y.f0 y.f1 = some (zjf x.f0 y.f0)) (fun x hx => ev_all (z54 :: l) (fun y hy => by
  have := Ev.bind (rows_ev' x.f0 y.f0 (hall x hx).1 (hall y hy).1) (Ev.pure (zgi x.f0 y.f0))
  rw [← s3_rowsS] at this
  exact this))
 refine ⟨k0, fun k hk => ?_⟩
 show zbo.f k l = _
 unfold zbo.f
 exact if_pos ⟨hl.1, h0 k hk⟩
theorem l0_go (R : List S80) (hR : okS R) (hW : WkS R) (L : List S80) (hL : okS L) (hJ : (joinL L R).all (fun c => fit c.f1) = true → okL (joinL L R)) : ∀ (t : List S80) (j : Nat) (acc : List S54), acc.all (fun c => fit c.f1) = true → L.drop j = t → acc.length ≤ j * 500 → acc ++ joinL t R = joinL L R →
  Ev (fun k => zaj.l0 k R acc L (L.length : Int) (j : Int)) (if (joinL t R).all (fun c => fit c.f1) = true then (st3 (joinL L R), 0) else ([], 14))
 | [], j, acc, hac, h, hl, he => by
  apply Ev.succ
  simp only [zaj.l0]
  apply Ev.neg (dn h)
  rw [show joinL [] R = [] from rfl, List.append_nil] at he
  rw [he] at hac ⊢
  exact Ev.bind (st3_ev _ (hJ hac)) (Ev.pure _)
 | a :: t, j, acc, hac, h, hl, he => by
  obtain ⟨h1, h2, h3, h4, h5⟩ := ds h
  have e : zat L (j : Int) = a := h2 _
  have haL : a ∈ L := List.mem_of_getElem? h5
  obtain ⟨r1, r2, r3⟩ := hL.2 a haL
  have hjl := hL.1
  apply Ev.succ
  simp only [zaj.l0]
  rw [e]
  refine Ev.pos h1 (Ev.pos (nn j) (Ev.pos h1 ?_))
  obtain ⟨p, q, p1, p2, p3, p4⟩ := searchS_go R (by have := hR.1; omega) a.f0 hW R.length 0 R.length (by omega) (by omega) (Nat.le_refl _) (fun i c hi => by omega) (fun i c hi hc => by
   rw [List.getElem?_eq_none hi] at hc; cases hc)
  refine Ev.bind p4 ?_
  have hsp : zhu R a = zhu (R.drop p) a := by
   unfold zhu
   conv => lhs; rw [← List.take_append_drop p R]
   rw [List.filter_append]
   rw [show (R.take p).filter (fun s => decide (s.f0 = a.f0)) = [] from ?_]
   ·rfl
   rw [List.filter_eq_nil_iff]
   intro x hx he
   have he := of_decide_eq_true he
   obtain ⟨i, hi, rfl⟩ := List.getElem_of_mem hx
   rw [List.length_take] at hi
   have := p2 i _ (by omega) (List.getElem?_eq_getElem (show i < R.length by omega))
   rw [List.getElem_take] at he
   rw [he] at this
   exact Lt.irrefl _ this
  have hcons : joinL (a :: t) R = zhu R a ++ joinL t R := by unfold joinL; rw [List.flatMap_cons]
  rw [hcons] at he
  have hpl := part_len R a
  have hRl := hR.1
  have := l1_go R hR hW L (L.length : Int) j a r1 r2 (if (joinL t R).all (fun c => fit c.f1) = true then (st3 (joinL L R), 0) else ([], 14)) (R.drop p) p acc (fun hpp => by
    rw [← hsp] at hpp ⊢
    exact l0_go R hR hW L hL hJ t (j + 1) (acc ++ zhu R a) (by rw [List.all_append, hac, hpp]; rfl) h3 (by rw [List.length_append]; omega) (by rw [List.append_assoc]; exact he)) rfl (fun s hs => by
    obtain ⟨q, hq, rfl⟩ := List.getElem_of_mem hs
    exact p3 (p + q) _ (Nat.le_add_right _ _) ((List.getElem?_drop).symm.trans (List.getElem?_eq_getElem hq))) (Nat.le_trans hl (Nat.le_add_right _ _)) (Nat.le_trans (Nat.le_of_lt h4) (Nat.le_trans hjl (by decide))) (Nat.le_trans p1 hRl)
  rw [← hsp] at this
  rw [hcons, List.all_append]
  by_cases hp : (zhu R a).all (fun c => fit c.f1) = true
  ·rw [if_pos hp] at this
   rw [hp, Bool.true_and]
   exact this
  ·rw [if_neg hp] at this
   rw [Bool.not_eq_true] at hp
   rw [hp, Bool.false_and, if_neg (by decide)]
   exact this
def okB (l : List S54) : Prop := okL l ∧ l.length ≤ 200 ∧ ∀ c ∈ l, c.f0.length ≤ 40
def on0 (on : List Int) : Int := rd on 0
def on1 (on : List Int) (wide : Int) : Int := wrap64 (rd on 1 - wide)
def jn (on : List Int) (wide : Int) (l r : List S54) : List S54 := joinL (stS (zhv (on0 on) l)) (stS (zhv (on1 on wide) r))
def zgg (on : List Int) (wide : Int) (l r : List S54) : List S54 × Int :=
 if bagR l = true then if bagR r = true then if (l.any fun c => decide ((c.f0.length : Int) ≠ wide)) = true then ([], 1)
  else if on.length = 0 then (l, 0) else if on.length = 2 then
   (if l.all (hasAt (on0 on)) = true then if r.all (hasAt (on1 on wide)) = true then
     (if (jn on wide l r).all (fun c => fit c.f1) = true then (st3 (jn on wide l r), 0) else ([], 14))
    else ([], 1) else ([], 1))
  else ([], 1) else ([], 1) else ([], 1)
theorem side_mem {at_ : Int} {l : List S54} {s : S80} (h : s ∈ stS (zhv at_ l)) : ∃ c ∈ l, s = ⟨zgy at_ c.f0, c⟩ ∧ (zgy at_ c.f0).f0 ≠ 0 := by
 have h := (stS_spec _).1.mem_iff.1 h
 unfold zhv at h
 obtain ⟨c, hc, rfl⟩ := List.mem_map.1 h
 obtain ⟨h1, h2⟩ := List.mem_filter.1 hc
 exact ⟨c, h1, rfl, of_decide_eq_true h2⟩
theorem side_len (at_ : Int) (l : List S54) : (stS (zhv at_ l)).length ≤ l.length := by
 rw [(stS_spec _).1.length_eq]
 unfold zhv
 rw [List.length_map]; exact List.length_filter_le _ _
theorem side_okS {at_ : Int} {l : List S54} (ho : okB l) (hr : bagR l = true) : okS (stS (zhv at_ l)) := by
 refine ⟨Nat.le_trans (side_len at_ l) (by have := ho.2.1; omega), fun s hs => ?_⟩
 obtain ⟨c, hc, rfl, _⟩ := side_mem hs
 have h1 := (ziv hr).1 c hc
 exact ⟨by have := ho.2.2 c hc; show c.f0.length ≤ 100000; omega, h1.1, h1.2.1⟩
theorem join_mem {L R : List S80} {c : S54} (h : c ∈ joinL L R) : ∃ a ∈ L, ∃ s ∈ R, s.f0 = a.f0 ∧ c = mkJ a s := by
 unfold joinL zhu at h
 obtain ⟨a, ha, h⟩ := List.mem_flatMap.1 h
 obtain ⟨s, hs, rfl⟩ := List.mem_map.1 h
 obtain ⟨h1, h2⟩ := List.mem_filter.1 hs
 exact ⟨a, ha, s, h1, of_decide_eq_true h2, rfl⟩
theorem jn_okL (on : List Int) (wide : Int) {l r : List S54} (hl : okB l) (hr : okB r) (hf : (jn on wide l r).all (fun c => fit c.f1) = true) : okL (jn on wide l r) ∧ (jn on wide l r).length ≤ 40000 ∧ ∀ c ∈ jn on wide l r, c.f0.length ≤ 80 := by
 have hlen : (jn on wide l r).length ≤ 40000 := by
  have h1 := join_len (stS (zhv (on1 on wide) r)) (stS (zhv (on0 on) l))
  have h2 := side_len (on0 on) l
  have h3 := side_len (on1 on wide) r
  have := Nat.mul_le_mul (Nat.le_trans h2 hl.2.1) (Nat.le_trans h3 hr.2.1)
  exact Nat.le_trans h1 this
 have hrow : ∀ c ∈ jn on wide l r, okR c.f0 ∧ c.f0.length ≤ 80 := fun c hc => by
  obtain ⟨a, ha, s, hs, _, rfl⟩ := join_mem hc
  obtain ⟨x, hx, rfl, _⟩ := side_mem ha
  obtain ⟨y, hy, rfl, _⟩ := side_mem hs
  have h1 := hl.2.2 x hx
  have h2 := hr.2.2 y hy
  have h3 : ((mkJ ⟨zgy (on0 on) x.f0, x⟩ ⟨zgy (on1 on wide) y.f0, y⟩).f0).length ≤ 80 := by
   show (x.f0 ++ y.f0).length ≤ 80
   rw [List.length_append]; omega
  refine ⟨⟨by omega, fun v hv => ?_⟩, h3⟩
  rcases List.mem_append.1 hv with h | h
  ·exact (hl.1.2 x hx).1.2 v h
  ·exact (hr.1.2 y hy).1.2 v h
 refine ⟨⟨by omega, fun c hc => ⟨(hrow c hc).1, ?_⟩⟩, hlen, fun c hc => (hrow c hc).2⟩
 have := zji (List.all_eq_true.1 hf c hc)
 omega
theorem input_ev (x0 x1 : ByteArray) (on : List Int) (x3 : List S50) (x4 : List (List S50)) (x5 : List Int) (x6 : List S150) (wide : Int) (l r : List S54) (hl : okB l) (hr : okB r) (ho : on.length ≤ 1000) :
  Ev (fun k => zaj.f k x0 x1 on x3 x4 x5 x6 wide l r) (zgg on wide l r) := by
 have hll := hl.2.1
 have hrl := hr.2.1
 unfold zaj.f zgg
 refine Ev.bind (zis l hl.1) ?_
 by_cases h1 : bagR l = true
 ·rw [if_pos h1]
  apply Ev.pos h1
  refine Ev.bind (zis r hr.1) ?_
  by_cases h2 : bagR r = true
  ·rw [if_pos h2]
   apply Ev.pos h2
   rw [show zba.f l wide = some (l.any fun c => decide ((c.f0.length : Int) ≠ wide)) from if_pos (by omega)]
   simp only [Option.bind_some]
   apply Ev.succ
   simp only [zaj.j0]
   by_cases h3 : (l.any fun c => decide ((c.f0.length : Int) ≠ wide)) = true
   ·rw [if_pos h3]; exact Ev.pos h3 (Ev.pure _)
   rw [if_neg h3]
   apply Ev.neg h3
   by_cases h4 : on.length = 0
   ·rw [if_pos h4]; exact Ev.pos (by omega) (Ev.pure _)
   rw [if_neg h4]
   apply Ev.neg (by omega)
   by_cases h5 : on.length = 2
   ·rw [if_pos h5]
    refine Ev.pos (by omega) (Ev.pos (by omega) ?_)
    refine Ev.bind (sides_ev l (on0 on) (by omega)) ?_
    apply Ev.pos (by omega)
    refine Ev.bind (sides_ev r (on1 on wide) (by omega)) ?_
    unfold sidesS
    by_cases h6 : l.all (hasAt (on0 on)) = true
    ·rw [if_pos h6, if_pos h6]
     apply Ev.pos rfl
     apply Ev.succ
     simp only [zaj.j1]
     by_cases h7 : r.all (hasAt (on1 on wide)) = true
     ·rw [if_pos h7, if_pos h7]
      apply Ev.neg (by simp)
      exact l0_go _ (side_okS hr h2) (stS_spec _).2 _ (side_okS hl h1) (fun hf => (jn_okL on wide hl hr hf).1) _ 0 [] rfl rfl (Nat.zero_le _) rfl
     ·rw [if_neg h7, if_neg h7]
      exact Ev.pos rfl (Ev.pure _)
    ·rw [if_neg h6, if_neg h6]
     apply Ev.neg (by simp)
     apply Ev.succ
     simp only [zaj.j1]
     exact Ev.pos trivial (Ev.pure _)
   ·rw [if_neg h5]
    exact Ev.neg (by omega) (Ev.pure _)
  ·rw [if_neg h2]
   apply Ev.neg h2
   apply Ev.succ
   simp only [zaj.j0]
   exact Ev.pos trivial (Ev.pure _)
 ·rw [if_neg h1]
  apply Ev.neg h1
  apply Ev.succ
  simp only [zaj.j0]
  exact Ev.pos trivial (Ev.pure _)
def Kj (on : List Int) (wide : Int) (a b : List S48) : Bool := decide ((zgy (on0 on) a).f0 ≠ 0) && decide (zgy (on1 on wide) b = zgy (on0 on) a)
theorem fm_perm {α β : Type} {f g : α → List β} (h : ∀ a, (f a).Perm (g a)) : ∀ l : List α, (l.flatMap f).Perm (l.flatMap g)
 | [] => List.Perm.refl _
 | a :: l => by rw [List.flatMap_cons, List.flatMap_cons]; exact (h a).append (fm_perm h l)
theorem joinL_perm {L L' R R' : List S80} (h1 : L.Perm L') (h2 : R.Perm R') : (joinL L R).Perm (joinL L' R') := by
 unfold joinL
 refine (h1.flatMap_right (zhu R)).trans ?_
 exact fm_perm (fun a => by unfold zhu; exact (h2.filter _).map _) L'
theorem joinL_eq (on : List Int) (wide : Int) (r : List S54) : ∀ l : List S54, joinL (zhv (on0 on) l) (zhv (on1 on wide) r) = joinS (Kj on wide) l r
 | [] => rfl
 | c :: l => by
  have ih := joinL_eq on wide r l
  unfold joinS joinL at ih ⊢
  rw [List.flatMap_cons, ← ih]
  unfold zhv at *
  by_cases h : (zgy (on0 on) c.f0).f0 ≠ 0
  ·rw [List.filter_cons_of_pos (by simpa using h), List.map_cons, List.flatMap_cons]
   congr 1
   unfold zhu
   rw [List.filter_map, List.map_map, List.filter_filter]
   have e : (fun a : S54 => (((fun s : S80 => decide (s.f0 = zgy (on0 on) c.f0)) ∘ fun c : S54 => (⟨zgy (on1 on wide) c.f0, c⟩ : S80)) a && decide ((zgy (on1 on wide) a.f0).f0 ≠ 0))) = fun b => Kj on wide c.f0 b.f0 := by
    funext b
    show (decide (zgy (on1 on wide) b.f0 = zgy (on0 on) c.f0) && decide ((zgy (on1 on wide) b.f0).f0 ≠ 0)) = (decide ((zgy (on0 on) c.f0).f0 ≠ 0) && decide (zgy (on1 on wide) b.f0 = zgy (on0 on) c.f0))
    rw [decide_eq_true h, Bool.true_and]
    by_cases he : zgy (on1 on wide) b.f0 = zgy (on0 on) c.f0
    ·rw [he, decide_eq_true h, Bool.and_true]
    ·rw [decide_eq_false he, Bool.false_and]
   rw [e]
   rfl
  ·rw [List.filter_cons_of_neg (by simpa using h)]
   have e : (r.filter fun b => Kj on wide c.f0 b.f0) = [] := by
    rw [List.filter_eq_nil_iff]
    intro b _ hk
    unfold Kj at hk
    rw [decide_eq_false h, Bool.false_and] at hk
    cases hk
   rw [e]
   rfl
theorem jn_perm (on : List Int) (wide : Int) (l r : List S54) : (jn on wide l r).Perm (joinS (Kj on wide) l r) := by
 rw [← joinL_eq]
 exact joinL_perm (stS_spec _).1 (stS_spec _).1
def holdsT (wh : List S50) (row : List S48) : Bool × Int := if wh = [] then (true, 0) else holdsS wh row
theorem holdsT_ev (wh : List S50) (row : List S48) (hc : wh.length ≤ 1000) (hr : row.length ≤ 1000) : Ev (fun k => zdi.f k wh row) (holdsT wh row) := by
 unfold holdsT
 by_cases h : wh = []
 ·subst h
  rw [if_pos rfl]
  unfold zdi.f
  exact Ev.pos (by simp) (Ev.pure _)
 ·rw [if_neg h]
  exact Holds_ev wh row h (by omega) (by omega)
def zgh (row : List S48) : List (List S50) → List S48 × Int
 | [] => ([], 0)
 | c :: cs => if (zgd c row).2 = 0 then (if (zgh row cs).2 = 0 then ((zgd c row).1 :: (zgh row cs).1, 0) else ([], (zgh row cs).2)) else ([], (zgd c row).2)
def rowS (wh : List S50) (cols : List (List S50)) (grp : Bool) (row : List S48) : Option (List S48) × Int :=
 if (holdsT wh row).2 = 0 then if (holdsT wh row).1 = true then if grp = true then (some row, 0) else if (zgh row cols).2 = 0 then (some (zgh row cols).1, 0) else (none, (zgh row cols).2) else (none, 0) else (none, (holdsT wh row).2)
def runS (ρ : List S48 → Option (List S48) × Int) : List S54 → List S54 × Int
 | [] => ([], 0)
 | c :: t => if (ρ c.f0).2 = 0 then (if (runS ρ t).2 = 0 then ((match (ρ c.f0).1 with | some r => [⟨r, c.f1⟩] | none => []) ++ (runS ρ t).1, 0) else ([], (runS ρ t).2)) else ([], (ρ c.f0).2)
theorem runS_ok {ρ : List S48 → Option (List S48) × Int} : ∀ {l : List S54}, (runS ρ l).2 = 0 → (runS ρ l).1 = phi (fun r => (ρ r).1) l
 | [], _ => rfl
 | c :: t, h => by
  simp only [runS] at h ⊢
  by_cases h1 : (ρ c.f0).2 = 0
  ·rw [if_pos h1] at h ⊢
   by_cases h2 : (runS ρ t).2 = 0
   ·rw [if_pos h2]
    have ih := runS_ok (l := t) h2
    rw [ih]
    unfold phi
    rw [List.filterMap_cons]
    cases hq : (ρ c.f0).1 <;> simp [hq]
   ·rw [if_neg h2] at h; exact absurd h h2
  ·rw [if_neg h1] at h; exact absurd h h1
def grpd (g : List Int) (ag : List S150) : Bool := decide ((wrap64 ((ag.length : Int) + (g.length : Int))) > 0)
structure Df where
 x0 : ByteArray
 x1 : ByteArray
 on : List Int
 wh : List S50
 cols : List (List S50)
 g : List Int
 ag : List S150
def Df.row (d : Df) : List S48 → Option (List S48) × Int := rowS d.wh d.cols (grpd d.g d.ag)
def zcw (d : Df) (wide : Int) (l r : List S54) : List S54 × Int :=
 if (zgg d.on wide l r).2 = 0 then (if (runS d.row (zgg d.on wide l r).1).2 = 0 then zix (runS d.row (zgg d.on wide l r).1).1 else ([], (runS d.row (zgg d.on wide l r).1).2)) else ([], (zgg d.on wide l r).2)
def okD (d : Df) : Prop := d.on.length ≤ 1000 ∧ d.wh.length ≤ 1000 ∧ d.cols.length ≤ 20 ∧ ∀ c ∈ d.cols, c.length ≤ 1000
theorem rd_code {cols : List (List S50)} {c : List S50} {cs : List (List S50)} {i : Nat} (h : cols.drop i = c :: cs) : zje cols (i : Int) = c := (ds h).2.1 _
theorem l1_ev (d : Df) (in_ : List S54) (n : Int) (j : Nat) (row : List S48) (cn n2 : Int) (hr : row.length ≤ 1000) (acc : List S54) (hd : okD d) (V : List S54 × Int) (ha : acc.length ≤ 1000000) :
  ∀ (t : List (List S50)) (i : Nat) (out : List S48), d.cols.drop i = t → out.length ≤ i → i ≤ d.cols.length → ((zgh row t).2 = 0 → Ev (fun k => zbf.l0 k (acc ++ [⟨out ++ (zgh row t).1, n2⟩]) in_ n (wrap64 ((j : Int) + 1)) d.x0 d.x1 d.on d.wh d.cols d.g d.ag) V) →
  Ev (fun k => zbf.l1 k acc in_ n (j : Int) d.cols (d.cols.length : Int) (i : Int) d.x0 d.x1 d.on d.wh d.cols d.g d.ag row cn out n2) (if (zgh row t).2 = 0 then V else ([], (zgh row t).2))
 | [], i, out, h, ho, hi, hV => by
  have hV := hV rfl
  rw [show (zgh row []).1 = [] from rfl, List.append_nil] at hV
  apply Ev.succ
  simp only [zbf.l1]
  apply Ev.neg (dn h)
  rw [if_pos (show (zgh row []).2 = 0 from rfl)]
  exact Ev.pos (by omega) hV
 | c :: t, i, out, h, ho, hi, hV => by
  obtain ⟨h1, h2, h3, h4, h5⟩ := ds h
  have hcl := hd.2.2.2 c (List.mem_of_getElem? h5)
  have hcc := hd.2.2.1
  apply Ev.succ
  simp only [zbf.l1]
  rw [rd_code h, ws (by omega)]
  refine Ev.pos h1 (Ev.pos (nn i) (Ev.pos h1 ?_))
  refine Ev.bind (Eval_ev c row (by omega) (by omega)) ?_
  simp only [Go.Proofs.YtnggdcdiachkpaaDoor.Pure.out]
  by_cases he : (zgd c row).2 = 0
  ·apply Ev.pos he
   apply Ev.pos (by omega)
   have hcs : zgh row (c :: t) = if (zgh row t).2 = 0 then ((zgd c row).1 :: (zgh row t).1, 0) else ([], (zgh row t).2) := by simp only [zgh]; rw [if_pos he]
   have := l1_ev d in_ n j row cn n2 hr acc hd V ha t (i + 1) (out ++ [(zgd c row).1]) h3 (by simp; omega) (by omega) (fun hh => by
    rw [hcs, if_pos hh] at hV
    have := hV rfl
    rw [List.append_assoc]
    exact this)
   rw [hcs]
   by_cases hh : (zgh row t).2 = 0
   ·rw [if_pos hh] at this ⊢
    rw [if_pos rfl]
    exact this
   ·rw [if_neg hh] at this ⊢
    rw [if_neg hh]
    exact this
  ·apply Ev.neg he
   have hcs : zgh row (c :: t) = ([], (zgd c row).2) := by simp only [zgh]; rw [if_neg he]
   rw [hcs, if_neg he]
   exact Ev.pure _
theorem colsS_ok {row : List S48} : ∀ {cs : List (List S50)}, (zgh row cs).1.length ≤ cs.length ∧ ∀ v ∈ (zgh row cs).1, okV v
 | [] => ⟨Nat.le_refl _, fun v hv => by cases hv⟩
 | c :: cs => by
  have ih := colsS_ok (row := row) (cs := cs)
  simp only [zgh]
  by_cases h1 : (zgd c row).2 = 0
  ·rw [if_pos h1]
   by_cases h2 : (zgh row cs).2 = 0
   ·rw [if_pos h2]
    refine ⟨by simp; exact ih.1, fun v hv => ?_⟩
    rcases List.mem_cons.1 hv with rfl | hv
    ·exact vR_okV (evalTop_right c row)
    ·exact ih.2 v hv
   ·rw [if_neg h2]; exact ⟨Nat.zero_le _, fun v hv => by cases hv⟩
  ·rw [if_neg h1]; exact ⟨Nat.zero_le _, fun v hv => by cases hv⟩
theorem rowS_ok {wh : List S50} {cols : List (List S50)} {g : Bool} {row r : List S48} (h : (rowS wh cols g row).1 = some r) (hr : okR row) (hc : cols.length ≤ 1000) : okR r := by
 unfold rowS at h
 split at h
 ·split at h
  ·split at h
   ·injection h with h; rw [← h]; exact hr
   ·split at h
    ·injection h with h; rw [← h]; exact ⟨Nat.le_trans colsS_ok.1 hc, colsS_ok.2⟩
    ·cases h
  ·cases h
 ·cases h
theorem phi_len (φ : List S48 → Option (List S48)) (l : List S54) : (phi φ l).length ≤ l.length := List.length_filterMap_le _ _
theorem runS_okL {d : Df} (hd : okD d) {l : List S54} (hl : okL l) : okL (phi (fun r => (d.row r).1) l) := by
 refine ⟨Nat.le_trans (phi_len _ l) hl.1, fun x hx => ?_⟩
 unfold phi at hx
 obtain ⟨c, hc, hx⟩ := List.mem_filterMap.1 hx
 have hx : Option.map (fun r => (⟨r, c.f1⟩ : S54)) (d.row c.f0).1 = some x := hx
 cases hr : (d.row c.f0).1 with
 | none => rw [hr] at hx; cases hx
 | some r =>
  rw [hr] at hx
  simp only [Option.map_some, Option.some.injEq] at hx
  subst hx
  exact ⟨rowS_ok hr (hl.2 c hc).1 (by have := hd.2.2.1; omega), (hl.2 c hc).2⟩
theorem rows_l0 (d : Df) (hd : okD d) (in_ : List S54) (hin : okL in_) (hlen : in_.length ≤ 500000) : ∀ (t : List S54) (j : Nat) (acc : List S54), in_.drop j = t → acc.length ≤ j → j ≤ in_.length → ((runS d.row t).2 = 0 → acc ++ (runS d.row t).1 = phi (fun r => (d.row r).1) in_) →
  Ev (fun k => zbf.l0 k acc in_ (in_.length : Int) (j : Int) d.x0 d.x1 d.on d.wh d.cols d.g d.ag) (if (runS d.row t).2 = 0 then zix (phi (fun r => (d.row r).1) in_) else ([], (runS d.row t).2))
 | [], j, acc, h, ha, hj, he => by
  have he := he rfl
  rw [show (runS d.row []).1 = [] from rfl, List.append_nil] at he
  apply Ev.succ
  simp only [zbf.l0]
  apply Ev.neg (dn h)
  rw [if_pos (show (runS d.row []).2 = 0 from rfl), ← he]
  have := sort_ev acc (he ▸ runS_okL hd hin)
  exact Ev.bind this (Ev.pure _)
 | c :: t, j, acc, h, ha, hj, he => by
  obtain ⟨h1, h2, h3, h4, h5⟩ := ds h
  have e : zah in_ (j : Int) = c := h2 _
  have hc := hin.2 c (List.mem_of_getElem? h5)
  have hr := hc.1.1
  apply Ev.succ
  simp only [zbf.l0]
  rw [e]
  refine Ev.pos h1 (Ev.pos (nn j) (Ev.pos h1 ?_))
  refine Ev.bind (holdsT_ev d.wh c.f0 hd.2.1 hr) ?_
  by_cases q1 : (holdsT d.wh c.f0).2 = 0
  ·apply Ev.pos q1
   by_cases q2 : (holdsT d.wh c.f0).1 = true
   ·apply Ev.pos q2
    refine Ev.bind (Ev.of rfl) ?_
    by_cases q3 : grpd d.g d.ag = true
    ·have hrow : d.row c.f0 = (some c.f0, 0) := by unfold Df.row rowS; rw [if_pos q1, if_pos q2, if_pos q3]
     have hrun : runS d.row (c :: t) = if (runS d.row t).2 = 0 then ([c] ++ (runS d.row t).1, 0) else ([], (runS d.row t).2) := by simp only [runS, hrow]; rfl
     apply Ev.pos q3
     apply Ev.pos (by omega)
     rw [ws (by omega)]
     have := rows_l0 d hd in_ hin hlen t (j + 1) (acc ++ [c]) h3 (by simp; omega) (by omega) (fun hh => by
      rw [if_pos hh] at hrun
      rw [hrun] at he
      have := he rfl
      rw [List.append_assoc]; exact this)
     by_cases hh : (runS d.row t).2 = 0
     ·rw [if_pos hh] at this hrun
      rw [hrun, if_pos rfl]; exact this
     ·rw [if_neg hh] at this hrun
      rw [hrun, if_neg hh]; exact this
    ·apply Ev.neg q3
     have hrun : (zgh c.f0 d.cols).2 = 0 → runS d.row (c :: t) = if (runS d.row t).2 = 0 then ([⟨(zgh c.f0 d.cols).1, c.f1⟩] ++ (runS d.row t).1, 0) else ([], (runS d.row t).2) := fun hh => by
      have hrow : d.row c.f0 = (some (zgh c.f0 d.cols).1, 0) := by unfold Df.row rowS; rw [if_pos q1, if_pos q2, if_neg q3, if_pos hh]
      simp only [runS, hrow]; rfl
     have := l1_ev d in_ (in_.length : Int) j c.f0 c.f1 c.f1 hr acc hd (if (runS d.row t).2 = 0 then zix (phi (fun r => (d.row r).1) in_) else ([], (runS d.row t).2)) (by omega) d.cols 0 [] rfl (Nat.le_refl _) (Nat.zero_le _) (fun hh => by
      rw [ws (by omega)]
      have hrun := hrun hh
      exact rows_l0 d hd in_ hin hlen t (j + 1) _ h3 (by simp; omega) (by omega) (fun hh => by
       rw [if_pos hh] at hrun
       rw [hrun] at he
       have := he rfl
       rw [List.append_assoc]; exact this))
     by_cases hh : (zgh c.f0 d.cols).2 = 0
     ·have hrun := hrun hh
      rw [if_pos hh] at this
      by_cases h9 : (runS d.row t).2 = 0
      ·rw [if_pos h9] at this hrun
       rw [hrun, if_pos rfl]; exact this
      ·rw [if_neg h9] at this hrun
       rw [hrun, if_neg h9]; exact this
     ·have hrow : d.row c.f0 = (none, (zgh c.f0 d.cols).2) := by unfold Df.row rowS; rw [if_pos q1, if_pos q2, if_neg q3, if_neg hh]
      have hrun : runS d.row (c :: t) = ([], (zgh c.f0 d.cols).2) := by simp only [runS, hrow]; rw [if_neg hh]
      rw [if_neg hh] at this
      rw [hrun, if_neg hh]
      exact this
   ·apply Ev.neg q2
    have hrow : d.row c.f0 = (none, 0) := by unfold Df.row rowS; rw [if_pos q1, if_neg q2]
    have hrun : runS d.row (c :: t) = if (runS d.row t).2 = 0 then ([] ++ (runS d.row t).1, 0) else ([], (runS d.row t).2) := by simp only [runS, hrow]; rfl
    rw [ws (by omega)]
    have := rows_l0 d hd in_ hin hlen t (j + 1) acc h3 (by omega) (by omega) (fun hh => by
     rw [if_pos hh] at hrun
     rw [hrun] at he
     exact he rfl)
    by_cases hh : (runS d.row t).2 = 0
    ·rw [if_pos hh] at this hrun
     rw [hrun, if_pos rfl]; exact this
    ·rw [if_neg hh] at this hrun
     rw [hrun, if_neg hh]; exact this
  ·have hrow : d.row c.f0 = (none, (holdsT d.wh c.f0).2) := by unfold Df.row rowS; rw [if_neg q1]
   have hrun : runS d.row (c :: t) = ([], (holdsT d.wh c.f0).2) := by simp only [runS, hrow]; rw [if_neg q1]
   rw [hrun, if_neg q1]
   exact Ev.neg q1 (Ev.pure _)
theorem input_okL {on : List Int} {wide : Int} {l r : List S54} (hl : okB l) (hr : okB r) (h : (zgg on wide l r).2 = 0) : okL (zgg on wide l r).1 ∧ (zgg on wide l r).1.length ≤ 40000 := by
 revert h
 unfold zgg
 repeat' split
 all_goals intro h
 all_goals first | (exact absurd h (by decide)) | (exact ⟨hl.1, by have := hl.2.1; show l.length ≤ 40000; omega⟩) | skip
 rename_i hf
 have hj := jn_okL on wide hl hr hf
 have hp := (st3_spec (jn on wide l r)).1
 exact ⟨⟨by rw [hp.length_eq]; exact hj.1.1, fun c hc => hj.1.2 c (hp.mem_iff.1 hc)⟩, by rw [hp.length_eq]; exact hj.2.1⟩
theorem zih (d : Df) (hd : okD d) (wide : Int) (l r : List S54) (hl : okB l) (hr : okB r) : Ev (fun k => zbf.f k d.x0 d.x1 d.on d.wh d.cols d.g d.ag wide l r) (zcw d wide l r) := by
 unfold zbf.f zcw
 refine Ev.bind (input_ev d.x0 d.x1 d.on d.wh d.cols d.g d.ag wide l r hl hr hd.1) ?_
 by_cases h : (zgg d.on wide l r).2 = 0
 ·rw [if_pos h]
  apply Ev.pos h
  have hi := input_okL hl hr h
  have := rows_l0 d hd _ hi.1 (by have := hi.2; omega) (zgg d.on wide l r).1 0 [] rfl (Nat.le_refl _) (Nat.zero_le _) (fun hh => by rw [List.nil_append]; exact runS_ok hh)
  by_cases hh : (runS d.row (zgg d.on wide l r).1).2 = 0
  ·rw [if_pos hh] at this ⊢
   rw [runS_ok hh]; exact this
  ·rw [if_neg hh] at this ⊢
   exact this
 ·rw [if_neg h]
  exact Ev.neg h (Ev.pure _)
def zcn (d : Df) (wide : Int) (l r dl dr : List S54) : List S54 × Int :=
 if d.on.length = 0 then zcw d wide dl []
 else if (zcw d wide dl r).2 = 0 then if (zcw d wide l dr).2 = 0 then if (zcw d wide dl dr).2 = 0 then sumS [(zcw d wide dl r).1, (zcw d wide l dr).1, (zcw d wide dl dr).1]
  else ([], (zcw d wide dl dr).2) else ([], (zcw d wide l dr).2) else ([], (zcw d wide dl r).2)
theorem zfa : okB [] := ⟨⟨by decide, fun c hc => by cases hc⟩, by decide, fun c hc => by cases hc⟩
theorem zfr {d : Df} (hd : okD d) {wide : Int} {l r : List S54} (hl : okB l) (hr : okB r) : okL (zcw d wide l r).1 ∧ (zcw d wide l r).1.length ≤ 40000 := by
 have hz : okL ([] : List S54) ∧ ([] : List S54).length ≤ 40000 := ⟨zfa.1, by decide⟩
 unfold zcw
 by_cases h : (zgg d.on wide l r).2 = 0
 ·rw [if_pos h]
  by_cases h2 : (runS d.row (zgg d.on wide l r).1).2 = 0
  ·rw [if_pos h2, runS_ok h2]
   have hi := input_okL hl hr h
   have ho := runS_okL hd hi.1
   exact ⟨sortS_okL ho, Nat.le_trans (zjb _).1 (Nat.le_trans (phi_len _ _) hi.2)⟩
  ·rw [if_neg h2]; exact hz
 ·rw [if_neg h]; exact hz
theorem rows14_right (d : Df) (wide : Int) (l r : List S54) : bagR (zcw d wide l r).1 = true := by
 unfold zcw
 split
 ·split
  ·exact sortS_right
  ·rfl
 ·rfl
theorem zgv (d : Df) (hd : okD d) (wide : Int) (l r dl dr : List S54) (hl : okB l) (hr : okB r) (hdl : okB dl) (hdr : okB dr) :
  Ev (fun k => zbm.f k d.x0 d.x1 d.on d.wh d.cols d.g d.ag wide l r dl dr) (zcn d wide l r dl dr) := by
 unfold zbm.f zcn
 by_cases h0 : d.on.length = 0
 ·rw [if_pos h0]
  exact Ev.pos (by omega) (Ev.bind (zih d hd wide dl [] hdl zfa) (Ev.pure _))
 ·rw [if_neg h0]
  apply Ev.neg (by omega)
  refine Ev.bind (zih d hd wide dl r hdl hr) ?_
  by_cases h1 : (zcw d wide dl r).2 = 0
  ·rw [if_pos h1]
   apply Ev.pos h1
   refine Ev.bind (zih d hd wide l dr hl hdr) ?_
   by_cases h2 : (zcw d wide l dr).2 = 0
   ·rw [if_pos h2]
    apply Ev.pos h2
    refine Ev.bind (zih d hd wide dl dr hdl hdr) ?_
    by_cases h3 : (zcw d wide dl dr).2 = 0
    ·rw [if_pos h3]
     apply Ev.pos h3
     have o1 := zfr hd (wide := wide) hdl hr
     have o2 := zfr hd (wide := wide) hl hdr
     have o3 := zfr hd (wide := wide) hdl hdr
     refine Ev.bind (sum_ev _ (show 3 ≤ 1000000 by decide) (fun b hb => ?_) ?_) (Ev.pure _)
     ·rcases List.mem_cons.1 hb with rfl | hb
      ·exact o1.1
      ·rcases List.mem_cons.1 hb with rfl | hb
       ·exact o2.1
       ·rw [List.mem_singleton.1 hb]; exact o3.1
     ·have h4 := o1.2; have h5 := o2.2; have h6 := o3.2
      simp only [List.flatten_cons, List.flatten_nil, List.length_append, List.length_nil]; omega
    ·rw [if_neg h3]; exact Ev.neg h3 (Ev.pure _)
   ·rw [if_neg h2]; exact Ev.neg h2 (Ev.pure _)
  ·rw [if_neg h1]; exact Ev.neg h1 (Ev.pure _)
theorem sumS_right (ls : List (List S54)) : bagR (sumS ls).1 = true := by
 unfold sumS
 split
 ·exact sortS_right
 ·rfl
theorem sumS_cnt {ls : List (List S54)} (h : (sumS ls).2 = 0) (x : List S48) : cnt (sumS ls).1 x = cnt ls.flatten x := by
 unfold sumS at h ⊢
 split at h
 ·rename_i hc
  rw [if_pos hc]; exact sortS_cnt h x
 ·exact absurd h (by decide)
theorem sumS_okB {a b : List S54} (ha : okB a) (hb : okB b) (h : a.length + b.length ≤ 200) : okB (sumS [a, b]).1 := by
 unfold sumS
 split
 ·have hf : [a, b].flatten = a ++ b := by simp
  rw [hf]
  have ho : okL (a ++ b) := ⟨by rw [List.length_append]; omega, fun c hc => by
   rcases List.mem_append.1 hc with h | h
   ·exact ha.1.2 c h
   ·exact hb.1.2 c h⟩
  have hs := zjb (a ++ b)
  refine ⟨sortS_okL ho, Nat.le_trans hs.1 (by rw [List.length_append]; exact h), fun c hc => ?_⟩
  obtain ⟨⟨d, hd, he⟩, _⟩ := hs.2.1 c hc
  rw [← he]
  rcases List.mem_append.1 hd with h | h
  ·exact ha.2.2 d h
  ·exact hb.2.2 d h
 ·exact zfa
theorem zgu (d : Df) (wide : Int) (l r dl dr : List S54) : bagR (zcn d wide l r dl dr).1 = true := by
 unfold zcn
 split
 ·exact rows14_right _ _ _ _
 ·split
  ·split
   ·split
    ·exact sumS_right _
    ·rfl
   ·rfl
  ·rfl
theorem zhi {d : Df} (hd : okD d) {wide : Int} {l r dl dr : List S54} (hl : okB l) (hr : okB r) (hdl : okB dl) (hdr : okB dr) : okL (zcn d wide l r dl dr).1 ∧ (zcn d wide l r dl dr).1.length ≤ 120000 := by
 have hz : okL ([] : List S54) ∧ ([] : List S54).length ≤ 120000 := ⟨zfa.1, by decide⟩
 unfold zcn
 split
 ·have := zfr hd (wide := wide) hdl zfa; exact ⟨this.1, Nat.le_trans this.2 (by decide)⟩
 ·split
  ·split
   ·split
    ·have o1 := zfr hd (wide := wide) hdl hr
     have o2 := zfr hd (wide := wide) hl hdr
     have o3 := zfr hd (wide := wide) hdl hdr
     unfold sumS
     split
     ·have hlen : ([(zcw d wide dl r).1, (zcw d wide l dr).1, (zcw d wide dl dr).1].flatten).length ≤ 120000 := by
       have h4 := o1.2; have h5 := o2.2; have h6 := o3.2
       simp only [List.flatten_cons, List.flatten_nil, List.length_append, List.length_nil]; omega
      refine ⟨sortS_okL ⟨by omega, fun c hc => ?_⟩, Nat.le_trans (zjb _).1 hlen⟩
      simp only [List.flatten_cons, List.flatten_nil, List.append_nil] at hc
      rcases List.mem_append.1 hc with h | h
      ·exact o1.1.2 c h
      ·rcases List.mem_append.1 h with h | h
       ·exact o2.1.2 c h
       ·exact o3.1.2 c h
     ·exact hz
    ·exact hz
   ·exact hz
  ·exact hz
def wt (d : Df) (x r : List S48) : Int := if (d.row r).1 = some x then 1 else 0
def bil (d : Df) (wide : Int) (x : List S48) (l r : List S54) : Int := if d.on.length = 0 then lin (wt d x) l else lin (fun a => lin (fun b => if Kj d.on wide a b = true then wt d x (a ++ b) else 0) r) l
theorem zjm {d : Df} {wide : Int} {l r : List S54} (h : (zcw d wide l r).2 = 0) (x : List S48) : cnt (zcw d wide l r).1 x = bil d wide x l r := by
 unfold zcw at h ⊢
 by_cases h1 : (zgg d.on wide l r).2 = 0
 ·rw [if_pos h1] at h ⊢
  by_cases h2 : (runS d.row (zgg d.on wide l r).1).2 = 0
  ·rw [if_pos h2] at h ⊢
   rw [sortS_cnt h, runS_ok h2, cnt_phi]
   show lin (wt d x) (zgg d.on wide l r).1 = _
   unfold bil
   revert h1
   unfold zgg
   by_cases q1 : bagR l = true
   ·by_cases q2 : bagR r = true
    ·by_cases q3 : (l.any fun c => decide ((c.f0.length : Int) ≠ wide)) = true
     ·rw [if_pos q1, if_pos q2, if_pos q3]; intro h1; exact absurd h1 (by decide)
     ·rw [if_pos q1, if_pos q2, if_neg q3]
      by_cases q4 : d.on.length = 0
      ·rw [if_pos q4, if_pos q4]; intro _; rfl
      ·rw [if_neg q4, if_neg q4]
       repeat' split
       all_goals intro h1
       all_goals first | (exact absurd h1 (by decide)) | skip
       rw [← lin_join]
       exact lin_perm _ ((st3_spec _).1.trans (jn_perm _ _ _ _))
    ·rw [if_pos q1, if_neg q2]; intro h1; exact absurd h1 (by decide)
   ·rw [if_neg q1]; intro h1; exact absurd h1 (by decide)
  ·rw [if_neg h2] at h; exact absurd h h2
 ·rw [if_neg h1] at h; exact absurd h h1
theorem bil_nil_l (d : Df) (wide : Int) (x : List S48) (r : List S54) : bil d wide x [] r = 0 := by
 unfold bil; split <;> rfl
theorem zfv (d : Df) (wide : Int) (x : List S48) (l : List S54) (h : d.on.length ≠ 0) : bil d wide x l [] = 0 := by
 unfold bil; rw [if_neg h]; exact lin_zero l
theorem bil_r0 (d : Df) (wide : Int) (x : List S48) (l r r' : List S54) (h : d.on.length = 0) : bil d wide x l r = bil d wide x l r' := by
 unfold bil; rw [if_pos h, if_pos h]
theorem zgs {d : Df} {wide : Int} {l r dl dr : List S54} (h : (zcn d wide l r dl dr).2 = 0) (x : List S48) :
  cnt (zcn d wide l r dl dr).1 x = if d.on.length = 0 then bil d wide x dl r else bil d wide x dl r + bil d wide x l dr + bil d wide x dl dr := by
 unfold zcn at h ⊢
 by_cases h0 : d.on.length = 0
 ·rw [if_pos h0] at h ⊢
  rw [if_pos h0, zjm h, bil_r0 d wide x dl r [] h0]
 ·rw [if_neg h0] at h ⊢
  rw [if_neg h0]
  by_cases h1 : (zcw d wide dl r).2 = 0
  ·rw [if_pos h1] at h ⊢
   by_cases h2 : (zcw d wide l dr).2 = 0
   ·rw [if_pos h2] at h ⊢
    by_cases h3 : (zcw d wide dl dr).2 = 0
    ·rw [if_pos h3] at h ⊢
     rw [sumS_cnt h]
     simp only [List.flatten_cons, List.flatten_nil, List.append_nil]
     rw [zjt, zjt, zjm h1, zjm h2, zjm h3]; omega
    ·rw [if_neg h3] at h; exact absurd h h3
   ·rw [if_neg h2] at h; exact absurd h h2
  ·rw [if_neg h1] at h; exact absurd h h1
theorem none_eq {d : Df} {wide : Int} {l r : List S54} (h : (zcn d wide l r [] []).2 = 0) : (zcn d wide l r [] []).1 = [] := by
 refine bag_uniq (zgu _ _ _ _ _ _) rfl (fun x => ?_)
 rw [zgs h]
 show _ = (0 : Int)
 by_cases h0 : d.on.length = 0
 ·rw [if_pos h0, bil_nil_l]
 ·rw [if_neg h0, bil_nil_l, bil_nil_l, zfv d wide x l h0]; rfl
theorem zero_sum {a b : List S54} (ha : bagR a = true) (hb : bagR b = true) (h : ∀ x, cnt a x + cnt b x = 0) : sumS [a, b] = ([], 0) := by
 have hf : [a, b].flatten = a ++ b := by simp
 unfold sumS
 rw [if_pos (by simp [ha, hb]), hf]
 unfold zix
 rw [if_pos, outOf_zero (fun r _ => by rw [zjt]; exact h r)]
 ·rfl
 ·rw [List.all_eq_true]
  intro c hc
  have := fun (l : List S54) (hl : bagR l = true) (hm : c ∈ l) => (ziv hl).1 c hm
  unfold zjv
  rcases List.mem_append.1 hc with h | h
  ·rw [(this a ha h).1, (this a ha h).2.2]; rfl
  ·rw [(this b hb h).1, (this b hb h).2.2]; rfl
theorem back_eq {d : Df} {wide : Int} {l r dl : List S54} (hn : bagR dl = true) (h2 : (zcn d wide l r dl []).2 = 0) (h5 : (zcn d wide (sumS [l, dl]).1 r (dl.map negC) []).2 = 0) :
  sumS [(zcn d wide l r dl []).1, (zcn d wide (sumS [l, dl]).1 r (dl.map negC) []).1] = ([], 0) := by
 refine zero_sum (zgu _ _ _ _ _ _) (zgu _ _ _ _ _ _) (fun x => ?_)
 rw [zgs h2, zgs h5]
 have hneg : bil d wide x (dl.map negC) r = - bil d wide x dl r := by
  unfold bil; split <;> exact lin_neg _ dl
 by_cases h0 : d.on.length = 0
 ·rw [if_pos h0, if_pos h0, hneg]; omega
 ·rw [if_neg h0, if_neg h0, hneg, zfv d wide x _ h0, zfv d wide x _ h0, zfv d wide x _ h0, zfv d wide x _ h0]; omega
end Go.Proofs.YtnggdcdiachkpaaDoor.Pure
