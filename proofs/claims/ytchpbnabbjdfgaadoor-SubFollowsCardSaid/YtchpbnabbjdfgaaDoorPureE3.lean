-- HALVED
import Derived.Test.YtchpbnabbjdfgaaDoorPureE1
import Derived.Test.YtchpbnabbjdfgaaDoorPx0
import Derived.Test.YtchpbnabbjdfgaaDoorPx37
import Derived.Test.YtchpbnabbjdfgaaDoorPx70
import Derived.Test.YtchpbnabbjdfgaaDoorPx83
namespace Go.Proofs.YtchpbnabbjdfgaaDoor.Pure
open Go.ChangeShapes Go.WideShapes Go.ChangeAt Go.RowKit Go.Proofs.YtchpbnabbjdfgaaDoorW.PrintWords Go.Proofs.YtchpbnabbjdfgaaDoorW.PrintLast Go.Proofs.YtchpbnabbjdfgaaDoor.P Go.Proofs.YtchpbnabbjdfgaaDoor.Open
set_option linter.unusedVariables false
set_option linter.unusedSimpArgs false
theorem pw_at {α : Type} {R : α → α → Prop} {l : List α} (hp : l.Pairwise R) {i j : Nat} {a b : α} (hij : i < j) (ha : l[i]? = some a) (hb : l[j]? = some b) : R a b := by
 obtain ⟨hi, rfl⟩ := List.getElem?_eq_some_iff.1 ha
 obtain ⟨hj, rfl⟩ := List.getElem?_eq_some_iff.1 hb
 exact List.pairwise_iff_getElem.1 hp i j hi hj hij
theorem cmpN_lt {a b : ByteArray} : cmpB a b < 0 ↔ ltN a b := by
 rcases cmpB_cases a b with ⟨h, h'⟩ | ⟨h, h'⟩ | ⟨h, h'⟩
 ·exact ⟨fun _ => h', fun _ => by omega⟩
 ·exact ⟨fun _ => by omega, fun h2 => absurd h' (ltN.asym h2)⟩
 ·subst h'; exact ⟨fun _ => by omega, fun h2 => absurd h2 (ltN.irr _)⟩
theorem cmpN_eq {a b : ByteArray} : cmpB a b = 0 ↔ a = b := by
 rcases cmpB_cases a b with ⟨h, h'⟩ | ⟨h, h'⟩ | ⟨h, h'⟩
 ·exact ⟨fun _ => by omega, fun e => by subst e; exact absurd h' (ltN.irr _)⟩
 ·exact ⟨fun _ => by omega, fun e => by subst e; exact absurd h' (ltN.irr _)⟩
 ·exact ⟨fun _ => h', fun _ => h⟩
theorem sub_lt {a b : Int} : a - b < 0 ↔ a < b := by omega
theorem sub_eq0 {a b : Int} : a - b = 0 ↔ a = b := by omega
theorem sn_go (l : List S56) (hll : l.length ≤ 1000000) (r : ByteArray) (hp : l.Pairwise (fun a b => ltN a.f0 b.f0)) : ∀ (n lo hi : Nat), hi - lo ≤ n → lo ≤ hi → hi ≤ l.length →
  (∀ i c, i < lo → l[i]? = some c → ltN c.f0 r) → (∀ i c, hi ≤ i → l[i]? = some c → ¬ ltN c.f0 r) →
  ∃ p : Nat, p ≤ l.length ∧ (∀ i c, i < p → l[i]? = some c → ltN c.f0 r) ∧ (∀ i c, p ≤ i → l[i]? = some c → ¬ ltN c.f0 r) ∧
   Ev (fun k => zaf.l0 k l r (l.length : Int) (lo : Int) (hi : Int)) ((p : Int), decide (∃ c, l[p]? = some c ∧ c.f0 = r))
 | n, lo, hi, hn, h1, h2, ha, hb => by
  by_cases hlt : lo < hi
  ·obtain ⟨n, rfl⟩ : ∃ m, n = m + 1 := ⟨n - 1, by omega⟩
   obtain ⟨m, hm⟩ : ∃ m : Nat, m = (lo + hi) / 2 := ⟨_, rfl⟩
   have hm' : ((lo : Int) + (hi : Int)) / 2 = (m : Int) := by omega
   have hml : m < l.length := by omega
   obtain ⟨c, hc⟩ : ∃ c, l[m]? = some c := ⟨_, List.getElem?_eq_getElem hml⟩
   have ec : zbb l (m : Int) = c := by
    unfold zbb
    rw [Int.toNat_natCast, List.getD_eq_getElem?_getD, hc]
    rfl
   have hs : zdz.f c.f0 c.f1 r = some (cmpB c.f0 r) := rfl
   by_cases hcr : ltN c.f0 r
   ·obtain ⟨p, p1, p2, p3, p4⟩ := sn_go l hll r hp n (m + 1) hi (by omega) (by omega) h2 (fun i d hi' hd => by
      rcases Nat.lt_or_ge i m with h | h
      ·have := pw_at hp h hd hc
       exact this.tr hcr
      ·obtain rfl : i = m := by omega
       rw [hc] at hd; injection hd with hd; rw [← hd]; exact hcr) hb
    refine ⟨p, p1, p2, p3, ?_⟩
    apply Ev.succ
    simp only [zaf.l0]
    rw [half (by omega) (by omega) (by omega) (by omega), hm', ec, ws (by omega), hs]
    exact Ev.pos (by omega) (Ev.pos (by omega) (Ev.pos (by omega) (Ev.bind (Ev.of rfl) (Ev.pos (cmpN_lt.2 hcr) p4))))
   ·obtain ⟨p, p1, p2, p3, p4⟩ := sn_go l hll r hp n lo m (by omega) (by omega) (by omega) ha (fun i d hi' hd => by
      rcases Nat.lt_or_ge m i with h | h
      ·intro h'
       have := pw_at hp h hc hd
       exact hcr (this.tr h')
      ·obtain rfl : i = m := by omega
       rw [hc] at hd; injection hd with hd; rw [← hd]; exact hcr)
    refine ⟨p, p1, p2, p3, ?_⟩
    apply Ev.succ
    simp only [zaf.l0]
    rw [half (by omega) (by omega) (by omega) (by omega), hm', ec, ws (by omega), hs]
    exact Ev.pos (by omega) (Ev.pos (by omega) (Ev.pos (by omega) (Ev.bind (Ev.of rfl) (Ev.neg (fun h => hcr (cmpN_lt.1 h)) p4))))
  ·obtain rfl : lo = hi := by omega
   refine ⟨lo, h2, ha, hb, ?_⟩
   apply Ev.succ
   simp only [zaf.l0]
   apply Ev.neg (by omega)
   by_cases hl2 : lo < l.length
   ·obtain ⟨c, hc⟩ : ∃ c, l[lo]? = some c := ⟨_, List.getElem?_eq_getElem hl2⟩
    have ec : zbb l (lo : Int) = c := by
     unfold zbb
     rw [Int.toNat_natCast, List.getD_eq_getElem?_getD, hc]
     rfl
    have hs : zdz.f c.f0 c.f1 r = some (cmpB c.f0 r) := rfl
    rw [ec, hs]
    refine Ev.pos (by omega) (Ev.pos (by omega) (Ev.pos (by omega) (Ev.bind (Ev.of rfl) (Ev.of ?_))))
    congr 2
    rw [hc]
    by_cases he : c.f0 = r
    ·rw [decide_eq_true ⟨c, rfl, he⟩, cmpN_eq.2 he]; rfl
    ·rw [decide_eq_false (by rintro ⟨d, hd, hdr⟩; injection hd with hd; rw [hd] at he; exact he hdr)]
     have : cmpB c.f0 r ≠ 0 := fun h => he (cmpN_eq.1 h)
     simpa using this
   ·apply Ev.neg (by omega)
    rw [decide_eq_false (by rintro ⟨d, hd, _⟩; rw [List.getElem?_eq_none (by omega)] at hd; cases hd)]
    exact Ev.pure _
theorem sn_ev (l : List S56) (hll : l.length ≤ 1000000) (r : ByteArray) (hp : l.Pairwise (fun a b => ltN a.f0 b.f0)) :
  ∃ p : Nat, p ≤ l.length ∧ (∀ i c, i < p → l[i]? = some c → ltN c.f0 r) ∧ (∀ i c, p ≤ i → l[i]? = some c → ¬ ltN c.f0 r) ∧
   Ev (fun k => zaf.f k l r) ((p : Int), decide (∃ c, l[p]? = some c ∧ c.f0 = r)) :=
 sn_go l hll r hp l.length 0 l.length (by omega) (by omega) (Nat.le_refl _) (fun i c hi => absurd hi (by omega)) (fun i c hi hc => by rw [List.getElem?_eq_none (by omega)] at hc; cases hc)
theorem sp_go (l : List S41) (hll : l.length ≤ 1000000) (r : Int) (hr : 0 ≤ r ∧ r ≤ 1000) (hk : ∀ c ∈ l, 0 ≤ c.f3 ∧ c.f3 ≤ 1000) (hp : l.Pairwise (fun a b => a.f3 < b.f3)) : ∀ (n lo hi : Nat), hi - lo ≤ n → lo ≤ hi → hi ≤ l.length →
  (∀ i c, i < lo → l[i]? = some c → c.f3 < r) → (∀ i c, hi ≤ i → l[i]? = some c → ¬ c.f3 < r) →
  ∃ p : Nat, p ≤ l.length ∧ (∀ i c, i < p → l[i]? = some c → c.f3 < r) ∧ (∀ i c, p ≤ i → l[i]? = some c → ¬ c.f3 < r) ∧
   Ev (fun k => zah.l0 k l r (l.length : Int) (lo : Int) (hi : Int)) ((p : Int), decide (∃ c, l[p]? = some c ∧ c.f3 = r))
 | n, lo, hi, hn, h1, h2, ha, hb => by
  by_cases hlt : lo < hi
  ·obtain ⟨n, rfl⟩ : ∃ m, n = m + 1 := ⟨n - 1, by omega⟩
   obtain ⟨m, hm⟩ : ∃ m : Nat, m = (lo + hi) / 2 := ⟨_, rfl⟩
   have hm' : ((lo : Int) + (hi : Int)) / 2 = (m : Int) := by omega
   have hml : m < l.length := by omega
   obtain ⟨c, hc⟩ : ∃ c, l[m]? = some c := ⟨_, List.getElem?_eq_getElem hml⟩
   have ec : zac l (m : Int) = c := by
    unfold zac
    rw [Int.toNat_natCast, List.getD_eq_getElem?_getD, hc]
    rfl
   have hs : zdp.f c.f0 c.f1 c.f2 c.f3 c.f4 c.f5 r = some (c.f3 - r) := by have := hk c (List.mem_of_getElem? hc); show some (wrap64 (c.f3 - r)) = _; rw [w64 (by omega) (by omega)]
   by_cases hcr : c.f3 < r
   ·obtain ⟨p, p1, p2, p3, p4⟩ := sp_go l hll r hr hk hp n (m + 1) hi (by omega) (by omega) h2 (fun i d hi' hd => by
      rcases Nat.lt_or_ge i m with h | h
      ·have := pw_at hp h hd hc
       exact (by omega)
      ·obtain rfl : i = m := by omega
       rw [hc] at hd; injection hd with hd; rw [← hd]; exact hcr) hb
    refine ⟨p, p1, p2, p3, ?_⟩
    apply Ev.succ
    simp only [zah.l0]
    rw [half (by omega) (by omega) (by omega) (by omega), hm', ec, ws (by omega), hs]
    exact Ev.pos (by omega) (Ev.pos (by omega) (Ev.pos (by omega) (Ev.bind (Ev.of rfl) (Ev.pos (sub_lt.2 hcr) p4))))
   ·obtain ⟨p, p1, p2, p3, p4⟩ := sp_go l hll r hr hk hp n lo m (by omega) (by omega) (by omega) ha (fun i d hi' hd => by
      rcases Nat.lt_or_ge m i with h | h
      ·intro h'
       have := pw_at hp h hc hd
       exact hcr (by omega)
      ·obtain rfl : i = m := by omega
       rw [hc] at hd; injection hd with hd; rw [← hd]; exact hcr)
    refine ⟨p, p1, p2, p3, ?_⟩
    apply Ev.succ
    simp only [zah.l0]
    rw [half (by omega) (by omega) (by omega) (by omega), hm', ec, ws (by omega), hs]
    exact Ev.pos (by omega) (Ev.pos (by omega) (Ev.pos (by omega) (Ev.bind (Ev.of rfl) (Ev.neg (fun h => hcr (sub_lt.1 h)) p4))))
  ·obtain rfl : lo = hi := by omega
   refine ⟨lo, h2, ha, hb, ?_⟩
   apply Ev.succ
   simp only [zah.l0]
   apply Ev.neg (by omega)
   by_cases hl2 : lo < l.length
   ·obtain ⟨c, hc⟩ : ∃ c, l[lo]? = some c := ⟨_, List.getElem?_eq_getElem hl2⟩
    have ec : zac l (lo : Int) = c := by
     unfold zac
     rw [Int.toNat_natCast, List.getD_eq_getElem?_getD, hc]
     rfl
    have hs : zdp.f c.f0 c.f1 c.f2 c.f3 c.f4 c.f5 r = some (c.f3 - r) := by have := hk c (List.mem_of_getElem? hc); show some (wrap64 (c.f3 - r)) = _; rw [w64 (by omega) (by omega)]
    rw [ec, hs]
    refine Ev.pos (by omega) (Ev.pos (by omega) (Ev.pos (by omega) (Ev.bind (Ev.of rfl) (Ev.of ?_))))
    congr 2
    rw [hc]
    by_cases he : c.f3 = r
    ·rw [decide_eq_true ⟨c, rfl, he⟩, sub_eq0.2 he]; rfl
    ·rw [decide_eq_false (by rintro ⟨d, hd, hdr⟩; injection hd with hd; rw [hd] at he; exact he hdr)]
     have : c.f3 - r ≠ 0 := fun h => he (sub_eq0.1 h)
     simpa using this
   ·apply Ev.neg (by omega)
    rw [decide_eq_false (by rintro ⟨d, hd, _⟩; rw [List.getElem?_eq_none (by omega)] at hd; cases hd)]
    exact Ev.pure _
theorem sp_ev (l : List S41) (hll : l.length ≤ 1000000) (r : Int) (hr : 0 ≤ r ∧ r ≤ 1000) (hk : ∀ c ∈ l, 0 ≤ c.f3 ∧ c.f3 ≤ 1000) (hp : l.Pairwise (fun a b => a.f3 < b.f3)) :
  ∃ p : Nat, p ≤ l.length ∧ (∀ i c, i < p → l[i]? = some c → c.f3 < r) ∧ (∀ i c, p ≤ i → l[i]? = some c → ¬ c.f3 < r) ∧
   Ev (fun k => zah.f k l r) ((p : Int), decide (∃ c, l[p]? = some c ∧ c.f3 = r)) :=
 sp_go l hll r hr hk hp l.length 0 l.length (by omega) (by omega) (Nat.le_refl _) (fun i c hi => absurd hi (by omega)) (fun i c hi hc => by rw [List.getElem?_eq_none (by omega)] at hc; cases hc)
theorem riseN_pw : ∀ {l : List S56}, riseN l = true ↔ l.Pairwise (fun a b => ltN a.f0 b.f0)
 | [] => by simp [riseN]
 | [a] => by simp [riseN]
 | a :: b :: l => by
  have ih := riseN_pw (l := b :: l)
  show (decide (ltN a.f0 b.f0) && riseN (b :: l)) = true ↔ _
  rw [Bool.and_eq_true, decide_eq_true_eq, ih, List.pairwise_cons (a := a)]
  constructor
  ·rintro ⟨h1, h2⟩
   refine ⟨fun x hx => ?_, h2⟩
   rcases List.mem_cons.1 hx with rfl | hx
   ·exact h1
   ·exact h1.tr ((List.pairwise_cons.1 h2).1 x hx)
  ·rintro ⟨h1, h2⟩
   exact ⟨h1 b List.mem_cons_self, h2⟩
def addC : List S56 → S56 → List S56 × Int
 | [], c => ([⟨c.f0, (sumS [[], c.f1]).1⟩], (sumS [[], c.f1]).2)
 | d :: l, c => if ltN d.f0 c.f0 then (d :: (addC l c).1, (addC l c).2) else if d.f0 = c.f0 then (⟨d.f0, (sumS [d.f1, c.f1]).1⟩ :: l, (sumS [d.f1, c.f1]).2) else (⟨c.f0, (sumS [[], c.f1]).1⟩ :: d :: l, (sumS [[], c.f1]).2)
def zil : List S56 → List S56 → List S56 × Int
 | out, [] => (out, 0)
 | out, c :: r => if (addC out c).2 = 0 then zil (addC out c).1 r else ([], (addC out c).2)
def ne0 (c : S56) : Bool := !(c.f1.length == 0)
noncomputable def finA (r : List S56 × Int) : List S56 × Int := if r.2 = 0 then (if zef (r.1.filter ne0) = true then (r.1.filter ne0, 0) else ([], 1)) else ([], r.2)
noncomputable def zdr (old more : List S56) : List S56 × Int := if zef old = true then (if zgd more = true then finA (zil old more) else ([], 1)) else ([], 1)
theorem addC_at (c : S56) : ∀ (out : List S56) (p : Nat), p ≤ out.length → (∀ i d, i < p → out[i]? = some d → ltN d.f0 c.f0) → (∀ i d, p ≤ i → out[i]? = some d → ¬ ltN d.f0 c.f0) →
  ∀ o, o = (if (∃ d, out[p]? = some d ∧ d.f0 = c.f0) then out else out.take p ++ ([⟨c.f0, []⟩] ++ out.drop p)) → ∃ x, o[p]? = some x ∧ addC out c = (o.set p ⟨x.f0, (sumS [x.f1, c.f1]).1⟩, (sumS [x.f1, c.f1]).2)
 | [], p, hp, _, _, o, ho => by
  obtain rfl : p = 0 := by simpa using hp
  rw [if_neg (by rintro ⟨d, hd, _⟩; simp at hd)] at ho
  subst ho
  exact ⟨⟨c.f0, []⟩, rfl, rfl⟩
 | d :: l, 0, _, _, h2, o, ho => by
  have hd := h2 0 d (Nat.le_refl _) rfl
  by_cases he : d.f0 = c.f0
  ·rw [if_pos ⟨d, rfl, he⟩] at ho
   subst ho
   refine ⟨d, rfl, ?_⟩
   simp only [addC]
   rw [if_neg hd, if_pos he]; rfl
  ·rw [if_neg (by rintro ⟨e, h1, h2⟩; injection h1 with h1; subst h1; exact he h2)] at ho
   subst ho
   refine ⟨⟨c.f0, []⟩, rfl, ?_⟩
   simp only [addC]
   rw [if_neg hd, if_neg he]; rfl
 | d :: l, p + 1, hp, h1, h2, o, ho => by
  have hd := h1 0 d (Nat.succ_pos _) rfl
  obtain ⟨x, hx1, hx2⟩ := addC_at c l p (by simpa using hp) (fun i e hi he => h1 (i + 1) e (by omega) (by simpa using he)) (fun i e hi he => h2 (i + 1) e (by omega) (by simpa using he)) _ rfl
  have ho' : o = d :: (if (∃ d, l[p]? = some d ∧ d.f0 = c.f0) then l else l.take p ++ ([⟨c.f0, []⟩] ++ l.drop p)) := by
   rw [ho]
   have e : (d :: l)[p + 1]? = l[p]? := rfl
   rw [e]
   split
   ·rfl
   ·rfl
  subst ho'
  refine ⟨x, by simpa using hx1, ?_⟩
  simp only [addC]
  rw [if_pos hd, hx2]
  rfl
theorem sumS_fst (ls : List (List S81)) : (sumS ls).1 = [] ∨ (sumS ls) = zhd ls.flatten := by
 unfold sumS
 split
 ·exact .inr rfl
 ·exact .inl rfl
theorem sumS_len2 (a b : List S81) : (sumS [a, b]).1.length ≤ a.length + b.length := by
 rcases sumS_fst [a, b] with h | h
 ·rw [h]; exact Nat.zero_le _
 ·rw [h]
  have := (sortS_fst [a, b].flatten).1
  simpa using this
theorem okL_app {a b : List S81} (ha : okL a) (hb : okL b) (h : a.length + b.length ≤ 1000000) : okL [a, b].flatten := by
 refine ⟨by simpa using h, fun c hc => ?_⟩
 have : c ∈ a ∨ c ∈ b := by simpa using hc
 exact this.elim (ha.2 c) (hb.2 c)
theorem sumS_okL2 {a b : List S81} (ha : okL a) (hb : okL b) (h : a.length + b.length ≤ 1000000) : okL (sumS [a, b]).1 := by
 rcases sumS_fst [a, b] with h' | h'
 ·rw [h']; exact ⟨Nat.zero_le _, fun c hc => by cases hc⟩
 ·rw [h']; exact sortS_okL (okL_app ha hb h)
theorem okL_nil : okL ([] : List S81) := ⟨Nat.zero_le _, fun c hc => by cases hc⟩
theorem addC_len (c : S56) : ∀ out : List S56, (addC out c).1.length ≤ out.length + 1
 | [] => by simp [addC]
 | d :: l => by
  have ih := addC_len c l
  simp only [addC]
  split
  ·simpa using ih
  split <;> simp
theorem addC_mem (c : S56) : ∀ (out : List S56) (x : S56), x ∈ (addC out c).1 → x ∈ out ∨ (x.f0 = c.f0 ∧ ∃ a, (a = [] ∨ ∃ d ∈ out, d.f0 = c.f0 ∧ d.f1 = a) ∧ x.f1 = (sumS [a, c.f1]).1)
 | [], x, h => by
  simp only [addC, List.mem_singleton] at h
  subst h
  exact .inr ⟨rfl, [], .inl rfl, rfl⟩
 | d :: l, x, h => by
  simp only [addC] at h
  split at h
  ·rcases List.mem_cons.1 h with rfl | h
   ·exact .inl List.mem_cons_self
   ·rcases addC_mem c l x h with h | ⟨h1, a, h2, h3⟩
    ·exact .inl (List.mem_cons_of_mem _ h)
    ·refine .inr ⟨h1, a, ?_, h3⟩
     rcases h2 with h2 | ⟨e, he, h4⟩
     ·exact .inl h2
     ·exact .inr ⟨e, List.mem_cons_of_mem _ he, h4⟩
  split at h
  ·rename_i he
   rcases List.mem_cons.1 h with rfl | h
   ·exact .inr ⟨he, d.f1, .inr ⟨d, List.mem_cons_self, he, rfl⟩, rfl⟩
   ·exact .inl (List.mem_cons_of_mem _ h)
  ·rcases List.mem_cons.1 h with rfl | h
   ·exact .inr ⟨rfl, [], .inl rfl, rfl⟩
   ·exact .inl h
theorem addC_name (c : S56) {out : List S56} {x : S56} (h : x ∈ (addC out c).1) : x.f0 = c.f0 ∨ ∃ d ∈ out, d.f0 = x.f0 := by
 rcases addC_mem c out x h with h | ⟨h, _⟩
 ·exact .inr ⟨x, h, rfl⟩
 ·exact .inl h
theorem addC_pw (c : S56) : ∀ {out : List S56}, out.Pairwise (fun a b => ltN a.f0 b.f0) → (addC out c).1.Pairwise (fun a b => ltN a.f0 b.f0)
 | [], _ => by simp [addC]
 | d :: l, h => by
  obtain ⟨h1, h2⟩ := List.pairwise_cons.1 h
  simp only [addC]
  split
  ·rename_i hd
   refine List.pairwise_cons.2 ⟨fun x hx => ?_, addC_pw c h2⟩
   rcases addC_name c hx with hx | ⟨e, he, hx⟩
   ·rw [hx]; exact hd
   ·rw [← hx]; exact h1 e he
  split
  ·exact List.pairwise_cons.2 ⟨h1, h2⟩
  ·rename_i n1 n2
   have hc : ltN c.f0 d.f0 := by
    rcases ltN.tri d.f0 c.f0 with h | h | h
    ·exact absurd h n1
    ·exact absurd h n2
    ·exact h
   refine List.pairwise_cons.2 ⟨fun x hx => ?_, h⟩
   rcases List.mem_cons.1 hx with rfl | hx
   ·exact hc
   ·exact hc.tr (h1 x hx)
def okA (N B : Nat) (l : List S56) : Prop := l.length ≤ N ∧ ∀ c ∈ l, c.f0.size ≤ 100 ∧ okL c.f1 ∧ c.f1.length ≤ B
theorem okA.G {N B : Nat} {l : List S56} (h : okA N B l) (hN : N ≤ 1000) : okG B l := ⟨Nat.le_trans h.1 hN, h.2⟩
theorem addC_ok {N B M : Nat} {out : List S56} {c : S56} (h : okA N B out) (hc : c.f0.size ≤ 100 ∧ okL c.f1 ∧ c.f1.length ≤ M) (hb : B + M ≤ 1000000) : okA (N + 1) (B + M) (addC out c).1 := by
 refine ⟨Nat.le_trans (addC_len c out) (Nat.succ_le_succ h.1), fun x hx => ?_⟩
 rcases addC_mem c out x hx with hx | ⟨h1, a, h2, h3⟩
 ·have := h.2 x hx
  exact ⟨this.1, this.2.1, by omega⟩
 ·have ha : okL a ∧ a.length ≤ B := by
   rcases h2 with rfl | ⟨d, hd, _, rfl⟩
   ·exact ⟨okL_nil, Nat.zero_le _⟩
   ·exact (h.2 d hd).2
  have := sumS_len2 a c.f1
  rw [h1, h3]
  exact ⟨hc.1, sumS_okL2 ha.1 hc.2.1 (by omega), by omega⟩
theorem applyL_ev (M : Nat) : ∀ (r out : List S56) (N B : Nat), okA N B out → out.Pairwise (fun a b => ltN a.f0 b.f0) → (∀ c ∈ r, c.f0.size ≤ 100 ∧ okL c.f1 ∧ c.f1.length ≤ M) → N + r.length ≤ 1000 → B + M * r.length ≤ 1000000 →
  Ev (fun k => zbs.l k out r) (finA (zil out r))
 | [], out, N, B, ho, hp, hr, hN, hB => by
  simp only [zbs.l]
  have hl := ho.1
  have e : zae.f out = some (out.filter ne0) := by
   unfold zae.f
   exact if_pos (by omega)
  have hof : okA N B (out.filter ne0) := ⟨Nat.le_trans (List.length_filter_le _ _) hl, fun c hc => ho.2 c (List.mem_filter.1 hc).1⟩
  rw [e]
  refine Ev.bind (Ev.of rfl) (Ev.bind (state_ev _ (hof.G (by omega))) ?_)
  show Ev _ (finA (out, 0))
  by_cases hs : zef (out.filter ne0) = true
  ·have e2 : finA (out, 0) = (out.filter ne0, 0) := by unfold finA; rw [if_pos rfl, if_pos hs]
   rw [e2]; exact Ev.pos hs (Ev.pure _)
  ·have e2 : finA (out, 0) = ([], 1) := by unfold finA; rw [if_pos rfl, if_neg hs]
   rw [e2]; exact Ev.neg hs (Ev.pure _)
 | c :: r, out, N, B, ho, hp, hr, hN, hB => by
  have hl := ho.1
  have hc := hr c List.mem_cons_self
  rw [List.length_cons] at hN hB
  have hMr : M * (r.length + 1) = M * r.length + M := Nat.mul_succ _ _
  obtain ⟨p, p1, p2, p3, p4⟩ := sn_ev out (by omega) c.f0 hp
  simp only [zbs.l]
  refine Ev.bind p4 ?_
  obtain ⟨o, ho2⟩ : ∃ o, o = (if (∃ d, out[p]? = some d ∧ d.f0 = c.f0) then out else out.take p ++ ([⟨c.f0, []⟩] ++ out.drop p)) := ⟨_, rfl⟩
  obtain ⟨x, hx, ha⟩ := addC_at c out p p1 p2 p3 o ho2
  have hpo : p < o.length := (List.getElem?_eq_some_iff.1 hx).1
  have eo : (if (decide (∃ d, out[p]? = some d ∧ d.f0 = c.f0)) = true then some out else zfk.f out (p : Int) [⟨c.f0, []⟩]) = some o := by
   rw [ho2]
   by_cases hf : ∃ d, out[p]? = some d ∧ d.f0 = c.f0
   ·rw [decide_eq_true hf, if_pos rfl, if_pos hf]
   ·rw [decide_eq_false hf, if_neg (by decide), if_neg hf]
    unfold zfk.f
    rw [if_pos ⟨nn p, by omega, rfl, by omega⟩, Int.toNat_natCast]
  have hox : okL x.f1 ∧ x.f1.length ≤ B := by
   have hm : x ∈ o := List.mem_of_getElem? hx
   rw [ho2] at hm
   split at hm
   ·exact (ho.2 x hm).2
   ·rcases List.mem_append.1 hm with h | h
    ·exact (ho.2 x (List.mem_of_mem_take h)).2
    ·rcases List.mem_append.1 h with h | h
     ·rw [List.mem_singleton.1 h]; exact ⟨okL_nil, Nat.zero_le _⟩
     ·exact (ho.2 x (List.mem_of_mem_drop h)).2
  have hsum := sum_ev [x.f1, c.f1] (by show (2 : Nat) ≤ _; decide) (fun b hb => by
   rcases List.mem_cons.1 hb with rfl | hb
   ·exact hox.1
   ·rw [List.mem_singleton.1 hb]; exact hc.2.1) (by have := hox.2; have := hc.2.2; simp; omega)
  have hrd : zbb o (p : Int) = x := by
   unfold zbb
   rw [Int.toNat_natCast, List.getD_eq_getElem?_getD, hx]; rfl
  simp only []
  rw [eo]
  refine Ev.bind (Ev.of rfl) (Ev.pos ⟨nn p, by omega⟩ ?_)
  rw [hrd]
  refine Ev.bind hsum ?_
  simp only [zil]
  have hadd := addC_ok ho hc (by omega)
  have hapw := addC_pw c hp
  rw [ha] at hadd hapw ⊢
  simp only [] at hadd hapw ⊢
  by_cases h0 : (sumS [x.f1, c.f1]).2 = 0
  ·rw [if_pos h0]
   refine Ev.pos h0 ?_
   rw [Int.toNat_natCast]
   exact applyL_ev M r _ (N + 1) (B + M) hadd hapw (fun d hd => hr d (List.mem_cons_of_mem _ hd)) (by omega) (by omega)
  ·rw [if_neg h0]
   refine Ev.neg h0 (Ev.of ?_)
   simp only [finA]
   rw [if_neg h0]
theorem apply_ev {B M : Nat} (old more : List S56) (ho : okG B old) (hm : okG M more) (h1 : old.length ≤ 500) (h2 : more.length ≤ 500) (hB : B + M * 16 ≤ 1000000) : Ev (fun k => zbs.f k old more) (zdr old more) := by
 unfold zbs.f zdr
 refine Ev.bind (state_ev _ ho) ?_
 by_cases hs : zef old = true
 ·rw [if_pos hs]
  refine Ev.pos hs (Ev.bind (item_ev _ hm) ?_)
  by_cases hi : zgd more = true
  ·rw [if_pos hi]
   refine Ev.pos hi ?_
   have e : zeh.f old = some old := by unfold zeh.f; exact if_pos (by omega)
   have h16 : more.length ≤ 16 := by
    unfold zgd at hi
    rw [Bool.and_eq_true] at hi
    exact of_decide_eq_true hi.1
   have hp : old.Pairwise (fun a b => ltN a.f0 b.f0) := by
    unfold zef at hs
    rw [Bool.and_eq_true, Bool.and_eq_true] at hs
    exact riseN_pw.1 hs.1.1
   rw [e]
   refine Ev.bind (Ev.of rfl) (applyL_ev M more old 500 B ⟨h1, ho.2⟩ hp hm.2 (by omega) ?_)
   have := Nat.mul_le_mul_left M h16
   omega
  ·rw [if_neg hi]; exact Ev.neg hi (Ev.pure _)
 ·rw [if_neg hs]; exact Ev.neg hs (Ev.pure _)
end Go.Proofs.YtchpbnabbjdfgaaDoor.Pure
