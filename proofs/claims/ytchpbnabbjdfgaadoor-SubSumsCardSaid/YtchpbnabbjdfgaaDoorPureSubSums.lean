-- HALVED
import Derived.Test.YtchpbnabbjdfgaaDoorPureE8
import Derived.Test.YtchpbnabbjdfgaaDoorStatSubSums
import Derived.Test.YtchpbnabbjdfgaaDoorPx107
namespace Go.Proofs.YtchpbnabbjdfgaaDoor.Pure
open Go.ChangeShapes Go.WideShapes Go.ChangeAt Go.RowKit Go.Proofs.YtchpbnabbjdfgaaDoorW.PrintWords Go.Proofs.YtchpbnabbjdfgaaDoorW.PrintLast Go.Proofs.YtchpbnabbjdfgaaDoor.P Go.Proofs.YtchpbnabbjdfgaaDoor.Open
set_option linter.unusedVariables false
set_option linter.unusedSimpArgs false
theorem bag_uniq {l m : List S81} (hl : bagR l = true) (hm : bagR m = true) (h : ∀ r, cnt l r = cnt m r) : l = m := by
 have pl := rise_lt l (bagR_all hl).2
 have pm := rise_lt m (bagR_all hm).2
 have mem : ∀ {l m : List S81}, bagR l = true → l.Pairwise (fun a b => LtR a.f0 b.f0) → m.Pairwise (fun a b => LtR a.f0 b.f0) → (∀ r, cnt l r = cnt m r) → ∀ c ∈ l, c ∈ m := by
  intro l m hl pl pm h c hc
  obtain ⟨i, hi, rfl⟩ := List.getElem_of_mem hc
  have h1 := cnt_at pl (List.getElem?_eq_getElem hi) rfl
  have hne := ((bagR_all hl).1 _ hc).2.1
  have hex : ∃ d ∈ m, d.f0 = (l[i]).f0 := by
   refine Classical.byContradiction fun hno => ?_
   have := cnt_none (r := (l[i]).f0) (l := m) (fun d hd he => hno ⟨d, hd, he⟩)
   rw [← h, h1] at this; exact hne this
  obtain ⟨d, hd, he⟩ := hex
  obtain ⟨j, hj, rfl⟩ := List.getElem_of_mem hd
  have h2 := cnt_at pm (List.getElem?_eq_getElem hj) rfl
  rw [he, ← h, h1] at h2
  have : l[i] = m[j] := by
   cases hx : l[i]; cases hy : m[j]
   rw [hx, hy] at he h2; simp only at he h2; rw [he, h2]
  rw [this]; exact hd
 have e1 := mem hl pl pm h
 have e2 := mem hm pm pl (fun r => (h r).symm)
 have hu : ∀ {l m : List S81}, l.Pairwise (fun a b => LtR a.f0 b.f0) → m.Pairwise (fun a b => LtR a.f0 b.f0) → (∀ c, c ∈ l ↔ c ∈ m) → l = m := by
  intro l
  induction l with
  | nil => intro m _ _ hh; cases m with
   | nil => rfl
   | cons x m => exact absurd ((hh x).2 List.mem_cons_self) (by simp)
  | cons x l ih =>
   intro m hp hq hh
   cases m with
   | nil => exact absurd ((hh x).1 List.mem_cons_self) (by simp)
   | cons y m =>
    rw [List.pairwise_cons] at hp hq
    have hxy : x = y := by
     rcases List.mem_cons.1 ((hh x).1 List.mem_cons_self) with h | h
     ·exact h
     ·rcases List.mem_cons.1 ((hh y).2 List.mem_cons_self) with h' | h'
      ·exact h'.symm
      ·exact absurd (hq.1 x h) (LtR.asym (hp.1 y h'))
    subst hxy
    rw [ih hp.2 hq.2 (fun c => ?_)]
    constructor
    ·intro hc
     rcases List.mem_cons.1 ((hh c).1 (List.mem_cons_of_mem _ hc)) with h | h
     ·subst h; exact absurd (hp.1 c hc) (LtR.irr _)
     ·exact h
    ·intro hc
     rcases List.mem_cons.1 ((hh c).2 (List.mem_cons_of_mem _ hc)) with h | h
     ·subst h; exact absurd (hq.1 c hc) (LtR.irr _)
     ·exact h
 exact hu pl pm (fun c => ⟨e1 c, e2 c⟩)
def valA (n : ByteArray) (r : List S105) : List S56 → Int
 | [] => 0
 | c :: l => (if c.f0 = n then cnt c.f1 r else 0) + valA n r l
theorem valA_app (n : ByteArray) (r : List S105) : ∀ l m : List S56, valA n r (l ++ m) = valA n r l + valA n r m
 | [], m => by simp [valA]
 | c :: l, m => by rw [List.cons_append, valA, valA, valA_app n r l m]; omega
theorem sum1_cnt {l : List S81} (h : (sumS [[], l]).2 = 0) (r : List S105) : cnt (sumS [[], l]).1 r = cnt l r := by
 rw [sumS_cnt2 h]; simp [cnt]
theorem addC_val (n : ByteArray) (r : List S105) (c : S56) : ∀ out : List S56, (addC out c).2 = 0 → valA n r (addC out c).1 = valA n r out + (if c.f0 = n then cnt c.f1 r else 0)
 | [], h => by
  rw [addC] at h ⊢
  simp only [valA]
  rw [sum1_cnt h]; omega
 | d :: l, h => by
  rw [addC] at h ⊢
  by_cases h1 : ltN d.f0 c.f0
  ·rw [if_pos h1] at h ⊢
   simp only [valA]
   rw [addC_val n r c l h]; omega
  ·rw [if_neg h1] at h ⊢
   by_cases h2 : d.f0 = c.f0
   ·rw [if_pos h2] at h ⊢
    simp only [valA]
    rw [sumS_cnt2 h, h2]
    split <;> omega
   ·rw [if_neg h2] at h ⊢
    simp only [valA]
    rw [sum1_cnt h]; omega
theorem foldA_val (n : ByteArray) (r : List S105) : ∀ m out : List S56, (zjc out m).2 = 0 → valA n r (zjc out m).1 = valA n r out + valA n r m
 | [], out, h => by rw [zjc]; simp [valA]
 | c :: m, out, h => by
  rw [zjc] at h ⊢
  by_cases h1 : (addC out c).2 = 0
  ·rw [if_pos h1] at h ⊢
   rw [foldA_val n r m _ h, addC_val n r c out h1]
   simp only [valA]; omega
  ·rw [if_neg h1] at h; exact absurd h h1
theorem filt_val (n : ByteArray) (r : List S105) : ∀ l : List S56, valA n r (l.filter ne0) = valA n r l
 | [] => rfl
 | c :: l => by
  by_cases h : ne0 c = true
  ·rw [List.filter_cons_of_pos h]; simp only [valA]; rw [filt_val n r l]
  ·rw [List.filter_cons_of_neg h, filt_val n r l]
   have : c.f1 = [] := by
    unfold ne0 at h
    exact List.eq_nil_of_length_eq_zero (by simpa using h)
   simp only [valA]
   rw [this]; simp [cnt]
theorem applyS_val {old more : List S56} (h : (zdo old more).2 = 0) (n : ByteArray) (r : List S105) : valA n r (zdo old more).1 = valA n r old + valA n r more := by
 obtain ⟨_, _, _, h4, h5⟩ := zia h
 rw [h5, filt_val, foldA_val n r more old h4]
theorem zgq {n : ByteArray} {r : List S105} : ∀ {l : List S56}, (∀ c ∈ l, c.f0 ≠ n) → valA n r l = 0
 | [], _ => rfl
 | c :: l, h => by
  simp only [valA]
  rw [if_neg (h c List.mem_cons_self), zgq (fun x hx => h x (List.mem_cons_of_mem _ hx))]; rfl
theorem bag_none {l : List S81} (h : bagR l = true) (h0 : ∀ r, cnt l r = 0) : l = [] := bag_uniq h (by rfl) (fun r => by rw [h0 r]; rfl)
theorem val_uniq : ∀ {l m : List S56}, l.Pairwise (fun a b => ltN a.f0 b.f0) → m.Pairwise (fun a b => ltN a.f0 b.f0) → (∀ c ∈ l, goodC c = true) → (∀ c ∈ m, goodC c = true) → (∀ n r, valA n r l = valA n r m) → l = m
 | [], [], _, _, _, _, _ => rfl
 | [], d :: m, _, pm, _, gm, h => by
  exfalso
  rw [List.pairwise_cons] at pm
  have g := gm d List.mem_cons_self
  unfold goodC at g
  simp only [Bool.and_eq_true, Bool.not_eq_true'] at g
  have : d.f1 = [] := bag_none g.2.2 (fun r => by
   have := h d.f0 r
   simp only [valA] at this
   rw [if_pos trivial, zgq (fun c hc e => ltN.irr d.f0 (by have := pm.1 c hc; rw [e] at this; exact this))] at this
   omega)
  rw [this] at g; exact absurd g.2.1 (by decide)
 | c :: l, [], pl, _, gl, _, h => by
  exfalso
  rw [List.pairwise_cons] at pl
  have g := gl c List.mem_cons_self
  unfold goodC at g
  simp only [Bool.and_eq_true, Bool.not_eq_true'] at g
  have : c.f1 = [] := bag_none g.2.2 (fun r => by
   have := h c.f0 r
   simp only [valA] at this
   rw [if_pos trivial, zgq (fun x hx e => ltN.irr c.f0 (by have := pl.1 x hx; rw [e] at this; exact this))] at this
   omega)
  rw [this] at g; exact absurd g.2.1 (by decide)
 | c :: l, d :: m, pl, pm, gl, gm, h => by
  have pl0 := pl; have pm0 := pm
  rw [List.pairwise_cons] at pl pm
  have noL : ∀ n, (n = c.f0 ∨ ltN n c.f0) → ∀ x ∈ l, x.f0 ≠ n := fun n hn x hx e => by
   have h1 := pl.1 x hx
   rw [e] at h1
   rcases hn with rfl | hn
   ·exact ltN.irr _ h1
   ·exact ltN.asym hn h1
  have noM : ∀ n, (n = d.f0 ∨ ltN n d.f0) → ∀ x ∈ m, x.f0 ≠ n := fun n hn x hx e => by
   have h1 := pm.1 x hx
   rw [e] at h1
   rcases hn with rfl | hn
   ·exact ltN.irr _ h1
   ·exact ltN.asym hn h1
  have gc := gl c List.mem_cons_self
  have gd := gm d List.mem_cons_self
  unfold goodC at gc gd
  simp only [Bool.and_eq_true, Bool.not_eq_true'] at gc gd
  have e0 : c.f0 = d.f0 := by
   rcases ltN.tri c.f0 d.f0 with hlt | he | hlt
   ·exfalso
    have : c.f1 = [] := bag_none gc.2.2 (fun r => by
     have := h c.f0 r
     simp only [valA] at this
     rw [if_pos trivial, zgq (noL _ (.inl rfl)), if_neg (fun e => ltN.irr c.f0 (by rw [e] at hlt; exact hlt)), zgq (noM _ (.inr hlt))] at this
     omega)
    rw [this] at gc; exact absurd gc.2.1 (by decide)
   ·exact he
   ·exfalso
    have : d.f1 = [] := bag_none gd.2.2 (fun r => by
     have := h d.f0 r
     simp only [valA] at this
     rw [if_neg (fun e => ltN.irr d.f0 (by rw [e] at hlt; exact hlt)), zgq (noL _ (.inr hlt)), if_pos trivial, zgq (noM _ (.inl rfl))] at this
     omega)
    rw [this] at gd; exact absurd gd.2.1 (by decide)
  have e1 : c.f1 = d.f1 := bag_uniq gc.2.2 gd.2.2 (fun r => by
   have := h c.f0 r
   simp only [valA] at this
   rw [if_pos trivial, zgq (noL _ (.inl rfl)), if_pos e0.symm, zgq (noM _ (.inl e0))] at this
   omega)
  have e : c = d := by cases c; cases d; simp only at e0 e1; rw [e0, e1]
  subst e
  rw [val_uniq pl.2 pm.2 (fun x hx => gl x (List.mem_cons_of_mem _ hx)) (fun x hx => gm x (List.mem_cons_of_mem _ hx)) (fun n r => by
   have := h n r
   simp only [valA] at this
   omega)]
theorem state_parts {l : List S56} (h : zgb l = true) : l.Pairwise (fun a b => ltN a.f0 b.f0) ∧ ∀ c ∈ l, goodC c = true := by
 unfold zgb zhv at h
 simp only [Bool.and_eq_true, List.all_eq_true] at h
 exact ⟨riseN_pw.1 h.1.1, h.2.2⟩
theorem sums_eq {s a b : List S56} (h1 : (zdo s a).2 = 0) (h2 : (zdo (zdo s a).1 b).2 = 0) (h3 : (zdo s (a ++ b)).2 = 0) : (zdo (zdo s a).1 b).1 = (zdo s (a ++ b)).1 := by
 have p2 := state_parts (zia h2).1
 have p3 := state_parts (zia h3).1
 refine val_uniq p2.1 p3.1 p2.2 p3.2 (fun n r => ?_)
 rw [applyS_val h2, applyS_val h1, applyS_val h3, valA_app]; omega
theorem app_okG {B : Nat} {a b : List S56} (ha : okG B a) (hb : okG B b) (h : a.length + b.length ≤ 1000) : okG B (a ++ b) :=
 ⟨by rw [List.length_append]; exact h, fun c hc => by rcases List.mem_append.1 hc with h | h; exact ha.2 c h; exact hb.2 c h⟩
theorem SubSums_ev (s a b : List S56) (ws : zfl s) (wa : zfl a) (wb : zfl b) : Ev (fun k => zah.f k s a b) true := by
 have stop : Ev (fun k => zah.j0 k s a b true) true := by
  apply Ev.succ
  simp only [zah.j0]
  exact Ev.pos trivial aw1
 unfold zah.f
 refine Ev.bind (few_ev s) ?_
 by_cases f1 : FewC s
 ·rw [decide_eq_true f1]
  refine Ev.pos rfl (Ev.bind (few_ev a) ?_)
  by_cases f2 : FewC a
  ·rw [decide_eq_true f2]
   refine Ev.pos rfl (Ev.bind (few_ev b) ?_)
   by_cases f3 : FewC b
   ·rw [decide_eq_true f3]
    have os := f1.ok ws
    have oa := f2.ok wa
    have ob := f3.ok wb
    have ls := f1.1
    have la := f2.1
    have lb := f3.1
    have o1 := applyS_ok os oa (by omega)
    have o2 := applyS_ok o1.1 ob (by omega)
    apply Ev.succ
    simp only [zah.j0]
    refine Ev.neg (by decide) (Ev.bind (apply_ev s a os oa (by omega) (by omega) (by omega)) (Ev.bind (apply_ev _ b o1.1 ob (by omega) (by omega) (by omega)) ?_))
    refine Ev.pos (by simp; omega) (Ev.bind (Ev.pure _) ?_)
    rw [List.nil_append]
    refine Ev.pos (by omega) (Ev.bind (apply_ev s (a ++ b) os (app_okG oa ob (by omega)) (by omega) (by rw [List.length_append]; omega) (by omega)) ?_)
    have stop1 : ∀ x y, Ev (fun k => zah.j1 k x y true) true := by
     intro x y
     apply Ev.succ
     simp only [zah.j1]
     exact Ev.pos trivial aw1
    by_cases e1 : (zdo s a).2 = 0
    ·refine Ev.pos e1 ?_
     by_cases e2 : (zdo (zdo s a).1 b).2 = 0
     ·refine Ev.pos e2 ?_
      by_cases e3 : (zdo s (a ++ b)).2 = 0
      ·rw [bne_f e3, sums_eq e1 e2 e3]
       apply Ev.succ
       simp only [zah.j1]
       have o3 := applyS_ok os (app_okG oa ob (by omega)) (by omega)
       refine Ev.neg (by decide) (Ev.bind (samech_ev _ _ (by omega) (fun c hc => (o3.1.2 c hc).2.1)) ?_)
       rw [decide_eq_true rfl]
       exact Ev.pos rfl aw1
      ·rw [bne_t e3]; exact stop1 _ _
     ·exact Ev.neg e2 (stop1 _ _)
    ·exact Ev.neg e1 (stop1 _ _)
   ·rw [decide_eq_false f3]; exact stop
  ·rw [decide_eq_false f2]
   exact Ev.neg (by decide) stop
 ·rw [decide_eq_false f1]
  exact Ev.neg (by decide) stop
theorem SubSums_pure : Stat.SubSums := by
 intro l0 l1 l2 w0 w1 w2
 exact (SubSums_ev l0 l1 l2 w0 w1 w2).imp fun k h => h k (Nat.le_refl k)
end Go.Proofs.YtchpbnabbjdfgaaDoor.Pure
