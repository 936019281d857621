-- HALVED
import Derived.Test.YtchpbnabbjdfgaaDoorPureE3
import Derived.Test.YtchpbnabbjdfgaaDoorPx83
import Derived.Test.YtchpbnabbjdfgaaDoorPx94
namespace Go.Proofs.YtchpbnabbjdfgaaDoor.Pure
open Go.ChangeShapes Go.WideShapes Go.ChangeAt Go.RowKit Go.Proofs.YtchpbnabbjdfgaaDoorW.PrintWords Go.Proofs.YtchpbnabbjdfgaaDoorW.PrintLast Go.Proofs.YtchpbnabbjdfgaaDoor.P Go.Proofs.YtchpbnabbjdfgaaDoor.Open
set_option linter.unusedVariables false
set_option linter.unusedSimpArgs false
def insP (n : S41) : List S41 → List S41
 | [] => [n]
 | x :: l => if x.f3 < n.f3 then x :: insP n l else if x.f3 = n.f3 then x :: l else n :: x :: l
def tupS (s : S33) : Int × Int × List S56 × Int × Int × List S41 := (s.f0, s.f1, s.f2, s.f3, s.f4, s.f5)
def ahead (s : S33) (n : S41) : S33 := if s.f3 = 0 ∨ n.f2 > s.f3 then ⟨s.f0, s.f1, s.f2, n.f2, n.f4, []⟩ else s
def allC (g : List S41) : List S56 := (g.map (·.f5)).flatten
noncomputable def fullS (s : S33) (g : List S41) : S33 := if (g.length : Int) < s.f4 then ⟨s.f0, s.f1, s.f2, s.f3, s.f4, g⟩ else if (zdr [] (allC g)).2 = 0 then ⟨s.f0, s.f3, (zdr [] (allC g)).1, 0, 0, []⟩ else ⟨s.f0, s.f1, s.f2, 0, 0, []⟩
noncomputable def zhl (s : S33) (n : S41) : S33 := if n.f2 = (ahead s n).f3 ∧ n.f4 = (ahead s n).f4 then fullS (ahead s n) (insP n (ahead s n).f5) else ahead s n
noncomputable def nextS (s : S33) (n : S41) : S33 := if n.f2 = s.f1 + 1 ∧ (zdr s.f2 n.f5).2 = 0 then (if s.f3 ≤ n.f2 then ⟨s.f0, n.f2, (zdr s.f2 n.f5).1, 0, 0, []⟩ else ⟨s.f0, n.f2, (zdr s.f2 n.f5).1, s.f3, s.f4, s.f5⟩) else s
noncomputable def zim (s : S33) (n : S41) : S33 := if rightS s = true ∧ rnS n = true ∧ n.f1 = s.f0 then (if n.f0 = 1 then nextS s n else if n.f0 = 2 then (if n.f2 > s.f1 then zhl s n else s) else s) else s
theorem insP_at (n : S41) : ∀ (out : List S41) (p : Nat), p ≤ out.length → (∀ i d, i < p → out[i]? = some d → d.f3 < n.f3) → (∀ i d, p ≤ i → out[i]? = some d → ¬ d.f3 < n.f3) →
  (if (∃ d, out[p]? = some d ∧ d.f3 = n.f3) then out else out.take p ++ ([n] ++ out.drop p)) = insP n out
 | [], p, hp, _, _ => by
  obtain rfl : p = 0 := by simpa using hp
  rw [if_neg (by rintro ⟨d, hd, _⟩; simp at hd)]
  rfl
 | d :: l, 0, _, _, h2 => by
  have hd := h2 0 d (Nat.le_refl _) rfl
  by_cases he : d.f3 = n.f3
  ·rw [if_pos ⟨d, rfl, he⟩]
   simp only [insP]
   rw [if_neg hd, if_pos he]
  ·rw [if_neg (by rintro ⟨e, h1, h2⟩; injection h1 with h1; subst h1; exact he h2)]
   simp only [insP]
   rw [if_neg hd, if_neg he]; rfl
 | d :: l, p + 1, hp, h1, h2 => by
  have hd := h1 0 d (Nat.succ_pos _) rfl
  have ih := insP_at n l p (by simpa using hp) (fun i e hi he => h1 (i + 1) e (by omega) (by simpa using he)) (fun i e hi he => h2 (i + 1) e (by omega) (by simpa using he))
  have e : (d :: l)[p + 1]? = l[p]? := rfl
  rw [e]
  simp only [insP]
  rw [if_pos hd, ← ih]
  split <;> rfl
theorem insP_len (n : S41) : ∀ l : List S41, (insP n l).length ≤ l.length + 1 ∧ l.length ≤ (insP n l).length ∧ 1 ≤ (insP n l).length
 | [] => by simp [insP]
 | d :: l => by
  have ih := insP_len n l
  simp only [insP]
  split
  ·simp only [List.length_cons]; omega
  split <;> simp
theorem insP_mem (n : S41) : ∀ (l : List S41) (x : S41), x ∈ insP n l → x = n ∨ x ∈ l
 | [], x, h => by simp only [insP, List.mem_singleton] at h; exact .inl h
 | d :: l, x, h => by
  simp only [insP] at h
  split at h
  ·rcases List.mem_cons.1 h with rfl | h
   ·exact .inr List.mem_cons_self
   ·rcases insP_mem n l x h with h | h
    ·exact .inl h
    ·exact .inr (List.mem_cons_of_mem _ h)
  split at h
  ·exact .inr h
  ·rcases List.mem_cons.1 h with rfl | h
   ·exact .inl rfl
   ·exact .inr h
theorem insP_pw (n : S41) : ∀ {l : List S41}, l.Pairwise (fun a b => a.f3 < b.f3) → (insP n l).Pairwise (fun a b => a.f3 < b.f3)
 | [], _ => by simp [insP]
 | d :: l, h => by
  obtain ⟨h1, h2⟩ := List.pairwise_cons.1 h
  simp only [insP]
  split
  ·rename_i hd
   refine List.pairwise_cons.2 ⟨fun x hx => ?_, insP_pw n h2⟩
   rcases insP_mem n l x hx with rfl | hx
   ·exact hd
   ·exact h1 x hx
  split
  ·exact h
  ·refine List.pairwise_cons.2 ⟨fun x hx => ?_, h⟩
   rcases List.mem_cons.1 hx with rfl | hx
   ·omega
   ·have := h1 x hx; omega
theorem riseP_pw : ∀ {l : List S41}, riseP l = true ↔ l.Pairwise (fun a b => a.f3 < b.f3)
 | [] => by simp [riseP]
 | [a] => by simp [riseP]
 | a :: b :: l => by
  have ih := riseP_pw (l := b :: l)
  show (decide (a.f3 < b.f3) && riseP (b :: l)) = true ↔ _
  rw [Bool.and_eq_true, decide_eq_true_eq, ih, List.pairwise_cons (a := a)]
  constructor
  ·rintro ⟨h1, h2⟩
   refine ⟨fun x hx => ?_, h2⟩
   rcases List.mem_cons.1 hx with rfl | hx
   ·exact h1
   ·exact Int.lt_trans h1 ((List.pairwise_cons.1 h2).1 x hx)
  ·rintro ⟨h1, h2⟩
   exact ⟨h1 b List.mem_cons_self, h2⟩
theorem zii {n : S41} (h : rnS n = true) : 1 ≤ n.f0 ∧ n.f0 ≤ 3 ∧ 0 ≤ n.f1 ∧ n.f1 ≤ 4 ∧ 0 ≤ n.f2 ∧ n.f2 ≤ 549755813888 ∧ zgd n.f5 = true ∧ (n.f0 = 2 → 1 ≤ n.f4 ∧ n.f4 ≤ 16 ∧ 0 ≤ n.f3 ∧ n.f3 < n.f4 ∧ n.f5.length ≤ 1) ∧ (n.f0 = 1 → n.f4 = 0 ∧ n.f3 = 0) := by
 unfold rnS at h
 simp only [Bool.and_eq_true, decide_eq_true_eq] at h
 obtain ⟨a1, a2, a3, a4, a5, a6, a7, a8⟩ := h
 refine ⟨a1, a2, a3, a4, a5, a6, a7, fun h2 => ?_, fun h1 => ?_⟩
 ·rw [if_pos h2] at a8
  simpa only [Bool.and_eq_true, decide_eq_true_eq] using a8
 ·rw [if_neg (by omega), if_neg (by omega)] at a8
  simpa only [Bool.and_eq_true, decide_eq_true_eq] using a8
structure Right (s : S33) : Prop where
 id : 1 ≤ s.f0 ∧ s.f0 ≤ 4
 pos : 0 ≤ s.f1 ∧ s.f1 ≤ 549755813888
 st : zef s.f2 = true
 got : (s.f3 = 0 ∧ s.f4 = 0 ∧ s.f5 = []) ∨ (s.f5.Pairwise (fun a b => a.f3 < b.f3) ∧ (∀ n ∈ s.f5, zfm s n = true) ∧ s.f3 > s.f1 ∧ 1 ≤ s.f4 ∧ s.f4 ≤ 16 ∧ 1 ≤ s.f5.length ∧ (s.f5.length : Int) < s.f4)
theorem right_iff {s : S33} : rightS s = true ↔ Right s := by
 unfold rightS gotS
 simp only [Bool.and_eq_true, Bool.or_eq_true, decide_eq_true_eq, List.all_eq_true, riseP_pw]
 constructor
 ·rintro ⟨a1, a2, a3, a4, a5, h⟩
  refine ⟨⟨a1, a2⟩, ⟨a3, a4⟩, a5, ?_⟩
  rcases h with ⟨h1, h2, h3⟩ | ⟨⟨h1, h2⟩, h3, h4, h5, h6, h7⟩
  ·exact .inl ⟨h1, h2, List.eq_nil_of_length_eq_zero h3⟩
  ·exact .inr ⟨h1, h2, h3, h4, h5, h6, h7⟩
 ·rintro ⟨⟨a1, a2⟩, ⟨a3, a4⟩, a5, h⟩
  refine ⟨a1, a2, a3, a4, a5, ?_⟩
  rcases h with ⟨h1, h2, h3⟩ | ⟨h1, h2, h3, h4, h5, h6, h7⟩
  ·exact .inl ⟨h1, h2, by rw [h3]; rfl⟩
  ·exact .inr ⟨⟨h1, h2⟩, h3, h4, h5, h6, h7⟩
theorem piece_parts {s : S33} {n : S41} (h : zfm s n = true) : n.f0 = 2 ∧ rnS n = true ∧ n.f1 = s.f0 ∧ n.f2 = s.f3 ∧ n.f4 = s.f4 := by
 unfold zfm at h
 simpa only [Bool.and_eq_true, decide_eq_true_eq] using h
theorem piece_mk {s : S33} {n : S41} (h : n.f0 = 2 ∧ rnS n = true ∧ n.f1 = s.f0 ∧ n.f2 = s.f3 ∧ n.f4 = s.f4) : zfm s n = true := by
 unfold zfm
 simpa only [Bool.and_eq_true, decide_eq_true_eq] using h
theorem state_len {l : List S56} (h : zef l = true) : l.length ≤ 16 := by
 unfold zef zgd at h
 simp only [Bool.and_eq_true, decide_eq_true_eq] at h
 exact h.2.1
def okSb (Bs Bn : Nat) (s : S33) : Prop := okG Bs s.f2 ∧ s.f5.length ≤ 1000 ∧ ∀ n ∈ s.f5, okG Bn n.f5
theorem okSb.sub {Bs Bn : Nat} {s : S33} (h : okSb Bs Bn s) : okSub (max Bs Bn) s := ⟨h.1.mono (Nat.le_max_left _ _), h.2.1, fun n hn => (h.2.2 n hn).mono (Nat.le_max_right _ _)⟩
theorem foldA_ok {M : Nat} : ∀ {r out : List S56} {N B : Nat}, okA N B out → (∀ c ∈ r, c.f0.size ≤ 100 ∧ okL c.f1 ∧ c.f1.length ≤ M) → B + M * r.length ≤ 1000000 → okA (N + r.length) (B + M * r.length) (zil out r).1
 | [], out, N, B, h, _, _ => by simpa [zil] using h
 | c :: r, out, N, B, h, hr, hB => by
  rw [List.length_cons] at hB ⊢
  have hMr : M * (r.length + 1) = M * r.length + M := Nat.mul_succ _ _
  simp only [zil]
  split
  ·have := foldA_ok (addC_ok h (hr c List.mem_cons_self) (by omega)) (fun d hd => hr d (List.mem_cons_of_mem _ hd)) (by omega : B + M + M * r.length ≤ 1000000)
   refine ⟨by have := this.1; omega, fun d hd => ?_⟩
   have := this.2 d hd
   exact ⟨this.1, this.2.1, by omega⟩
  ·exact ⟨Nat.zero_le _, fun d hd => by cases hd⟩
theorem item_len {l : List S56} (h : zgd l = true) : l.length ≤ 16 := by
 unfold zgd at h
 rw [Bool.and_eq_true] at h
 exact of_decide_eq_true h.1
theorem zgt {old more : List S56} (h : (zdr old more).2 = 0) : zef (zdr old more).1 = true ∧ zef old = true ∧ zgd more = true ∧ (zil old more).2 = 0 ∧ (zdr old more).1 = (zil old more).1.filter ne0 := by
 unfold zdr finA at h ⊢
 by_cases h1 : zef old = true
 ·rw [if_pos h1] at h ⊢
  by_cases h2 : zgd more = true
  ·rw [if_pos h2] at h ⊢
   by_cases h3 : (zil old more).2 = 0
   ·rw [if_pos h3] at h ⊢
    by_cases h4 : zef ((zil old more).1.filter ne0) = true
    ·rw [if_pos h4]; exact ⟨h4, h1, h2, h3, rfl⟩
    ·rw [if_neg h4] at h; exact absurd h (by decide)
   ·rw [if_neg h3] at h; exact absurd h h3
  ·rw [if_neg h2] at h; exact absurd h (by decide)
 ·rw [if_neg h1] at h; exact absurd h (by decide)
theorem applyS_err {old more : List S56} (h : (zdr old more).2 ≠ 0) : (zdr old more).1 = [] := by
 unfold zdr finA at h ⊢
 by_cases h1 : zef old = true
 ·rw [if_pos h1] at h ⊢
  by_cases h2 : zgd more = true
  ·rw [if_pos h2] at h ⊢
   by_cases h3 : (zil old more).2 = 0
   ·rw [if_pos h3] at h ⊢
    by_cases h4 : zef ((zil old more).1.filter ne0) = true
    ·rw [if_pos h4] at h; exact absurd rfl h
    ·rw [if_neg h4]
   ·rw [if_neg h3]
  ·rw [if_neg h2]
 ·rw [if_neg h1]
theorem applyS_ok {B M : Nat} {old more : List S56} (ho : okG B old) (hm : okG M more) (hB : B + M * 16 ≤ 1000000) : okG (B + M * 16) (zdr old more).1 ∧ (zdr old more).1.length ≤ 16 := by
 by_cases h : (zdr old more).2 = 0
 ·obtain ⟨h1, h2, h3, h4, h5⟩ := zgt h
  have h16 := item_len h3
  have hl := state_len h1
  have := Nat.mul_le_mul_left M h16
  have h6 := foldA_ok (N := 1000) (r := more) (out := old) ho hm.2 (by omega)
  refine ⟨⟨by omega, fun c hc => ?_⟩, hl⟩
  rw [h5] at hc
  have h7 := h6.2 c (List.mem_filter.1 hc).1
  exact ⟨h7.1, h7.2.1, by omega⟩
 ·rw [applyS_err h]
  exact ⟨⟨Nat.zero_le _, fun c hc => by cases hc⟩, Nat.zero_le _⟩
theorem okG_nil (B : Nat) : okG B [] := ⟨Nat.zero_le _, fun c hc => by cases hc⟩
theorem allC_len : ∀ {g : List S41}, (∀ n ∈ g, n.f5.length ≤ 1) → (allC g).length ≤ g.length
 | [], _ => Nat.le_refl _
 | n :: g, h => by
  have h1 := h n List.mem_cons_self
  have h2 := allC_len (g := g) (fun m hm => h m (List.mem_cons_of_mem _ hm))
  have e : allC (n :: g) = n.f5 ++ allC g := by simp [allC]
  rw [e, List.length_append, List.length_cons]; omega
theorem allC_ok {Bn : Nat} {g : List S41} (h : ∀ n ∈ g, okG Bn n.f5) (h1 : ∀ n ∈ g, n.f5.length ≤ 1) (hl : g.length ≤ 500) : okG Bn (allC g) := by
 refine ⟨by have := allC_len h1; omega, fun c hc => ?_⟩
 unfold allC at hc
 obtain ⟨l, hl, hcl⟩ := List.mem_flatten.1 hc
 obtain ⟨n, hn, rfl⟩ := List.mem_map.1 hl
 exact (h n hn).2 c hcl
theorem ahead_got {s : S33} {n : S41} (hs : Right s) (hn : rnS n = true) (h2 : n.f0 = 2) (hp : n.f2 > s.f1) :
  (ahead s n).f5.Pairwise (fun a b => a.f3 < b.f3) ∧ (∀ x ∈ (ahead s n).f5, zfm (ahead s n) x = true) ∧ (ahead s n).f3 > s.f1 ∧ 1 ≤ (ahead s n).f4 ∧ (ahead s n).f4 ≤ 16 ∧ ((ahead s n).f5.length : Int) < (ahead s n).f4 ∧ (ahead s n).f0 = s.f0 ∧ (ahead s n).f1 = s.f1 ∧ (ahead s n).f2 = s.f2 ∧ (∀ x ∈ (ahead s n).f5, x ∈ s.f5) ∧ n.f2 ≤ (ahead s n).f3 := by
 obtain ⟨_, _, _, _, _, _, _, h8, _⟩ := zii hn
 obtain ⟨g1, g2, g3, g4, g5⟩ := h8 h2
 unfold ahead
 by_cases h : s.f3 = 0 ∨ n.f2 > s.f3
 ·rw [if_pos h]
  exact ⟨List.Pairwise.nil, fun x hx => (by cases hx), hp, g1, g2, (by show ((0 : Nat) : Int) < n.f4; omega), rfl, rfl, rfl, fun x hx => (by cases hx), Int.le_refl _⟩
 ·rw [if_neg h]
  rcases hs.got with ⟨q1, _⟩ | ⟨q1, q2, q3, q4, q5, q6, q7⟩
  ·exact absurd (.inl q1) h
  ·exact ⟨q1, q2, q3, q4, q5, q7, rfl, rfl, rfl, fun _ hx => hx, by omega⟩
theorem piece_rng {s : S33} {n : S41} (h : zfm s n = true) : 0 ≤ n.f3 ∧ n.f3 ≤ 1000 ∧ n.f5.length ≤ 1 := by
 obtain ⟨h1, h2, _⟩ := piece_parts h
 obtain ⟨_, _, _, _, _, _, _, h8, _⟩ := zii h2
 obtain ⟨g1, g2, g3, g4, g5⟩ := h8 h1
 omega
theorem gather_ev {Bs Bn : Nat} {s : S33} {n : S41} (hs : Right s) (ho : okSb Bs Bn s) (hn : rnS n = true) (hno : okG Bn n.f5) (h2 : n.f0 = 2) (hp : n.f2 > s.f1) (hB : Bn * 16 ≤ 1000000) :
  Ev (fun k => zbi.f k s.f0 s.f1 s.f2 s.f3 s.f4 s.f5 n.f0 n.f1 n.f2 n.f3 n.f4 n.f5) (tupS (zhl s n)) := by
 obtain ⟨a1, a2, a3, a4, a5, a6, a7, a8, a9, a10, a11⟩ := ahead_got hs hn h2 hp
 obtain ⟨_, _, _, _, _, _, _, h8, _⟩ := zii hn
 obtain ⟨g1, g2, g3, g4, g5⟩ := h8 h2
 obtain ⟨t, ht⟩ : ∃ t, t = ahead s n := ⟨_, rfl⟩
 have hh : Ev (fun k => zbi.h k s.f0 s.f1 s.f2 t.f3 t.f4 t.f5 n) (tupS (zhl s n)) := by
  unfold zhl
  rw [← ht] at a1 a2 a3 a4 a5 a6 a7 a8 a9 a10 a11 ⊢
  unfold zbi.h
  by_cases hm : n.f2 = t.f3 ∧ n.f4 = t.f4
  ·rw [if_pos hm]
   refine Ev.pos hm ?_
   obtain ⟨p, p1, p2, p3, p4⟩ := sp_ev t.f5 (by omega) n.f3 ⟨g3, by omega⟩ (fun c hc => by have := piece_rng (a2 c hc); omega) a1
   refine Ev.bind p4 ?_
   have hi := insP_at n t.f5 p p1 p2 p3
   have eo : (if (decide (∃ d, t.f5[p]? = some d ∧ d.f3 = n.f3)) = true then some t.f5 else (zer.f t.f5).bind fun c => zfh.f c (p : Int) [n]) = some (insP n t.f5) := by
    rw [← hi]
    by_cases hf : ∃ d, t.f5[p]? = some d ∧ d.f3 = n.f3
    ·rw [decide_eq_true hf, if_pos rfl, if_pos hf]
    ·rw [decide_eq_false hf, if_neg (by decide), if_neg hf]
     unfold zer.f
     rw [if_pos (by omega)]
     show zfh.f t.f5 (p : Int) [n] = _
     unfold zfh.f
     rw [if_pos ⟨nn p, by omega, rfl, by omega⟩, Int.toNat_natCast]
   simp only []
   rw [eo]
   refine Ev.bind (Ev.of rfl) ?_
   unfold zbi.g fullS
   have hlen := insP_len n t.f5
   by_cases hl : ((insP n t.f5).length : Int) < t.f4
   ·rw [if_pos hl]
    refine Ev.pos hl (Ev.of ?_)
    unfold tupS
    rw [a7, a8, a9]
   ·have hall : ∀ m ∈ insP n t.f5, okG Bn m.f5 ∧ m.f5.length ≤ 1 := fun m hm' => by
     rcases insP_mem n _ m hm' with rfl | h
     ·exact ⟨hno, g5⟩
     ·exact ⟨ho.2.2 m (a10 m h), (piece_rng (a2 m h)).2.2⟩
    have hok := allC_ok (fun m hm => (hall m hm).1) (fun m hm => (hall m hm).2) (by omega)
    have hll := allC_len (fun m hm => (hall m hm).2)
    have hap := apply_ev [] (allC (insP n t.f5)) (okG_nil 0) hok (Nat.zero_le _) (by omega) (by omega)
    rw [if_neg hl]
    refine Ev.neg hl (Ev.pos ⟨by have := hll; unfold allC at this; omega, by omega⟩ (Ev.bind hap ?_))
    by_cases h0 : (zdr [] (allC (insP n t.f5))).2 = 0
    ·simp only [if_pos h0]
     refine Ev.of ?_
     unfold tupS
     rw [a7]
    ·simp only [if_neg h0]
     refine Ev.of ?_
     unfold tupS
     rw [a7, a8, a9]
  ·rw [if_neg hm]
   refine Ev.neg hm (Ev.of ?_)
   unfold tupS
   rw [a7, a8, a9]
 unfold zbi.f
 by_cases h : s.f3 = 0 ∨ n.f2 > s.f3
 ·have e : t = ⟨s.f0, s.f1, s.f2, n.f2, n.f4, []⟩ := by rw [ht]; unfold ahead; rw [if_pos h]
  rw [e] at hh
  exact Ev.pos h hh
 ·have e : t = s := by rw [ht]; unfold ahead; rw [if_neg h]
  rw [e] at hh
  exact Ev.neg h hh
theorem bne_t {a b : Int} (h : a ≠ b) : (a != b) = true := by simpa using h
theorem bne_f {a b : Int} (h : a = b) : (a != b) = false := by simp [h]
theorem hear_ev {Bs Bn : Nat} {s : S33} {n : S41} (ho : okSb Bs Bn s) (hno : okG Bn n.f5) (hB : Bs + Bn * 16 ≤ 1000000) :
  Ev (fun k => zbt.f k s.f0 s.f1 s.f2 s.f3 s.f4 s.f5 n.f0 n.f1 n.f2 n.f3 n.f4 n.f5) (tupS (zim s n)) := by
 have stop : Ev (fun k => zbt.j0 k true s.f0 s.f1 s.f2 s.f3 s.f4 s.f5 n.f0 n.f1 n.f2 n.f3 n.f4 n.f5) (tupS s) := by
  apply Ev.succ
  simp only [zbt.j0]
  exact Ev.pos trivial (Ev.pure _)
 unfold zbt.f
 refine Ev.bind (subright_ev s ho.sub) ?_
 by_cases hr : rightS s = true
 ·rw [hr]
  refine Ev.pos rfl (Ev.bind (rn_ev n hno) ?_)
  by_cases hn : rnS n = true
  ·rw [hn]
   refine Ev.pos rfl ?_
   by_cases h1 : n.f1 = s.f0
   ·rw [bne_f h1]
    unfold zim
    rw [if_pos ⟨hr, hn, h1⟩]
    have hR := right_iff.1 hr
    have hP := zii hn
    apply Ev.succ
    simp only [zbt.j0]
    refine Ev.neg (by decide) ?_
    by_cases k1 : n.f0 = 1
    ·rw [if_pos k1]
     refine Ev.pos k1 ?_
     have l1 := state_len hR.st
     have l2 := item_len hP.2.2.2.2.2.2.1
     refine Ev.bind (apply_ev s.f2 n.f5 ho.1 hno (by omega) (by omega) hB) ?_
     have hw : wrap64 (s.f1 + 1) = s.f1 + 1 := w64 (by have := hR.pos; omega) (by have := hR.pos; omega)
     rw [hw]
     have jt : Ev (fun k => zbt.j1 k (zdr s.f2 n.f5).1 true s.f0 s.f1 s.f2 s.f3 s.f4 s.f5 n.f0 n.f1 n.f2 n.f3 n.f4 n.f5) (tupS s) := by
      apply Ev.succ
      simp only [zbt.j1]
      exact Ev.pos trivial (Ev.pure _)
     unfold nextS
     by_cases q1 : n.f2 = s.f1 + 1
     ·refine Ev.pos q1 ?_
      by_cases q2 : (zdr s.f2 n.f5).2 = 0
      ·rw [if_pos ⟨q1, q2⟩, bne_f q2]
       apply Ev.succ
       simp only [zbt.j1]
       refine Ev.neg (by decide) ?_
       by_cases q3 : s.f3 ≤ n.f2
       ·simp only [if_pos q3]; exact Ev.of rfl
       ·simp only [if_neg q3]; exact Ev.of rfl
      ·rw [if_neg (fun h => q2 h.2), bne_t q2]
       exact jt
     ·rw [if_neg (fun h => q1 h.1)]
      exact Ev.neg q1 jt
    ·rw [if_neg k1]
     refine Ev.neg k1 ?_
     by_cases k2 : n.f0 = 2
     ·rw [if_pos k2]
      refine Ev.pos k2 ?_
      by_cases k3 : n.f2 > s.f1
      ·rw [if_pos k3]
       exact Ev.pos k3 (Ev.bind (gather_ev hR ho hn hno k2 k3 (by omega)) (Ev.pure _))
      ·rw [if_neg k3]
       exact Ev.neg k3 (Ev.pure _)
     ·rw [if_neg k2]
      exact Ev.neg k2 (Ev.pure _)
   ·rw [bne_t h1]
    have : zim s n = s := by unfold zim; rw [if_neg (fun h => h1 h.2.2)]
    rw [this]; exact stop
  ·have : zim s n = s := by unfold zim; rw [if_neg (fun h => hn h.2.1)]
   rw [this, Bool.eq_false_iff.2 hn]
   exact Ev.neg (by decide) stop
 ·have : zim s n = s := by unfold zim; rw [if_neg (fun h => hr h.1)]
  rw [this, Bool.eq_false_iff.2 hr]
  exact Ev.neg (by decide) stop
theorem next_right {s : S33} {n : S41} (hs : Right s) (hn : rnS n = true) : Right (nextS s n) ∧ s.f1 ≤ (nextS s n).f1 ∧ (nextS s n).f0 = s.f0 := by
 have hP := zii hn
 unfold nextS
 by_cases h : n.f2 = s.f1 + 1 ∧ (zdr s.f2 n.f5).2 = 0
 ·rw [if_pos h]
  have hst := (zgt h.2).1
  have hp : 0 ≤ n.f2 ∧ n.f2 ≤ 549755813888 := ⟨hP.2.2.2.2.1, hP.2.2.2.2.2.1⟩
  by_cases h3 : s.f3 ≤ n.f2
  ·rw [if_pos h3]
   exact ⟨⟨hs.id, hp, hst, .inl ⟨rfl, rfl, rfl⟩⟩, by show s.f1 ≤ n.f2; omega, rfl⟩
  ·rw [if_neg h3]
   refine ⟨⟨hs.id, hp, hst, ?_⟩, by show s.f1 ≤ n.f2; omega, rfl⟩
   rcases hs.got with ⟨q1, _⟩ | ⟨q1, q2, q3, q4⟩
   ·exact absurd q1 (by omega)
   ·exact .inr ⟨q1, q2, by show s.f3 > n.f2; omega, q4⟩
 ·rw [if_neg h]
  exact ⟨hs, Int.le_refl _, rfl⟩
theorem gather_right {s : S33} {n : S41} (hs : Right s) (hn : rnS n = true) (h1 : n.f1 = s.f0) (h2 : n.f0 = 2) (hp : n.f2 > s.f1) : Right (zhl s n) ∧ s.f1 ≤ (zhl s n).f1 ∧ (zhl s n).f0 = s.f0 := by
 obtain ⟨a1, a2, a3, a4, a5, a6, a7, a8, a9, a10, a11⟩ := ahead_got hs hn h2 hp
 have hP := zii hn
 unfold zhl
 by_cases hm : n.f2 = (ahead s n).f3 ∧ n.f4 = (ahead s n).f4
 ·rw [if_pos hm]
  generalize ahead s n = t at a1 a2 a3 a4 a5 a6 a7 a8 a9 a10 a11 hm ⊢
  have hid : 1 ≤ t.f0 ∧ t.f0 ≤ 4 := by rw [a7]; exact hs.id
  have hpos : 0 ≤ t.f1 ∧ t.f1 ≤ 549755813888 := by rw [a8]; exact hs.pos
  have hst : zef t.f2 = true := by rw [a9]; exact hs.st
  unfold fullS
  by_cases hl : ((insP n t.f5).length : Int) < t.f4
  ·rw [if_pos hl]
   refine ⟨⟨hid, hpos, hst, .inr ⟨insP_pw n a1, fun x hx => ?_, by show t.f3 > t.f1; omega, a4, a5, (insP_len n t.f5).2.2, hl⟩⟩, by show s.f1 ≤ t.f1; omega, a7⟩
   rcases insP_mem n _ x hx with rfl | hx
   ·exact piece_mk ⟨h2, hn, by show x.f1 = t.f0; rw [a7]; exact h1, hm.1, hm.2⟩
   ·exact a2 x hx
  ·rw [if_neg hl]
   by_cases h0 : (zdr [] (allC (insP n t.f5))).2 = 0
   ·rw [if_pos h0]
    exact ⟨⟨hid, ⟨by show 0 ≤ t.f3; omega, by show t.f3 ≤ _; have := hP.2.2.2.2.2.1; omega⟩, (zgt h0).1, .inl ⟨rfl, rfl, rfl⟩⟩, by show s.f1 ≤ t.f3; omega, a7⟩
   ·rw [if_neg h0]
    exact ⟨⟨hid, hpos, hst, .inl ⟨rfl, rfl, rfl⟩⟩, by show s.f1 ≤ t.f1; omega, a7⟩
 ·rw [if_neg hm]
  have : ahead s n = s := by
   unfold ahead at hm ⊢
   by_cases h : s.f3 = 0 ∨ n.f2 > s.f3
   ·rw [if_pos h] at hm; exact absurd ⟨rfl, rfl⟩ hm
   ·rw [if_neg h]
  rw [this]
  exact ⟨hs, Int.le_refl _, rfl⟩
theorem hear_right {s : S33} (n : S41) (hs : Right s) : Right (zim s n) ∧ s.f1 ≤ (zim s n).f1 ∧ (zim s n).f0 = s.f0 := by
 unfold zim
 split
 ·rename_i h
  split
  ·exact next_right hs h.2.1
  split
  ·split
   ·exact gather_right hs h.2.1 h.2.2 (by assumption) (by assumption)
   ·exact ⟨hs, Int.le_refl _, rfl⟩
  ·exact ⟨hs, Int.le_refl _, rfl⟩
 ·exact ⟨hs, Int.le_refl _, rfl⟩
theorem okSb.mono {Bs Bs' Bn : Nat} {s : S33} (h : okSb Bs Bn s) (hb : Bs ≤ Bs') : okSb Bs' Bn s := ⟨h.1.mono hb, h.2⟩
end Go.Proofs.YtchpbnabbjdfgaaDoor.Pure
