-- HALVED
import Derived.Test.YtchpbnabbjdfgaaDoorPureB7
import Derived.Test.YtchpbnabbjdfgaaDoorPx0
import Derived.Test.YtchpbnabbjdfgaaDoorPx23
import Derived.Test.YtchpbnabbjdfgaaDoorPx34
import Derived.Test.YtchpbnabbjdfgaaDoorPx37
import Derived.Test.YtchpbnabbjdfgaaDoorPx82
namespace Go.Proofs.YtchpbnabbjdfgaaDoor.Pure
open Go.ChangeShapes Go.WideShapes Go.ChangeAt Go.RowKit Go.Proofs.YtchpbnabbjdfgaaDoorW.PrintWords Go.Proofs.YtchpbnabbjdfgaaDoorW.PrintLast Go.Proofs.YtchpbnabbjdfgaaDoor.P Go.Proofs.YtchpbnabbjdfgaaDoor.Open
set_option linter.unusedVariables false
set_option linter.unusedSimpArgs false
def EvE {α : Type} (g : Nat → Option α) : Prop := ∃ v, Ev g v
theorem EvE.ite {α : Type} {c : Prop} [Decidable c] {g h : Nat → Option α} (h1 : c → EvE g) (h2 : ¬ c → EvE h) : EvE (fun k => if c then g k else h k) := by
 by_cases hc : c
 ·obtain ⟨v, hv⟩ := h1 hc; exact ⟨v, Ev.pos hc hv⟩
 ·obtain ⟨v, hv⟩ := h2 hc; exact ⟨v, Ev.neg hc hv⟩
theorem EvE.pure {α : Type} (v : α) : EvE (fun _ => some v) := ⟨v, Ev.pure v⟩
theorem EvE.succ {α : Type} {g : Nat → Option α} (h : EvE (fun k => g (k + 1))) : EvE g := by
 obtain ⟨v, hv⟩ := h; exact ⟨v, Ev.succ hv⟩
theorem word_some (s : ByteArray) : ∃ b, zes.f s = some b := by
 have : EvE (fun _ => zes.f s) := by
  unfold zes.f
  repeat' first | exact EvE.pure _ | refine EvE.ite (fun _ => ?_) (fun _ => ?_)
 obtain ⟨v, k, h⟩ := this
 exact ⟨v, h k (Nat.le_refl _)⟩
theorem nm_go (s : ByteArray) (hs : s.size ≤ 1000000) : ∀ (d i : Nat), s.size - i = d → EvE (fun k => zbh.l0 k s (s.size : Int) (i : Int))
 | 0, i, h => by
  obtain ⟨b, hb⟩ := word_some s
  apply EvE.succ
  simp only [zbh.l0, hb]
  exact EvE.ite (fun h => by omega) (fun _ => EvE.ite (fun _ => EvE.ite (fun _ => EvE.pure _) (fun _ => EvE.pure _)) (fun _ => EvE.pure _))
 | d + 1, i, h => by
  have hi : i < s.size := by omega
  have ih := nm_go s hs d (i + 1) (by omega)
  apply EvE.succ
  simp only [zbh.l0]
  rw [ws (by omega)]
  have A : EvE (fun k => if (i : Int) = 0 then some false else if bt s (i : Int) = 95 then zbh.l0 k s (s.size : Int) ((i + 1 : Nat) : Int) else if bt s (i : Int) < 48 then some false else if bt s (i : Int) > 57 then some false else zbh.l0 k s (s.size : Int) ((i + 1 : Nat) : Int)) :=
   EvE.ite (fun _ => EvE.pure _) (fun _ => EvE.ite (fun _ => ih) (fun _ => EvE.ite (fun _ => EvE.pure _) (fun _ => EvE.ite (fun _ => EvE.pure _) (fun _ => ih))))
  exact EvE.ite (fun _ => EvE.ite (fun _ => EvE.ite (fun _ => EvE.ite (fun _ => EvE.ite (fun _ => ih) (fun _ => A)) (fun _ => A)) (fun h => by omega)) (fun h => by omega)) (fun h => by omega)
theorem name_ex (s : ByteArray) (hs : s.size ≤ 1000000) : EvE (fun k => zbh.f k s) := nm_go s hs s.size 0 rfl
open Classical in
noncomputable def nm (s : ByteArray) : Bool := if h : EvE (fun k => zbh.f k s) then Classical.choose h else false
theorem nm_ev (s : ByteArray) (hs : s.size ≤ 1000000) : Ev (fun k => zbh.f k s) (nm s) := by
 have h := name_ex s hs
 unfold nm
 rw [dif_pos h]
 exact Classical.choose_spec h
def okG (B : Nat) (l : List S56) : Prop := l.length ≤ 1000 ∧ ∀ c ∈ l, c.f0.size ≤ 100 ∧ okL c.f1 ∧ c.f1.length ≤ B
theorem okG.mono {B B' : Nat} {l : List S56} (h : okG B l) (hb : B ≤ B') : okG B' l := ⟨h.1, fun c hc => ⟨(h.2 c hc).1, (h.2 c hc).2.1, Nat.le_trans (h.2 c hc).2.2 hb⟩⟩
noncomputable def goodC (c : S56) : Bool := nm c.f0 && (!c.f1.isEmpty && bagR c.f1)
noncomputable def zgd (l : List S56) : Bool := decide (l.length ≤ 16) && l.all goodC
theorem len0 {α : Type} (l : List α) : ((l.length : Int) = 0) ↔ l.isEmpty = true := by cases l <;> simp <;> omega
theorem item1_ev (c : S56) (h1 : c.f0.size ≤ 100) (h2 : okL c.f1) : Ev (fun k => zcn.f k c.f0 c.f1) (!goodC c) := by
 unfold zcn.f goodC
 refine Ev.bind (nm_ev _ (by omega)) ?_
 by_cases hn : nm c.f0 = true
 ·rw [hn, Bool.true_and]
  refine Ev.pos rfl ?_
  by_cases he : c.f1.isEmpty = true
  ·rw [he]; exact Ev.pos ((len0 _).2 he) (Ev.pure _)
  ·refine Ev.neg (fun h => he ((len0 _).1 h)) ?_
   rw [Bool.eq_false_iff.2 he]
   exact Ev.bind (right_ev _ h2) (Ev.pure _)
 ·rw [Bool.eq_false_iff.2 hn]
  exact Ev.neg (by decide) (Ev.pure _)
theorem items_go {B : Nat} (l : List S56) (hl : okG B l) : ∀ (t : List S56) (i : Nat), l.drop i = t → Ev (fun k => (zaj.l0 k l (l.length : Int) (i : Int)).bind fun n => some (decide (n ≥ 0))) (!t.all goodC)
 | [], i, h => by
  apply Ev.succ
  simp only [zaj.l0]
  exact Ev.bind (Ev.neg (dn h) (Ev.pure _)) (Ev.pure _)
 | c :: t, i, h => by
  obtain ⟨h1, h2, h3, h4, h5⟩ := ds h
  have hll := hl.1
  have hc := hl.2 c (List.mem_of_getElem? h5)
  apply Ev.succ
  simp only [zaj.l0]
  have e : zbb l (i : Int) = c := h2 _
  obtain ⟨ka, ha⟩ := item1_ev c hc.1 hc.2.1
  rw [e, ws (by omega), List.all_cons]
  by_cases hv : goodC c = true
  ·rw [hv, Bool.true_and]
   rw [hv] at ha
   obtain ⟨kb, hb⟩ := items_go l hl t (i + 1) h3
   refine ⟨max ka kb, fun k hk => ?_⟩
   have := hb k (by omega)
   have hak : zcn.f k c.f0 c.f1 = some (!true) := ha k (by omega)
   simp only [] at this ⊢
   rw [if_pos h1, if_pos (nn i), if_pos h1, hak]
   exact this
  ·rw [Bool.eq_false_iff.2 hv, Bool.false_and]
   rw [Bool.eq_false_iff.2 hv] at ha
   refine ⟨ka, fun k hk => ?_⟩
   have hak : zcn.f k c.f0 c.f1 = some (!false) := ha k hk
   simp only []
   rw [if_pos h1, if_pos (nn i), if_pos h1, hak]
   simp
theorem fitem_ev {B : Nat} (l : List S56) (hl : okG B l) : Ev (fun k => zdk.f k l) (zgd l) := by
 unfold zdk.f zgd
 by_cases h : l.length ≤ 16
 ·rw [decide_eq_true h, Bool.true_and]
  have := items_go l hl l 0 rfl
  refine Ev.pos (by omega) (Ev.bind this ?_)
  rw [Bool.not_not]; exact Ev.pure _
 ·rw [decide_eq_false h, Bool.false_and]
  exact Ev.neg (by omega) (Ev.pure _)
noncomputable def rnS (n : S41) : Bool :=
 decide (1 ≤ n.f0) && (decide (n.f0 ≤ 3) && (decide (0 ≤ n.f1) && (decide (n.f1 ≤ 4) && (decide (0 ≤ n.f2) && (decide (n.f2 ≤ 549755813888) && (zgd n.f5 &&
 (if n.f0 = 2 then decide (1 ≤ n.f4) && (decide (n.f4 ≤ 16) && (decide (0 ≤ n.f3) && (decide (n.f3 < n.f4) && decide (n.f5.length ≤ 1))))
  else if n.f0 = 3 then decide (n.f4 = 0) && (decide (n.f3 = 0) && decide (n.f5.length = 0)) else decide (n.f4 = 0) && decide (n.f3 = 0))))))))
theorem tb {c : Prop} [Decidable c] {g h : Nat → Option Bool} {v : Bool} (h1 : c → Ev g v) (h2 : Ev h false) : Ev (fun k => if c then g k else h k) (decide c && v) := by
 by_cases hc : c
 ·rw [decide_eq_true hc, Bool.true_and]; exact Ev.pos hc (h1 hc)
 ·rw [decide_eq_false hc, Bool.false_and]; exact Ev.neg hc h2
theorem tn {c : Prop} [Decidable c] {d : Prop} [Decidable d] {g h : Nat → Option Bool} {v : Bool} (he : c ↔ ¬ d) (h1 : Ev g false) (h2 : d → Ev h v) : Ev (fun k => if c then g k else h k) (decide d && v) := by
 by_cases hd : d
 ·rw [decide_eq_true hd, Bool.true_and]; exact Ev.neg (fun hc => he.1 hc hd) (h2 hd)
 ·rw [decide_eq_false hd, Bool.false_and]; exact Ev.pos (he.2 hd) h1
theorem nat0 (n : Nat) : ((n : Int) == 0) = decide (n = 0) := by
 rw [Bool.eq_iff_iff]; simp
theorem rn_ev {B : Nat} (n : S41) (h : okG B n.f5) : Ev (fun k => zan.f k n.f0 n.f1 n.f2 n.f3 n.f4 n.f5) (rnS n) := by
 have stop : ∀ a b c d e f, Ev (fun k => zan.j0 k true a b c d e f) false := fun a b c d e f => by
  apply Ev.succ
  simp only [zan.j0]
  exact Ev.pos trivial (Ev.pure _)
 unfold zan.f rnS
 refine tn (by omega) (stop ..) fun _ => tn (by omega) (stop ..) fun _ => tn (by omega) (stop ..) fun _ => tn (by omega) (stop ..) fun _ => tn (by omega) (stop ..) fun _ => tn (by omega) (stop ..) fun _ => ?_
 refine Ev.bind (fitem_ev _ h) ?_
 by_cases hi : zgd n.f5 = true
 ·rw [hi, Bool.true_and]
  apply Ev.succ
  simp only [zan.j0]
  refine Ev.neg (by decide) ?_
  by_cases h2 : n.f0 = 2
  ·rw [if_pos h2, if_pos h2]
   refine tb (c := n.f4 ≥ 1) (fun _ => tb (c := n.f4 ≤ 16) (fun _ => tb (c := n.f3 ≥ 0) (fun _ => tb (c := n.f3 < n.f4) (fun _ => Ev.of ?_) (Ev.pure _)) (Ev.pure _)) (Ev.pure _)) (Ev.pure _)
   congr 2
   exact propext (by omega)
  ·rw [if_neg h2, if_neg h2]
   by_cases h3 : n.f0 = 3
   ·rw [if_pos h3, if_pos h3]
    refine tb (fun _ => tb (fun _ => Ev.of ?_) (Ev.pure _)) (Ev.pure _)
    rw [nat0]
   ·rw [if_neg h3, if_neg h3]
    refine tb (fun _ => Ev.of ?_) (Ev.pure _)
    rfl
 ·rw [Bool.eq_false_iff.2 hi, Bool.false_and]
  exact stop ..
theorem rn1 (l : List S56) : rnS ⟨1, 0, 0, 0, 0, l⟩ = zgd l := by unfold rnS; simp
theorem item_ev {B : Nat} (l : List S56) (h : okG B l) : Ev (fun k => zen.f k l) (zgd l) := by
 have := rn_ev (⟨1, 0, 0, 0, 0, l⟩ : S41) h
 rw [rn1] at this
 exact Ev.bind this (Ev.pure _)
def ltN (a b : ByteArray) : Prop := Op.bytesLess a.toList b.toList = true
instance (a b : ByteArray) : Decidable (ltN a b) := by unfold ltN; infer_instance
theorem ba_ext {a b : ByteArray} (h : a.toList = b.toList) : a = b := by
 rw [ByteArray.toList_eq, ByteArray.toList_eq] at h
 cases a; cases b; congr; exact Array.toList_inj.1 h
theorem ltN.irr (a : ByteArray) : ¬ ltN a a := fun h => by have := less_iff _ _ h; unfold ltN at h; rw [h] at this; cases this
theorem ltN.tr {a b c : ByteArray} (h1 : ltN a b) (h2 : ltN b c) : ltN a c := less_trans _ _ _ h1 h2
theorem ltN.asym {a b : ByteArray} (h : ltN a b) : ¬ ltN b a := fun h' => ltN.irr a (h.tr h')
theorem ltN.tri (a b : ByteArray) : ltN a b ∨ a = b ∨ ltN b a := by
 by_cases h : ltN a b
 ·exact .inl h
 by_cases h' : ltN b a
 ·exact .inr (.inr h')
 ·exact .inr (.inl (ba_ext (less_tri _ _ (Bool.eq_false_iff.2 h) (Bool.eq_false_iff.2 h'))))
def riseN : List S56 → Bool
 | [] => true
 | a :: l => (match l with | [] => true | b :: _ => decide (ltN a.f0 b.f0)) && riseN l
noncomputable def zef (l : List S56) : Bool := (riseN l && l.all fun c => wholeR c.f1) && zgd l
theorem state_go {B : Nat} (l : List S56) (hl : okG B l) : ∀ (t : List S56) (i : Nat), l.drop i = t →
  Ev (fun k => zbg.l0 k l l (l.length : Int) (i : Int)) ((riseN ((l.take i).drop (i - 1) ++ t) && t.all fun c => wholeR c.f1) && zgd l)
 | [], i, h => by
  apply Ev.succ
  simp only [zbg.l0]
  have : riseN ((l.take i).drop (i - 1) ++ []) = true := by
   rw [List.append_nil]
   have hlen : ((l.take i).drop (i - 1)).length ≤ 1 := by rw [List.length_drop, List.length_take]; omega
   match (l.take i).drop (i - 1), hlen with
   | [], _ => rfl
   | [_], _ => rfl
   | _ :: _ :: _, hh => simp at hh
  rw [this, List.all_nil, Bool.true_and, Bool.true_and]
  exact Ev.neg (dn h) (Ev.bind (item_ev _ hl) (Ev.pure _))
 | c :: t, i, h => by
  obtain ⟨h1, h2, h3, h4, h5⟩ := ds h
  have hm : c ∈ l := List.mem_of_getElem? h5
  have hc := hl.2 c hm
  have hll := hl.1
  have e : zbb l (i : Int) = c := h2 _
  apply Ev.succ
  simp only [zbg.l0]
  rw [e, ws (by omega)]
  refine Ev.pos h1 (Ev.pos (nn i) (Ev.pos h1 ?_))
  have ih := state_go l hl t (i + 1) h3
  have htk : (l.take (i + 1)).drop (i + 1 - 1) = [c] := by
   rw [Nat.add_sub_cancel, List.take_succ_eq_append_getElem h4, List.drop_left' (by rw [List.length_take]; omega)]
   have := List.getElem?_eq_getElem h4
   rw [h5] at this
   rw [Option.some.inj this]
  rw [htk] at ih
  have rest : ∀ v, riseN ((l.take i).drop (i - 1) ++ c :: t) = (v && riseN (c :: t)) → v = true → Ev (fun k => (zcz.f k c.f1).bind fun t157 => if t157 = true then zbg.l0 k l l (l.length : Int) ((i + 1 : Nat) : Int) else some false) ((riseN ((l.take i).drop (i - 1) ++ c :: t) && (c :: t).all fun c => wholeR c.f1) && zgd l) := by
   intro v hv hvt
   rw [hv, hvt, Bool.true_and, List.all_cons]
   refine Ev.bind (whole_ev _ hc.2.1) ?_
   by_cases hw : wholeR c.f1 = true
   ·rw [hw, Bool.true_and]
    exact Ev.pos rfl ih
   ·rw [Bool.eq_false_iff.2 hw, Bool.false_and, Bool.and_false, Bool.false_and]
    exact Ev.neg (by decide) (Ev.pure _)
  by_cases hi0 : i = 0
  ·subst hi0
   exact Ev.neg (by omega) (rest true rfl rfl)
  ·apply Ev.pos (by omega)
   obtain ⟨p, hp⟩ : ∃ p, l[i - 1]? = some p := ⟨l[i - 1]'(by omega), List.getElem?_eq_getElem _⟩
   have hpd : (l.take i).drop (i - 1) = [p] := by
    obtain ⟨j, rfl⟩ : ∃ j, i = j + 1 := ⟨i - 1, by omega⟩
    rw [Nat.add_sub_cancel] at hp ⊢
    rw [List.take_succ_eq_append_getElem (by omega), List.drop_left' (by rw [List.length_take]; omega)]
    rw [List.getElem?_eq_getElem (by omega)] at hp
    rw [Option.some.inj hp]
   have hw : wrap64 ((i : Int) - 1) = ((i - 1 : Nat) : Int) := by rw [w64 (by omega) (by omega)]; omega
   have ep : zbb l ((i - 1 : Nat) : Int) = p := by
    unfold zbb
    rw [Int.toNat_natCast, List.getD_eq_getElem?_getD, hp]
    rfl
   have hr : riseN ((l.take i).drop (i - 1) ++ c :: t) = (decide (ltN p.f0 c.f0) && riseN (c :: t)) := by rw [hpd]; rfl
   rw [hw, ep]
   refine Ev.pos (nn _) (Ev.pos (by omega) ?_)
   by_cases hlt : ltN p.f0 c.f0
   ·exact Ev.pos hlt (rest _ hr (decide_eq_true hlt))
   ·rw [hr, decide_eq_false hlt, Bool.false_and, Bool.false_and, Bool.false_and]
    exact Ev.neg hlt (Ev.pure _)
theorem state_ev {B : Nat} (l : List S56) (hl : okG B l) : Ev (fun k => zbg.f k l) (zef l) := state_go l hl l 0 rfl
def riseP : List S41 → Bool
 | [] => true
 | a :: l => (match l with | [] => true | b :: _ => decide (a.f3 < b.f3)) && riseP l
noncomputable def zfm (s : S33) (n : S41) : Bool := decide (n.f0 = 2) && (rnS n && (decide (n.f1 = s.f0) && (decide (n.f2 = s.f3) && decide (n.f4 = s.f4))))
noncomputable def gotS (s : S33) : Bool := (riseP s.f5 && s.f5.all (zfm s)) && (decide (s.f3 > s.f1) && (decide (s.f4 ≥ 1) && (decide (s.f4 ≤ 16) && (decide (s.f5.length ≥ 1) && decide ((s.f5.length : Int) < s.f4)))))
noncomputable def rightS (s : S33) : Bool := decide (1 ≤ s.f0) && (decide (s.f0 ≤ 4) && (decide (0 ≤ s.f1) && (decide (s.f1 ≤ 549755813888) && (zef s.f2 && ((decide (s.f3 = 0) && (decide (s.f4 = 0) && decide (s.f5.length = 0))) || gotS s)))))
def okSub (B : Nat) (s : S33) : Prop := okG B s.f2 ∧ s.f5.length ≤ 1000 ∧ ∀ n ∈ s.f5, okG B n.f5
theorem got_go {B : Nat} (s : S33) (hs : okSub B s) : ∀ (t : List S41) (i : Nat), s.f5.drop i = t →
  Ev (fun k => zav.l0 k s.f5 (s.f5.length : Int) (i : Int) s.f0 s.f1 s.f2 s.f3 s.f4 s.f5) ((riseP ((s.f5.take i).drop (i - 1) ++ t) && t.all (zfm s)) && (decide (s.f3 > s.f1) && (decide (s.f4 ≥ 1) && (decide (s.f4 ≤ 16) && (decide (s.f5.length ≥ 1) && decide ((s.f5.length : Int) < s.f4))))))
 | [], i, h => by
  apply Ev.succ
  simp only [zav.l0]
  have : riseP ((s.f5.take i).drop (i - 1) ++ []) = true := by
   rw [List.append_nil]
   have hlen : ((s.f5.take i).drop (i - 1)).length ≤ 1 := by rw [List.length_drop, List.length_take]; omega
   match (s.f5.take i).drop (i - 1), hlen with
   | [], _ => rfl
   | [_], _ => rfl
   | _ :: _ :: _, hh => simp at hh
  rw [this, List.all_nil, Bool.true_and, Bool.true_and]
  refine Ev.neg (dn h) (tb (fun _ => tb (fun _ => tb (fun _ => ?_) (Ev.pure _)) (Ev.pure _)) (Ev.pure _))
  have e : decide (s.f5.length ≥ 1) = decide ((s.f5.length : Int) ≥ 1) := by congr 1; exact propext (by omega)
  rw [e]
  exact tb (fun _ => Ev.pure _) (Ev.pure _)
 | c :: t, i, h => by
  obtain ⟨h1, h2, h3, h4, h5⟩ := ds h
  have hm : c ∈ s.f5 := List.mem_of_getElem? h5
  have hc := hs.2.2 c hm
  have hll := hs.2.1
  have e : zac s.f5 (i : Int) = c := h2 _
  apply Ev.succ
  simp only [zav.l0]
  rw [e, ws (by omega)]
  refine Ev.pos h1 (Ev.pos (nn i) (Ev.pos h1 ?_))
  have ih := got_go s hs t (i + 1) h3
  have htk : (s.f5.take (i + 1)).drop (i + 1 - 1) = [c] := by
   rw [Nat.add_sub_cancel, List.take_succ_eq_append_getElem h4, List.drop_left' (by rw [List.length_take]; omega)]
   have := List.getElem?_eq_getElem h4
   rw [h5] at this
   rw [Option.some.inj this]
  rw [htk] at ih
  rw [List.all_cons]
  have bad : ∀ {g : Nat → Option Bool} {v x : Bool}, zfm s c = false → Ev g false → Ev g ((v && (zfm s c && t.all (zfm s))) && x) := fun h0 hg => by
   rw [h0, Bool.false_and, Bool.and_false, Bool.false_and]; exact hg
  by_cases p0 : c.f0 = 2
  ·by_cases p1 : rnS c = true
   ·by_cases p2 : c.f1 = s.f0
    ·by_cases p3 : c.f2 = s.f3
     ·by_cases p4 : c.f4 = s.f4
      ·have hp : zfm s c = true := by unfold zfm; rw [decide_eq_true p0, p1, decide_eq_true p2, decide_eq_true p3, decide_eq_true p4]; rfl
       rw [hp, Bool.true_and]
       refine Ev.pos p0 (Ev.bind (rn_ev c hc) (Ev.pos p1 (Ev.pos p2 (Ev.pos p3 (Ev.pos p4 ?_)))))
       by_cases hi0 : i = 0
       ·subst hi0
        exact Ev.neg (by omega) ih
       ·apply Ev.pos (by omega)
        obtain ⟨p, hp⟩ : ∃ p, s.f5[i - 1]? = some p := ⟨s.f5[i - 1]'(by omega), List.getElem?_eq_getElem _⟩
        have hpd : (s.f5.take i).drop (i - 1) = [p] := by
         obtain ⟨j, rfl⟩ : ∃ j, i = j + 1 := ⟨i - 1, by omega⟩
         rw [Nat.add_sub_cancel] at hp ⊢
         rw [List.take_succ_eq_append_getElem (by omega), List.drop_left' (by rw [List.length_take]; omega)]
         rw [List.getElem?_eq_getElem (by omega)] at hp
         rw [Option.some.inj hp]
        have hw : wrap64 ((i : Int) - 1) = ((i - 1 : Nat) : Int) := by rw [w64 (by omega) (by omega)]; omega
        have ep : zac s.f5 ((i - 1 : Nat) : Int) = p := by
         unfold zac
         rw [Int.toNat_natCast, List.getD_eq_getElem?_getD, hp]
         rfl
        have hr : riseP ((s.f5.take i).drop (i - 1) ++ c :: t) = (decide (p.f3 < c.f3) && riseP (c :: t)) := by rw [hpd]; rfl
        rw [hw, ep, hr]
        refine Ev.pos (nn _) (Ev.pos (by omega) ?_)
        by_cases hlt : p.f3 < c.f3
        ·rw [decide_eq_true hlt, Bool.true_and]
         exact Ev.neg (by omega) ih
        ·rw [decide_eq_false hlt, Bool.false_and, Bool.false_and, Bool.false_and]
         exact Ev.pos (by omega) (Ev.pure _)
      ·exact bad (by unfold zfm; simp [p4]) (Ev.pos p0 (Ev.bind (rn_ev c hc) (Ev.pos p1 (Ev.pos p2 (Ev.pos p3 (Ev.neg p4 (Ev.pure _)))))))
     ·exact bad (by unfold zfm; simp [p3]) (Ev.pos p0 (Ev.bind (rn_ev c hc) (Ev.pos p1 (Ev.pos p2 (Ev.neg p3 (Ev.pure _))))))
    ·exact bad (by unfold zfm; simp [p2]) (Ev.pos p0 (Ev.bind (rn_ev c hc) (Ev.pos p1 (Ev.neg p2 (Ev.pure _)))))
   ·exact bad (by unfold zfm; simp [p1]) (Ev.pos p0 (Ev.bind (rn_ev c hc) (Ev.neg p1 (Ev.pure _))))
  ·exact bad (by unfold zfm; simp [p0]) (Ev.neg p0 (Ev.pure _))
theorem subright_ev {B : Nat} (s : S33) (hs : okSub B s) : Ev (fun k => zav.f k s.f0 s.f1 s.f2 s.f3 s.f4 s.f5) (rightS s) := by
 have stop : ∀ a b c d e f, Ev (fun k => zav.j0 k true a b c d e f) false := fun a b c d e f => by
  apply Ev.succ
  simp only [zav.j0]
  exact Ev.pos trivial (Ev.pure _)
 unfold zav.f rightS
 refine tn (by omega) (stop ..) fun _ => tn (by omega) (stop ..) fun _ => tn (by omega) (stop ..) fun _ => tn (by omega) (stop ..) fun _ => ?_
 refine Ev.bind (state_ev _ hs.1) ?_
 by_cases hi : zef s.f2 = true
 ·rw [hi, Bool.true_and]
  have go := got_go s hs s.f5 0 rfl
  have j1f : Ev (fun k => zav.j1 k false s.f0 s.f1 s.f2 s.f3 s.f4 s.f5) (gotS s) := by
   apply Ev.succ
   simp only [zav.j1]
   exact Ev.neg (by decide) go
  apply Ev.succ
  simp only [zav.j0]
  refine Ev.neg (by decide) ?_
  by_cases h3 : s.f3 = 0
  ·refine Ev.pos h3 ?_
   by_cases h4 : s.f4 = 0
   ·refine Ev.pos h4 ?_
    rw [decide_eq_true h3, decide_eq_true h4, Bool.true_and, Bool.true_and, nat0]
    by_cases h5 : s.f5.length = 0
    ·rw [decide_eq_true h5, Bool.true_or]
     apply Ev.succ
     simp only [zav.j1]
     exact Ev.pos trivial (Ev.pure _)
    ·rw [decide_eq_false h5, Bool.false_or]; exact j1f
   ·rw [decide_eq_false h4, Bool.false_and, Bool.and_false, Bool.false_or]
    exact Ev.neg h4 j1f
  ·rw [decide_eq_false h3, Bool.false_and, Bool.false_or]
   exact Ev.neg h3 j1f
 ·rw [Bool.eq_false_iff.2 hi, Bool.false_and]
  exact stop ..
end Go.Proofs.YtchpbnabbjdfgaaDoor.Pure
