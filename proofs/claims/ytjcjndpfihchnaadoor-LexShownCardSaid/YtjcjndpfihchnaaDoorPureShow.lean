-- Plain laws of the printed functions (wip/l11).
import Derived.Test.YtjcjndpfihchnaaDoorPureQ1
import Derived.Test.YtjcjndpfihchnaaDoorPx39
import Derived.Lib.SplitLaws
import Derived.Lib.Replace
import Derived.Lib.ItoaNum
import Derived.Lib.CountLaws
namespace Go.Proofs.YtjcjndpfihchnaaDoor.Pure
open Go.ChangeShapes Go.WideShapes Go.ChangeAt Go.RowKit Go.Proofs.YtjcjndpfihchnaaDoorW.PrintWords Go.Proofs.YtjcjndpfihchnaaDoorW.PrintLast Go.Proofs.YtjcjndpfihchnaaDoor.P Go.Proofs.YtjcjndpfihchnaaDoor.Open
set_option linter.unusedVariables false
set_option linter.unusedSimpArgs false
/-- Each ' twice. -/
def dbl : List UInt8 → List UInt8
  | [] => []
  | c :: l => if c = 39 then 39 :: 39 :: dbl l else c :: dbl l
theorem index39 (c : UInt8) (l : List UInt8) : Go.Lib.index (c :: l) [39] = if c = 39 then 0 else if Go.Lib.index l [39] == -1 then -1 else Go.Lib.index l [39] + 1 := by
  rw [show Go.Lib.index (c :: l) [39] = if ([39] : List UInt8).isPrefixOf (c :: l) then 0 else if Go.Lib.index l [39] == -1 then -1 else Go.Lib.index l [39] + 1 from rfl]
  by_cases h : c = 39
  · subst h; simp [List.isPrefixOf]
  · have : ([39] : List UInt8).isPrefixOf (c :: l) = false := by simp [List.isPrefixOf]; exact fun e => h e.symm
    rw [this, if_neg (by decide), if_neg h]
theorem replaceK_nil (k : Nat) : Go.Lib.replaceK [39] [39, 39] k [] = [] := by cases k <;> rfl
theorem dbl_replaceK : ∀ (s : List UInt8) (k : Nat), s.count 39 ≤ k → Go.Lib.replaceK [39] [39, 39] k s = dbl s
  | [], k, _ => by rw [replaceK_nil]; rfl
  | c :: l, k, h => by
    by_cases hc : c = 39
    · subst hc
      cases k with
      | zero => simp at h
      | succ k =>
        have h' : l.count 39 ≤ k := by simpa using h
        rw [Go.Lib.replaceK_hit _ _ _ _ 0 (by rw [index39]; simp)]
        simp [dbl, dbl_replaceK l k h']
    · have h' : l.count 39 ≤ k := by simpa [List.count_cons, hc] using h
      have ih := dbl_replaceK l k h'
      cases k with
      | zero => simp [dbl, hc, Go.Lib.replaceK] at ih ⊢; exact ih
      | succ k =>
        rw [dbl, if_neg hc, ← ih]
        have hge := Go.Lib.index_ge l [39]
        by_cases hm : Go.Lib.index l [39] = -1
        · have e1 : Go.Lib.index (c :: l) [39] = -1 := by rw [index39]; simp [hc, hm]
          simp [Go.Lib.replaceK, e1, hm]
        · obtain ⟨i, hi⟩ : ∃ i : Nat, Go.Lib.index l [39] = i := ⟨(Go.Lib.index l [39]).toNat, by omega⟩
          have e1 : Go.Lib.index (c :: l) [39] = ((i + 1 : Nat) : Int) := by rw [index39]; simp [hc, hm, hi]
          rw [Go.Lib.replaceK_hit _ _ _ _ _ e1, Go.Lib.replaceK_hit _ _ _ _ _ hi]
          simp
theorem dbl_all (s : List UInt8) : Go.Lib.replaceAll s [39] [39, 39] = dbl s := by
  unfold Go.Lib.replaceAll Go.Lib.replace
  rw [if_neg (by decide)]
  refine dbl_replaceK s _ ?_
  unfold Go.Lib.replaceNum
  rw [if_pos (Or.inl (by omega)), Go.Lib.count_one]
  exact Nat.le_refl _
theorem dbl_length_le : ∀ s : List UInt8, (dbl s).length ≤ 2 * s.length
  | [] => Nat.le_refl _
  | c :: l => by
    have := dbl_length_le l
    unfold dbl; split <;> simp <;> omega
theorem dbl_inj : ∀ {a b : List UInt8}, dbl a ++ [39] = dbl b ++ [39] → a = b
  | [], [], _ => rfl
  | [], c :: b, h => by
    unfold dbl at h
    split at h
    · simp [dbl] at h
    · simp [dbl] at h
  | c :: a, [], h => by
    unfold dbl at h
    split at h
    · simp [dbl] at h
    · simp [dbl] at h
  | c :: a, d :: b, h => by
    by_cases hc : c = 39 <;> by_cases hd : d = 39
    · subst hc; subst hd
      simp only [dbl, if_true] at h
      simp at h
      rw [dbl_inj (a := a) (b := b) (by rw [h])]
    · subst hc
      simp only [dbl, if_true, if_neg hd] at h
      simp at h
      exact absurd h.1.symm hd
    · subst hd
      simp only [dbl, if_true, if_neg hc] at h
      simp at h
      exact absurd h.1 hc
    · simp only [dbl, if_neg hc, if_neg hd] at h
      simp at h
      rw [h.1, dbl_inj (a := a) (b := b) (by rw [h.2])]
theorem hxd_inj {a b : Nat} (ha : a < 16) (hb : b < 16) (h : hxd a = hxd b) : a = b := by
  have key : ∀ x y : Fin 16, hxd x.val = hxd y.val → x = y := by decide +kernel
  have := key ⟨a, ha⟩ ⟨b, hb⟩ h
  simpa using this
theorem hexL_inj : ∀ {a b : List UInt8}, hexL a ++ [39] = hexL b ++ [39] → a = b
  | [], [], _ => rfl
  | [], c :: b, h => by simp [hexL] at h
  | c :: a, [], h => by simp [hexL] at h
  | c :: a, d :: b, h => by
    simp [hexL] at h
    obtain ⟨h1, h2, h3⟩ := h
    have hc := c.toNat_lt; have hd := d.toNat_lt
    have e1 := hxd_inj (by omega) (by omega) h1
    have e2 := hxd_inj (by omega) (by omega) h2
    have e : c = d := UInt8.toNat_inj.mp (by omega)
    rw [e, hexL_inj (a := a) (b := b) (by rw [h3])]
def undec (l : List UInt8) : Nat := l.foldl (fun a c => 10 * a + (c.toNat - 48)) 0
theorem undec_dec (u : Nat) : undec (Go.Lib.decDigits u) = u := by
  induction u using Nat.strongRecOn with
  | _ u ih =>
    unfold Go.Lib.decDigits
    split
    · rename_i h
      have : (UInt8.ofNat (48 + u)).toNat = 48 + u := by simp; omega
      simp only [undec, List.foldl_cons, List.foldl_nil, this]; omega
    · rename_i h
      have h10 : (UInt8.ofNat (48 + u % 10)).toNat = 48 + u % 10 := by simp; omega
      have := ih (u / 10) (by omega)
      unfold undec at this ⊢
      rw [List.foldl_append, this]
      simp only [List.foldl_cons, List.foldl_nil, h10]; omega
theorem dec_head (u : Nat) : ∃ c l, Go.Lib.decDigits u = c :: l ∧ 48 ≤ c.toNat ∧ c.toNat ≤ 57 := by
  induction u using Nat.strongRecOn with
  | _ u ih =>
    unfold Go.Lib.decDigits
    split
    · rename_i h
      exact ⟨_, _, rfl, by simp; omega, by simp; omega⟩
    · rename_i h
      obtain ⟨c, l, e, h1, h2⟩ := ih (u / 10) (by omega)
      rw [e]
      exact ⟨_, _, rfl, h1, h2⟩
theorem itoa_head (n : Int) : ∃ c l, Go.Lib.itoa n = c :: l ∧ (c = 45 ∨ 48 ≤ c.toNat ∧ c.toNat ≤ 57) := by
  unfold Go.Lib.itoa
  split
  · exact ⟨_, _, rfl, Or.inl rfl⟩
  · obtain ⟨c, l, e, h⟩ := dec_head n.toNat
    exact ⟨c, l, e, Or.inr h⟩
theorem dec_ne45 (u : Nat) (l : List UInt8) : Go.Lib.decDigits u ≠ 45 :: l := by
  obtain ⟨c, m, e, h1, _⟩ := dec_head u
  rw [e]
  intro h
  have := (List.cons.inj h).1
  subst this
  simp at h1
theorem dec_inj {a b : Nat} (h : Go.Lib.decDigits a = Go.Lib.decDigits b) : a = b := by
  rw [← undec_dec a, ← undec_dec b, h]
theorem itoa_inj {a b : Int} (h : Go.Lib.itoa a = Go.Lib.itoa b) : a = b := by
  unfold Go.Lib.itoa at h
  split at h <;> split at h
  · have := dec_inj (List.cons.inj h).2; omega
  · exact absurd h.symm (dec_ne45 _ _)
  · exact absurd h (dec_ne45 _ _)
  · have := dec_inj h; omega
/-- A value shown, by its kind. -/
def showL (kd n : Int) (s : List UInt8) : List UInt8 :=
  if kd = 0 then [110, 117, 108, 108] else if kd = 1 then (if n = 1 then [116, 114, 117, 101] else [102, 97, 108, 115, 101]) else if kd = 2 then Go.Lib.itoa n
  else if kd = 3 then 39 :: (dbl s ++ [39]) else 120 :: 39 :: (hexL s ++ [39])
def okL (kd n : Int) (s : List UInt8) : Prop := (kd = 0 ∧ n = 0 ∧ s = []) ∨ (kd = 1 ∧ (n = 0 ∨ n = 1) ∧ s = []) ∨ (kd = 2 ∧ s = []) ∨ (kd = 3 ∧ n = 0) ∨ (kd = 4 ∧ n = 0)
theorem showL_ne (kd n : Int) (s : List UInt8) : showL kd n s ≠ [] := by
  unfold showL
  obtain ⟨c, l, e, _⟩ := itoa_head n
  split <;> (try split) <;> (try split) <;> (try split) <;> simp_all
theorem showL_head (kd n : Int) (s : List UInt8) (h : okL kd n s) : ∃ c l, showL kd n s = c :: l ∧ (kd = 0 ∧ c = 110 ∨ kd = 1 ∧ (n = 1 ∧ c = 116 ∨ n = 0 ∧ c = 102) ∨ kd = 2 ∧ (c = 45 ∨ 48 ≤ c.toNat ∧ c.toNat ≤ 57) ∨ kd = 3 ∧ c = 39 ∨ kd = 4 ∧ c = 120) := by
  rcases h with ⟨rfl, rfl, rfl⟩ | ⟨rfl, hn, rfl⟩ | ⟨rfl, rfl⟩ | ⟨rfl, rfl⟩ | ⟨rfl, rfl⟩
  · exact ⟨_, _, rfl, Or.inl ⟨rfl, rfl⟩⟩
  · rcases hn with rfl | rfl
    · exact ⟨_, _, rfl, Or.inr (Or.inl ⟨rfl, Or.inr ⟨rfl, rfl⟩⟩)⟩
    · exact ⟨_, _, rfl, Or.inr (Or.inl ⟨rfl, Or.inl ⟨rfl, rfl⟩⟩)⟩
  · obtain ⟨c, l, e, hc⟩ := itoa_head n
    exact ⟨c, l, by simpa [showL] using e, Or.inr (Or.inr (Or.inl ⟨rfl, hc⟩))⟩
  · exact ⟨_, _, rfl, Or.inr (Or.inr (Or.inr (Or.inl ⟨rfl, rfl⟩)))⟩
  · exact ⟨_, _, rfl, Or.inr (Or.inr (Or.inr (Or.inr ⟨rfl, rfl⟩)))⟩
theorem showL_inj {kd n kd' n' : Int} {s s' : List UInt8} (h : okL kd n s) (h' : okL kd' n' s') (e : showL kd n s = showL kd' n' s') : kd = kd' ∧ n = n' ∧ s = s' := by
  obtain ⟨c, l, e1, hc⟩ := showL_head kd n s h
  obtain ⟨c', l', e2, hc'⟩ := showL_head kd' n' s' h'
  have hcc : c = c' := by rw [e1, e2] at e; exact (List.cons.inj e).1
  subst hcc
  have key : kd = kd' ∧ (kd = 1 → n = n') := by
    rcases hc with ⟨rfl, rfl⟩ | ⟨rfl, ⟨rfl, rfl⟩ | ⟨rfl, rfl⟩⟩ | ⟨rfl, hc⟩ | ⟨rfl, rfl⟩ | ⟨rfl, rfl⟩ <;>
    rcases hc' with ⟨rfl, hd⟩ | ⟨rfl, ⟨rfl, hd⟩ | ⟨rfl, hd⟩⟩ | ⟨rfl, hd⟩ | ⟨rfl, hd⟩ | ⟨rfl, hd⟩ <;> first
      | exact ⟨rfl, fun _ => rfl⟩
      | exact ⟨rfl, fun x => absurd x (by decide)⟩
      | (exfalso; revert hd; decide)
      | (exfalso; subst hd; revert hc; decide)
  obtain ⟨rfl, hk⟩ := key
  rcases h with ⟨rfl, rfl, rfl⟩ | ⟨rfl, hn, rfl⟩ | ⟨rfl, rfl⟩ | ⟨rfl, rfl⟩ | ⟨rfl, rfl⟩
  · rcases h' with ⟨_, rfl, rfl⟩ | ⟨hh, _⟩ | ⟨hh, _⟩ | ⟨hh, _⟩ | ⟨hh, _⟩
    · exact ⟨rfl, rfl, rfl⟩
    all_goals cases hh
  · rcases h' with ⟨hh, _⟩ | ⟨_, _, rfl⟩ | ⟨hh, _⟩ | ⟨hh, _⟩ | ⟨hh, _⟩
    · cases hh
    · exact ⟨rfl, hk rfl, rfl⟩
    all_goals cases hh
  · rcases h' with ⟨hh, _⟩ | ⟨hh, _⟩ | ⟨_, rfl⟩ | ⟨hh, _⟩ | ⟨hh, _⟩
    · cases hh
    · cases hh
    · exact ⟨rfl, itoa_inj (by simpa [showL] using e), rfl⟩
    all_goals cases hh
  · rcases h' with ⟨hh, _⟩ | ⟨hh, _⟩ | ⟨hh, _⟩ | ⟨_, rfl⟩ | ⟨hh, _⟩
    · cases hh
    · cases hh
    · cases hh
    · have e' : dbl s ++ [39] = dbl s' ++ [39] := by simpa [showL] using e
      exact ⟨rfl, rfl, dbl_inj e'⟩
    · cases hh
  · rcases h' with ⟨hh, _⟩ | ⟨hh, _⟩ | ⟨hh, _⟩ | ⟨hh, _⟩ | ⟨_, rfl⟩
    · cases hh
    · cases hh
    · cases hh
    · cases hh
    · have e' : hexL s ++ [39] = hexL s' ++ [39] := by simpa [showL] using e
      exact ⟨rfl, rfl, hexL_inj e'⟩
abbrev inR (n : Int) : Prop := -9223372036854775808 ≤ n ∧ n ≤ 9223372036854775807
/-! ValueApart -/
theorem ok_of_right {v : VS} (h : vR v = true) : okL v.f0 v.f1 v.f2.data.toList := by
  unfold vR at h
  by_cases h0 : v.f0 = 0
  · simp only [h0, if_true, Bool.and_eq_true, decide_eq_true_eq, str_nil] at h
    exact Or.inl ⟨h0, h.1, by rw [h.2]⟩
  · by_cases h1 : v.f0 = 1
    · rw [if_neg h0, if_pos h1] at h
      simp only [Bool.and_eq_true, Bool.or_eq_true, decide_eq_true_eq, str_nil] at h
      exact Or.inr (Or.inl ⟨h1, h.1, by rw [h.2]⟩)
    · by_cases h2 : v.f0 = 2
      · rw [if_neg h0, if_neg h1, if_pos h2] at h
        simp only [decide_eq_true_eq, str_nil] at h
        exact Or.inr (Or.inr (Or.inl ⟨h2, by rw [h]⟩))
      · rw [if_neg h0, if_neg h1, if_neg h2] at h
        by_cases h3 : v.f0 = 3
        · rw [if_pos h3] at h
          simp only [Bool.and_eq_true, decide_eq_true_eq] at h
          exact Or.inr (Or.inr (Or.inr (Or.inl ⟨h3, h.1.1⟩)))
        · rw [if_neg h3] at h
          by_cases h4 : v.f0 = 4
          · rw [if_pos h4] at h
            simp only [Bool.and_eq_true, decide_eq_true_eq] at h
            exact Or.inr (Or.inr (Or.inr (Or.inr ⟨h4, h.1⟩)))
          · rw [if_neg h4] at h; cases h
theorem size_of_right {v : VS} (h : vR v = true) : v.f2.size ≤ 64 := by
  unfold vR at h
  have hz : (v.f2.toList == ([] : List UInt8)) = true → v.f2.size ≤ 64 := by
    intro e
    rw [str_nil] at e
    rw [of_decide_eq_true e]
    decide
  split at h
  · exact hz (Bool.and_eq_true _ _ ▸ h : _ ∧ _).2
  · split at h
    · exact hz (Bool.and_eq_true _ _ ▸ h : _ ∧ _).2
    · split at h
      · exact hz h
      · split at h
        · simp only [Bool.and_eq_true, decide_eq_true_eq] at h; omega
        · split at h
          · simp only [Bool.and_eq_true, decide_eq_true_eq] at h; omega
          · cases h
theorem show_eq {v : VS} (hv : vR v = true) (hr : inR v.f1) : value_Show.f v.f0 v.f1 v.f2 = some ⟨(showL v.f0 v.f1 v.f2.data.toList).toArray⟩ := by
  have hs := size_of_right hv
  have hok := ok_of_right hv
  have hl : v.f2.data.toList.length ≤ 64 := by simpa using hs
  unfold value_Show.f
  rw [right_eq, hv]
  simp only [Option.bind_some, if_true]
  rcases hok with ⟨h, _, _⟩ | ⟨h, h1, _⟩ | ⟨h, _⟩ | ⟨h, _⟩ | ⟨h, _⟩
  · simp only [h, showL, if_true]
    rw [if_neg (by decide), if_neg (by decide), if_neg (by decide), if_neg (by decide)]
  · simp only [h, if_true, strconv_FormatBool_19.f, strconv_FormatBool_41.f]
    rcases h1 with h1 | h1 <;> (rw [h1]; rfl)
  · simp only [h, if_true]
    rw [if_neg (by decide)]
    unfold strconv_Itoa_20.f inR at *
    rw [if_pos hr]
    simp only [Option.bind_some, showL]
    rw [if_neg (by decide), if_neg (by decide), if_pos trivial]
  · simp only [h, if_true]
    rw [if_neg (by decide), if_neg (by decide)]
    have hc : Go.Lib.countB v.f2 ⟨#[39]⟩ ≤ v.f2.size + 1 := Go.Lib.count_le _ _
    unfold strings_ReplaceAll.f
    rw [if_pos ⟨by omega, by decide, by
      have : (⟨#[39, 39]⟩ : ByteArray).size = 2 := rfl
      rw [this]; omega⟩]
    simp only [Option.bind_some]
    have e : Go.Lib.replaceAll v.f2.data.toList (⟨#[39]⟩ : ByteArray).data.toList (⟨#[39, 39]⟩ : ByteArray).data.toList = dbl v.f2.data.toList := dbl_all _
    rw [e]
    have hd := dbl_length_le v.f2.data.toList
    have e39 : (⟨#[39]⟩ : ByteArray) = ⟨([39] : List UInt8).toArray⟩ := rfl
    rw [if_pos (by rw [ba_size]; omega), e39, ba_append, if_pos (by rw [ba_size]; simp; omega), ba_append]
    rfl
  · simp only [h, if_true]
    rw [if_neg (by decide), if_neg (by decide), if_neg (by decide)]
    unfold show_bytes
    rw [if_pos (by omega)]
    have e1 : (⟨#[120, 39]⟩ : ByteArray) = ⟨([120, 39] : List UInt8).toArray⟩ := rfl
    have e39 : (⟨#[39]⟩ : ByteArray) = ⟨([39] : List UInt8).toArray⟩ := rfl
    rw [e1, e39, ba_append, ba_append]
    rfl
end Go.Proofs.YtjcjndpfihchnaaDoor.Pure
