-- Plain laws of the printed functions (wip/l01).
import Derived.Test.YtmdnnpahmoaicaaDoorPureShow
import Derived.Test.YtmdnnpahmoaicaaDoorPureRef
import Derived.Test.YtmdnnpahmoaicaaDoorStatValueShows
import Derived.Test.YtmdnnpahmoaicaaDoorPx72
import Derived.Test.YtmdnnpahmoaicaaDoorPx72
import Derived.Test.YtmdnnpahmoaicaaDoorPx76
import Derived.Lib.ItoaLen
import Derived.Lib.Join
namespace Go.Proofs.YtmdnnpahmoaicaaDoor.Pure
open Go.ChangeShapes Go.WideShapes Go.ChangeAt Go.RowKit Go.Proofs.YtmdnnpahmoaicaaDoorW.PrintWords Go.Proofs.YtmdnnpahmoaicaaDoorW.PrintLast Go.Proofs.YtmdnnpahmoaicaaDoor.P Go.Proofs.YtmdnnpahmoaicaaDoor.Open
set_option linter.unusedVariables false
set_option linter.unusedSimpArgs false
abbrev L (s : ByteArray) : List UInt8 := s.data.toList
theorem L_len (s : ByteArray) : (L s).length = s.size := by simp [L]
theorem bt_list {s : ByteArray} {j : Nat} {c : UInt8} {l : List UInt8} (h : (L s).drop j = c :: l) : bt s (j : Int) = (c.toNat : Int) ∧ j < s.size ∧ (L s).drop (j + 1) = l := by
  have hj : j < (L s).length := by
    rcases Nat.lt_or_ge j (L s).length with h' | h'
    · exact h'
    · rw [List.drop_eq_nil_of_le h'] at h; cases h
  rw [List.drop_eq_getElem_cons hj] at h
  obtain ⟨h1, h2⟩ := List.cons.inj h
  have hs : j < s.size := by rw [← L_len]; exact hj
  refine ⟨?_, hs, h2⟩
  have := bt_at s (j : Int) (by simpa using hs)
  rw [← this, ← h1]
  congr 1
theorem ge_of_nil {s : ByteArray} {j : Nat} (h : (L s).drop j = []) : s.size ≤ j := by
  rw [← L_len]
  exact List.drop_eq_nil_iff.mp h
theorem ext_drop (s : ByteArray) (j : Nat) (hj : j ≤ s.size) : s.extract j s.size = ⟨((L s).drop j).toArray⟩ := by
  apply ByteArray.ext
  apply Array.toList_inj.mp
  show (s.extract j s.size).data.toList = _
  rw [Go.Lib.extract_data, List.take_of_length_le (by rw [List.length_drop]; simp)]
theorem ext_take (s : ByteArray) (j n : Nat) : s.extract j (j + n) = ⟨(((L s).drop j).take n).toArray⟩ := by
  apply ByteArray.ext
  apply Array.toList_inj.mp
  show (s.extract j (j + n)).data.toList = _
  rw [Go.Lib.extract_data, Nat.add_sub_cancel_left]
theorem L_drop (s : ByteArray) (j : Nat) : L ⟨((L s).drop j).toArray⟩ = (L s).drop j := by simp [L]
theorem ext_one {s : ByteArray} {j : Nat} {c : UInt8} {l : List UInt8} (h : (L s).drop j = c :: l) : s.extract j (j + 1) = ⟨([c] : List UInt8).toArray⟩ := by
  rw [ext_take s j 1, h]; rfl
/-! ValueShows -/
theorem inc64 {j : Nat} (h : j < 9223372036854775807) : wrap64 ((j : Int) + 1) = ((j + 1 : Nat) : Int) := by rw [w64 (by omega) (by omega)]; rfl
theorem one_num {n : Int} (h0 : 0 ≤ n) (h1 : n ≤ 9) : strOfNums [(wrap64 (48 + n)) % 256] = ⟨([UInt8.ofNat (48 + n.toNat)] : List UInt8).toArray⟩ := by
  rw [w64 (by omega) (by omega)]
  unfold strOfNums
  simp only [List.map_cons, List.map_nil]
  rw [show ((48 + n) % 256).toNat = 48 + n.toNat by omega]
theorem dec_len_le (u : Nat) : (Go.Lib.decDigits u).length ≤ u + 1 := by
  induction u using Nat.strongRecOn with
  | _ u ih =>
    unfold Go.Lib.decDigits
    split
    · simp
    · have := ih (u / 10) (by omega)
      simp; omega
theorem digits_pos : ∀ (m n : Nat) (acc : List UInt8), n ≤ m → acc.length + n ≤ 9223372036854775000 → Ev (fun k => corollaryref01_Digits.l0 k (n : Int) ⟨acc.toArray⟩) ⟨(Go.Lib.decDigits n ++ acc).toArray⟩
  | m, n, acc, hm, ha => by
    apply Ev.succ
    simp only [corollaryref01_Digits.l0, Option.bind_some]
    unfold Go.Lib.decDigits
    by_cases h : n < 10
    · rw [dif_pos h]
      refine Ev.neg (by omega) ?_
      rw [one_num (by omega) (by omega), ba_append, show ((n : Int)).toNat = n by omega]
      simp only [ba_size]
      exact Ev.pos (by simp; omega) (Ev.pure _)
    · rw [dif_neg h]
      refine Ev.pos (by omega) ?_
      have ht : Int.tmod (n : Int) 10 = ((n % 10 : Nat) : Int) := by rw [Int.tmod_eq_emod_of_nonneg (by omega)]; rfl
      have hd : Int.tdiv (n : Int) 10 = ((n / 10 : Nat) : Int) := by rw [Int.tdiv_eq_ediv_of_nonneg (by omega)]; rfl
      rw [ht, hd, one_num (by omega) (by omega), ba_append, w64 (n := ((n / 10 : Nat) : Int)) (by omega) (by omega), show (((n % 10 : Nat) : Int)).toNat = n % 10 by omega]
      simp only [ba_size]
      refine Ev.pos (by simp; omega) ?_
      cases m with
      | zero => omega
      | succ m =>
        have ih := digits_pos m (n / 10) ([UInt8.ofNat (48 + n % 10)] ++ acc) (by omega) (by simp; omega)
        rw [← List.append_assoc] at ih
        exact ih
theorem digits_neg : ∀ (m n : Nat), n ≤ m → 1 ≤ n → n ≤ 9223372036854775808 → Ev (fun k => corollaryref01_Digits.f k (-(n : Int))) ⟨(45 :: Go.Lib.decDigits n).toArray⟩
  | m, n, hm, h1, hn => by
    apply Ev.succ
    simp only [corollaryref01_Digits.f]
    refine Ev.pos (by omega) (Ev.succ ?_)
    simp only [corollaryref01_Digits.j0, Option.bind_some]
    have e45 : (⟨#[45]⟩ : ByteArray) = ⟨([45] : List UInt8).toArray⟩ := rfl
    unfold Go.Lib.decDigits
    by_cases h : n < 10
    · rw [dif_pos h]
      refine Ev.pos (by simp; omega) ?_
      rw [show (48 : Int) - -(n : Int) = 48 + (n : Int) by omega, one_num (by omega) (by omega), e45, ba_append, show ((n : Int)).toNat = n by omega]
      simp only [ba_size]
      exact Ev.pos (by simp) (Ev.pure _)
    · rw [dif_neg h]
      refine Ev.neg (by simp; omega) (Ev.pos (by omega) ?_)
      have hd : Int.tdiv (-(n : Int)) 10 = -((n / 10 : Nat) : Int) := by rw [Int.neg_tdiv, Int.tdiv_eq_ediv_of_nonneg (by omega)]; rfl
      have ht : Int.tmod (-(n : Int)) 10 = -((n % 10 : Nat) : Int) := by rw [Int.neg_tmod, Int.tmod_eq_emod_of_nonneg (by omega)]; rfl
      rw [hd, ht, w64 (n := -((n / 10 : Nat) : Int)) (by omega) (by omega), show (48 : Int) - -((n % 10 : Nat) : Int) = 48 + ((n % 10 : Nat) : Int) by omega, one_num (by omega) (by omega), show (((n % 10 : Nat) : Int)).toNat = n % 10 by omega]
      cases m with
      | zero => omega
      | succ m =>
        refine Ev.bind (digits_neg m (n / 10) (by omega) (by omega) (by omega)) ?_
        have hlen := dec_len_le (n / 10)
        rw [ba_append]
        simp only [ba_size]
        refine Ev.pos (by simp; omega) ?_
        rw [List.cons_append]
        exact Ev.pure _
theorem digits_ev (n : Int) (hn : inR n) : Ev (fun k => corollaryref01_Digits.f k n) ⟨(Go.Lib.itoa n).toArray⟩ := by
  unfold inR at hn
  unfold Go.Lib.itoa
  by_cases h : n < 0
  · rw [if_pos h]
    have := digits_neg n.natAbs n.natAbs (Nat.le_refl _) (by omega) (by omega)
    rw [show -((n.natAbs : Nat) : Int) = n by omega] at this
    exact this
  · rw [if_neg h]
    apply Ev.succ
    simp only [corollaryref01_Digits.f]
    refine Ev.neg h (Ev.succ ?_)
    simp only [corollaryref01_Digits.j0]
    refine Ev.neg (by decide) (Ev.neg h ?_)
    by_cases hb : n.toNat ≤ 9223372036854775000
    · have := digits_pos n.toNat n.toNat [] (Nat.le_refl _) (by simp; omega)
      rw [List.append_nil, show ((n.toNat : Nat) : Int) = n by omega] at this
      exact this
    · apply Ev.succ
      simp only [corollaryref01_Digits.l0, Option.bind_some]
      refine Ev.pos (by omega) ?_
      obtain ⟨u, rfl⟩ : ∃ u : Nat, n = (u : Int) := ⟨n.toNat, by omega⟩
      have ht : Int.tmod (u : Int) 10 = ((u % 10 : Nat) : Int) := by rw [Int.tmod_eq_emod_of_nonneg (by omega)]; rfl
      have hd : Int.tdiv (u : Int) 10 = ((u / 10 : Nat) : Int) := by rw [Int.tdiv_eq_ediv_of_nonneg (by omega)]; rfl
      have e0 : (⟨#[]⟩ : ByteArray) = ⟨([] : List UInt8).toArray⟩ := rfl
      rw [ht, hd, one_num (by omega) (by omega), e0, ba_append, w64 (n := ((u / 10 : Nat) : Int)) (by omega) (by omega), show (((u % 10 : Nat) : Int)).toNat = u % 10 by omega, List.append_nil]
      simp only [ba_size]
      refine Ev.pos (by simp) ?_
      have := digits_pos (u / 10) (u / 10) [UInt8.ofNat (48 + u % 10)] (Nat.le_refl _) (by simp; omega)
      have e : Go.Lib.decDigits (Int.toNat (u : Int)) = Go.Lib.decDigits (u / 10) ++ [UInt8.ofNat (48 + u % 10)] := by
        rw [Int.toNat_natCast]
        conv => lhs; unfold Go.Lib.decDigits
        rw [dif_neg (by omega)]
      rw [e]
      exact this
def DIG : ByteArray := ⟨#[48, 49, 50, 51, 52, 53, 54, 55, 56, 57, 97, 98, 99, 100, 101, 102]⟩
theorem dig_at {n : Nat} (h : n < 16) : DIG.extract n (n + 1) = ⟨([hxd n] : List UInt8).toArray⟩ := by
  have key : ∀ m : Fin 16, (hxTab.drop m.val).take 1 = [hxd m.val] := by decide +kernel
  rw [ext_take DIG n 1]
  have e : L DIG = hxTab := rfl
  rw [e, key ⟨n, h⟩]
theorem showR_bytes (n : Int) (s : ByteArray) (hz : s.size ≤ 64) : ∀ (l : List UInt8) (j : Nat) (acc : List UInt8), (L s).drop j = l → acc.length + 2 * l.length ≤ 1000 →
    Ev (fun k => corollaryref01_Show.l0 k DIG ⟨acc.toArray⟩ (j : Int) 4 n s) ⟨(120 :: (acc ++ hexL l ++ [39])).toArray⟩
  | [], j, acc, h, ha => by
    have := ge_of_nil h
    simp only [List.length_nil] at ha
    apply Ev.succ
    simp only [corollaryref01_Show.l0]
    have e1 : (⟨#[120]⟩ : ByteArray) = ⟨([120] : List UInt8).toArray⟩ := rfl
    have e39 : (⟨#[39]⟩ : ByteArray) = ⟨([39] : List UInt8).toArray⟩ := rfl
    rw [e1, e39, ba_append, ba_append]
    simp only [ba_size]
    refine Ev.neg (by omega) (Ev.pos trivial (Ev.pos (by omega) (Ev.pos (by (try simp only [ba_size, ByteArray.size_append, List.length_append, List.length_cons, List.length_nil]); omega) ?_)))
    simp [hexL]
    exact Ev.pure _
  | c :: l, j, acc, h, ha => by
    obtain ⟨hb, hj, hd⟩ := bt_list h
    have hc := c.toNat_lt
    simp only [List.length_cons] at ha
    apply Ev.succ
    simp only [corollaryref01_Show.l0]
    rw [hb]
    have q1 : (Int.tdiv (c.toNat : Int) 16) % 256 = ((c.toNat / 16 : Nat) : Int) := by rw [Int.tdiv_eq_ediv_of_nonneg (by omega)]; omega
    have q2 : Int.tmod (c.toNat : Int) 16 = ((c.toNat % 16 : Nat) : Int) := by rw [Int.tmod_eq_emod_of_nonneg (by omega)]; rfl
    rw [q1, q2]
    have r1 : (((c.toNat / 16 : Nat) : Int) + 1) % 256 = ((c.toNat / 16 + 1 : Nat) : Int) := by omega
    have r2 : (((c.toNat % 16 : Nat) : Int) + 1) % 256 = ((c.toNat % 16 + 1 : Nat) : Int) := by omega
    rw [r1, r2, Int.toNat_natCast, Int.toNat_natCast, Int.toNat_natCast, Int.toNat_natCast, dig_at (by omega), dig_at (by omega), ba_append, ba_append, inc64 (by omega)]
    simp only [ba_size]
    have hD : (DIG.size : Int) = 16 := rfl
    refine Ev.pos (by omega) (Ev.pos (by omega) (Ev.pos trivial (Ev.pos (by omega) (Ev.pos (by omega) (Ev.pos (by omega) (Ev.pos (by simp; omega) (Ev.pos (by omega) (Ev.pos (by omega) (Ev.pos (by omega) (Ev.pos (by simp; omega) ?_))))))))))
    have ih := showR_bytes n s hz l (j + 1) (acc ++ [hxd (c.toNat / 16)] ++ [hxd (c.toNat % 16)]) hd (by simp; omega)
    have e : acc ++ [hxd (c.toNat / 16)] ++ [hxd (c.toNat % 16)] ++ hexL l ++ [39] = acc ++ hexL (c :: l) ++ [39] := by simp [hexL]
    rw [e] at ih
    exact ih
theorem showR_text (n : Int) (s : ByteArray) (hz : s.size ≤ 64) : ∀ (l : List UInt8) (j : Nat) (acc : List UInt8), (L s).drop j = l → acc.length + 2 * l.length ≤ 1000 →
    Ev (fun k => corollaryref01_Show.l0 k DIG ⟨acc.toArray⟩ (j : Int) 3 n s) ⟨(acc ++ dbl l ++ [39]).toArray⟩
  | [], j, acc, h, ha => by
    have := ge_of_nil h
    simp only [List.length_nil] at ha
    apply Ev.succ
    simp only [corollaryref01_Show.l0]
    have e39 : (⟨#[39]⟩ : ByteArray) = ⟨([39] : List UInt8).toArray⟩ := rfl
    rw [e39, ba_append]
    simp only [ba_size]
    refine Ev.neg (by omega) (Ev.neg (by decide) (Ev.pos (by omega) ?_))
    simp [dbl]
    exact Ev.pure _
  | c :: l, j, acc, h, ha => by
    obtain ⟨hb, hj, hd⟩ := bt_list h
    simp only [List.length_cons] at ha
    apply Ev.succ
    simp only [corollaryref01_Show.l0]
    have e39 : (⟨#[39]⟩ : ByteArray) = ⟨([39] : List UInt8).toArray⟩ := rfl
    rw [hb, inc64 (by omega), Int.toNat_natCast, Int.toNat_natCast, ext_one h, e39, ba_append, ba_append]
    simp only [ba_size]
    refine Ev.pos (by omega) (Ev.pos (by omega) (Ev.neg (by decide) (Ev.pos (by omega) (Ev.pos (by omega) (Ev.pos (by simp; omega) ?_)))))
    by_cases h39 : c = 39
    · refine Ev.pos (by rw [h39]; rfl) (Ev.pos (by (try simp only [ba_size, ByteArray.size_append, List.length_append, List.length_cons, List.length_nil]); omega) ?_)
      have ih := showR_text n s hz l (j + 1) (acc ++ [c] ++ [39]) hd (by simp; omega)
      have e : acc ++ [c] ++ [39] ++ dbl l ++ [39] = acc ++ dbl (c :: l) ++ [39] := by simp [dbl, h39]
      rw [e] at ih
      exact ih
    · refine Ev.neg (fun e => h39 (UInt8.toNat_inj.mp (by have : (39 : UInt8).toNat = 39 := rfl; omega))) ?_
      have ih := showR_text n s hz l (j + 1) (acc ++ [c]) hd (by simp; omega)
      have e : acc ++ [c] ++ dbl l ++ [39] = acc ++ dbl (c :: l) ++ [39] := by simp [dbl, h39]
      rw [e] at ih
      exact ih
theorem showR_ev {v : S23} (hv : vR v = true) (hr : inR v.f1) : Ev (fun k => corollaryref01_Show.f k v.f0 v.f1 v.f2) ⟨(showL v.f0 v.f1 (L v.f2)).toArray⟩ := by
  have hs := size_of_right hv
  have hlen : (L v.f2).length ≤ 64 := by rw [L_len]; exact hs
  unfold corollaryref01_Show.f
  rcases ok_of_right hv with ⟨h, _, _⟩ | ⟨h, h1, _⟩ | ⟨h, _⟩ | ⟨h, _⟩ | ⟨h, _⟩
  · refine Ev.pos h ?_
    simp only [showL, h, if_true]
    exact Ev.pure _
  · refine Ev.neg (by omega) (Ev.pos h ?_)
    rcases h1 with h1 | h1
    · rw [h, h1]; exact Ev.neg (by decide) (Ev.pure _)
    · rw [h, h1]; exact Ev.pos rfl (Ev.pure _)
  · refine Ev.neg (by omega) (Ev.neg (by omega) (Ev.pos h ?_))
    have e : showL v.f0 v.f1 (L v.f2) = Go.Lib.itoa v.f1 := by
      unfold showL
      rw [if_neg (by omega), if_neg (by omega), if_pos h]
    rw [e]
    exact Ev.bind (digits_ev v.f1 hr) (Ev.pure _)
  · refine Ev.neg (by omega) (Ev.neg (by omega) (Ev.neg (by omega) ?_))
    have e : showL v.f0 v.f1 (L v.f2) = [39] ++ dbl (L v.f2) ++ [39] := by
      unfold showL
      rw [if_neg (by omega), if_neg (by omega), if_neg (by omega), if_pos h]
      simp
    rw [e, h]
    exact showR_text v.f1 v.f2 hs (L v.f2) 0 [39] rfl (by simp only [List.length_singleton]; omega)
  · refine Ev.neg (by omega) (Ev.neg (by omega) (Ev.neg (by omega) ?_))
    have e : showL v.f0 v.f1 (L v.f2) = 120 :: ([39] ++ hexL (L v.f2) ++ [39]) := by
      unfold showL
      rw [if_neg (by omega), if_neg (by omega), if_neg (by omega), if_neg (by omega)]
      simp
    rw [e, h]
    exact showR_bytes v.f1 v.f2 hs (L v.f2) 0 [39] rfl (by simp only [List.length_singleton]; omega)
/-- A value shown; a wrong one is shown as nothing. -/
def shw (v : S23) : List UInt8 := if vR v = true then showL v.f0 v.f1 (L v.f2) else []
theorem shw_eq {v : S23} (hw : wf_T23 v) : value_Show.f v.f0 v.f1 v.f2 = some ⟨(shw v).toArray⟩ := by
  unfold shw
  by_cases h : vR v = true
  · rw [if_pos h]; exact show_eq h (wf_inR hw)
  · rw [if_neg h]
    unfold value_Show.f
    rw [right_eq]
    simp only [Option.bind_some]
    rw [if_neg h]
theorem hexL_len (s : List UInt8) : (hexL s).length = 2 * s.length := hexL_length s
theorem shw_len {v : S23} (hw : wf_T23 v) : (shw v).length ≤ 200 := by
  unfold shw
  split
  · rename_i hv
    have hs := size_of_right hv
    have hl : (L v.f2).length ≤ 64 := by rw [L_len]; exact hs
    have h1 := dbl_length_le (L v.f2)
    have h2 := hexL_len (L v.f2)
    have h3 := Go.Lib.itoa_length_le v.f1 (wf_inR hw).1 (wf_inR hw).2
    unfold showL
    split
    · simp
    · split
      · split <;> simp
      · split
        · omega
        · split
          · simp; omega
          · simp; omega
  · simp
def SEP : List UInt8 := [44, 32]
theorem lens_le : ∀ (l : List S23), (∀ v ∈ l, wf_T23 v) → Go.Lib.lens (l.map shw) ≤ 200 * l.length
  | [], _ => by simp [Go.Lib.lens]
  | v :: l, h => by
    have h1 := shw_len (h v List.mem_cons_self)
    have h2 := lens_le l (fun x hx => h x (List.mem_cons_of_mem _ hx))
    simp only [Go.Lib.lens, List.map_cons, List.sum_cons, List.length_cons] at h2 ⊢
    omega
theorem join_le (l : List S23) (h : ∀ v ∈ l, wf_T23 v) (hn : l.length ≤ 100) : (Go.Lib.join (l.map shw) SEP).length ≤ 100000 := by
  cases l with
  | nil => simp [Go.Lib.join_nil]
  | cons v l =>
    rw [List.map_cons, Go.Lib.join_length, ← List.map_cons]
    have := lens_le (v :: l) h
    simp [SEP] at this hn ⊢
    omega
theorem row_eq (l : List S23) (h : ∀ v ∈ l, wf_T23 v) (hn : l.length ≤ 100) : ∀ (r p : List S23), p ++ r = l → Ev (fun k => value_Row.l0 k (p.map fun v => (⟨(shw v).toArray⟩ : ByteArray)) l (l.length : Int) (p.length : Int)) ⟨(40 :: (Go.Lib.join (l.map shw) SEP ++ [41])).toArray⟩
  | [], p, e => by
    have hp : p = l := by simpa using e
    subst hp
    apply Ev.succ
    simp only [value_Row.l0]
    refine Ev.neg (by omega) ?_
    have em : (p.map fun v => (⟨(shw v).toArray⟩ : ByteArray)).map (·.data.toList) = p.map shw := by
      rw [List.map_map]; congr 1
    have hj := join_le p h hn
    have es : (⟨#[44, 32]⟩ : ByteArray).data.toList = SEP := rfl
    unfold strings_Join.f
    rw [em, es, if_pos ⟨by simp; omega, by omega⟩]
    simp only [Option.bind_some]
    have e40 : (⟨#[40]⟩ : ByteArray) = ⟨([40] : List UInt8).toArray⟩ := rfl
    have e41 : (⟨#[41]⟩ : ByteArray) = ⟨([41] : List UInt8).toArray⟩ := rfl
    rw [e40, e41, ba_append, ba_append]
    simp only [ba_size]
    refine Ev.pos (by omega) (Ev.pos (by simp; omega) ?_)
    simp
    exact Ev.pure _
  | v :: r, p, e => by
    have hl : l.length = p.length + r.length + 1 := by rw [← e]; simp; omega
    have hv : rd_T23 l (p.length : Int) = v := by rw [← e]; exact rdv p v r
    have hm : v ∈ l := by rw [← e]; simp
    apply Ev.succ
    simp only [value_Row.l0]
    refine Ev.pos (by omega) (Ev.pos (by omega) (Ev.pos (by omega) ?_))
    rw [hv, shw_eq (h v hm)]
    simp only [Option.bind_some]
    rw [inc64 (by omega)]
    refine Ev.pos (by simp; omega) ?_
    have ih := row_eq l h hn r (p ++ [v]) (by simp [e])
    rw [List.map_append, List.length_append] at ih
    exact ih
theorem rowR_eq (l : List S23) (h : ∀ v ∈ l, wf_T23 v) (hn : l.length ≤ 100) : ∀ (r p : List S23) (acc : List UInt8), p ++ r = l → acc.length + 300 * r.length ≤ 100000 →
    Ev (fun k => corollaryref01_Row.l0 k l ⟨acc.toArray⟩ (p.length : Int)) ⟨(acc ++ (if p = [] then Go.Lib.join (r.map shw) SEP else Go.Lib.joinTail SEP (r.map shw)) ++ [41]).toArray⟩
  | [], p, acc, e, ha => by
    have hp : p = l := by simpa using e
    subst hp
    apply Ev.succ
    simp only [corollaryref01_Row.l0]
    have e41 : (⟨#[41]⟩ : ByteArray) = ⟨([41] : List UInt8).toArray⟩ := rfl
    simp only [List.length_nil] at ha
    rw [e41, ba_append]
    simp only [ba_size]
    refine Ev.neg (by omega) (Ev.pos (by omega) ?_)
    have e0 : (if p = [] then Go.Lib.join (([] : List S23).map shw) SEP else Go.Lib.joinTail SEP (([] : List S23).map shw)) = [] := by
      split <;> rfl
    rw [e0, List.append_nil]
    exact Ev.pure _
  | v :: r, p, acc, e, ha => by
    have hl : l.length = p.length + r.length + 1 := by rw [← e]; simp; omega
    have hv : rd_T23 l (p.length : Int) = v := by rw [← e]; exact rdv p v r
    have hm : v ∈ l := by rw [← e]; simp
    have hw := h v hm
    have hsl := shw_len hw
    simp only [List.length_cons] at ha
    have step : ∀ acc2 : List UInt8, acc2.length ≤ acc.length + 2 → Ev (fun k => corollaryref01_Row.j1 k l ⟨acc2.toArray⟩ (p.length : Int)) ⟨(acc2 ++ shw v ++ Go.Lib.joinTail SEP (r.map shw) ++ [41]).toArray⟩ := by
      intro acc2 h2
      apply Ev.succ
      simp only [corollaryref01_Row.j1]
      refine Ev.pos (by omega) (Ev.pos (by omega) ?_)
      rw [hv, inc64 (by omega)]
      refine Ev.bind (refRight_ev v (wfS hw)) ?_
      have ih := rowR_eq l h hn r (p ++ [v]) (acc2 ++ shw v) (by simp [e]) (by simp only [List.length_append]; omega)
      rw [if_neg (by simp), List.length_append] at ih
      by_cases hr : vR v = true
      · refine Ev.pos hr (Ev.bind (showR_ev hr (wf_inR hw)) ?_)
        have es : shw v = showL v.f0 v.f1 (L v.f2) := by unfold shw; rw [if_pos hr]
        rw [← es, ba_append]
        simp only [ba_size]
        refine Ev.pos (by omega) ?_
        exact ih
      · refine Ev.neg hr ?_
        have es : shw v = [] := by unfold shw; rw [if_neg hr]
        rw [es, List.append_nil] at ih ⊢
        exact ih
    apply Ev.succ
    simp only [corollaryref01_Row.l0]
    refine Ev.pos (by omega) ?_
    cases p with
    | nil =>
      refine Ev.neg (by simp) ?_
      have := step acc (by omega)
      rw [if_pos rfl, List.map_cons, Go.Lib.join_cons]
      rw [List.append_assoc acc] at this
      exact this
    | cons q p =>
      have e2 : (⟨#[44, 32]⟩ : ByteArray) = ⟨SEP.toArray⟩ := rfl
      rw [e2, ba_append]
      simp only [ba_size]
      refine Ev.pos (by simp only [List.length_cons]; omega) (Ev.pos (by omega) ?_)
      have := step (acc ++ SEP) (by simp [SEP])
      rw [if_neg (by simp), List.map_cons]
      have e3 : Go.Lib.joinTail SEP (shw v :: r.map shw) = SEP ++ shw v ++ Go.Lib.joinTail SEP (r.map shw) := by simp [Go.Lib.joinTail]
      rw [e3]
      have e4 : acc ++ SEP ++ shw v ++ Go.Lib.joinTail SEP (r.map shw) ++ [41] = acc ++ (SEP ++ shw v ++ Go.Lib.joinTail SEP (r.map shw)) ++ [41] := by simp
      rw [e4] at this
      exact this
theorem ValueShows_pure : Stat.ValueShows := by
  intro a0 a1 a2 l hw hl
  apply Ev.get
  unfold corollarylaw01_ValueShows.f
  by_cases hn : (l.length : Int) > 100
  · exact Ev.pos hn (Ev.bind awake_ev (Ev.pure _))
  · refine Ev.neg hn (Ev.bind (refRight_ev ⟨a0, a1, a2⟩ (wfS hw)) ?_)
    have tail : Ev (fun k => corollarylaw01_ValueShows.j0 k l ⟨(shw ⟨a0, a1, a2⟩).toArray⟩ a0 a1 a2) true := by
      apply Ev.succ
      simp only [corollarylaw01_ValueShows.j0]
      refine Ev.bind (Ev.of (shw_eq hw)) (Ev.pos rfl ?_)
      unfold value_Row.f corollaryref01_Row.f
      have r1 := row_eq l hl.2 (by omega) l [] rfl
      have r2 := rowR_eq l hl.2 (by omega) l [] [40] rfl (by simp; omega)
      rw [if_pos rfl] at r2
      refine Ev.bind r1 (Ev.bind r2 ?_)
      refine Ev.pos (by simp) (Ev.bind awake_ev (Ev.pure _))
    by_cases hr : vR ⟨a0, a1, a2⟩ = true
    · refine Ev.pos hr (Ev.bind (showR_ev hr (wf_inR hw)) ?_)
      have es : shw ⟨a0, a1, a2⟩ = showL a0 a1 (L a2) := by unfold shw; rw [if_pos hr]
      rw [← es]
      exact tail
    · refine Ev.neg hr ?_
      have es : shw ⟨a0, a1, a2⟩ = [] := by unfold shw; rw [if_neg hr]
      rw [es] at tail
      exact tail
end Go.Proofs.YtmdnnpahmoaicaaDoor.Pure
