-- HALVED
import Derived.Test.YtchpbnabbjdfgaaDoorPureB7
import Derived.Lib.ValidU
import Derived.Lib.DecodeN
import Derived.Test.YtchpbnabbjdfgaaDoorPx0
import Derived.Test.YtchpbnabbjdfgaaDoorPx98
import Derived.Test.YtchpbnabbjdfgaaDoorPx105
namespace Go.Proofs.YtchpbnabbjdfgaaDoor.Pure
open Go.ChangeShapes Go.WideShapes Go.ChangeAt Go.RowKit Go.Proofs.YtchpbnabbjdfgaaDoorW.PrintWords Go.Proofs.YtchpbnabbjdfgaaDoorW.PrintLast Go.Proofs.YtchpbnabbjdfgaaDoor.P Go.Proofs.YtchpbnabbjdfgaaDoor.Open
set_option linter.unusedVariables false
set_option linter.unusedSimpArgs false
theorem bt_get (s : ByteArray) (i : Nat) : (s.get! i).toNat = (bt s (i : Int)).toNat := by
 unfold bt
 by_cases h : i < s.size
 ·rw [dif_pos (by simpa using h)]
  simp only [Int.toNat_natCast]
  have : s.get! i = s[i] := by
   show s.data[i]! = s.data[i]
   exact getElem!_pos s.data i h
  rw [this]
 ·rw [dif_neg (by simpa using h)]
  have : s.get! i = 0 := by
   show s.data[i]! = 0
   rw [getElem!_neg s.data i h]
   rfl
  rw [this]
  rfl
theorem bt_rng (s : ByteArray) (i : Int) : 0 ≤ bt s i ∧ bt s i ≤ 255 := bt_range s i
theorem zgh {s : ByteArray} {a n low i : Int} {v : Bool} (hi : i < n) (h0 : 0 ≤ i) (hs : i < (s.size : Int)) (hz : s.size ≤ 9223372036854775806) (ha : 0 ≤ a ∧ a < 100000000)
  (hgood : bt s i / 64 = 2 → Ev (fun k => zae.l1 k s (64 * a + bt s i % 64) n low (i + 1)) v) (hbad : bt s i / 64 ≠ 2 → v = false) :
  Ev (fun k => zae.l1 k s a n low i) v := by
 have hb := bt_rng s i
 have e1 : Int.tdiv (bt s i) 64 = bt s i / 64 := Int.tdiv_eq_ediv_of_nonneg hb.1
 have e2 : Int.tmod (wrap64 (bt s i)) 64 = bt s i % 64 := by rw [w64 (by omega) (by omega), Int.tmod_eq_emod_of_nonneg hb.1]
 apply Ev.succ
 simp only [zae.l1]
 apply Ev.pos hi
 apply Ev.pos h0
 apply Ev.pos hs
 rw [e1, e2, w64 (n := 64 * a) (by omega) (by omega), w64 (n := 64 * a + bt s i % 64) (by omega) (by omega), w64 (n := i + 1) (by omega) (by omega)]
 by_cases h : bt s i / 64 = 2
 ·exact Ev.pos (by omega) (hgood h)
 ·rw [hbad h]
  exact Ev.neg (by omega) (Ev.pure _)
theorem zja {s : ByteArray} {a n low : Int} {v : Bool} (hn : 0 ≤ n) (hs : n ≤ (s.size : Int))
  (hgood : ¬ (a < low ∨ a > 1114111 ∨ (a ≥ 55296 ∧ a < 57344)) → Ev (fun k => zae.l0 k (s.extract n.toNat s.size)) v) (hbad : (a < low ∨ a > 1114111 ∨ (a ≥ 55296 ∧ a < 57344)) → v = false) :
  Ev (fun k => zae.l1 k s a n low n) v := by
 apply Ev.succ
 simp only [zae.l1]
 apply Ev.neg (by omega)
 by_cases h1 : a < low
 ·rw [hbad (.inl h1)]; exact Ev.pos h1 (Ev.pure _)
 ·apply Ev.neg h1
  by_cases h2 : a > 1114111
  ·rw [hbad (.inr (.inl h2))]; exact Ev.pos h2 (Ev.pure _)
  ·apply Ev.neg h2
   by_cases h3 : a ≥ 55296
   ·apply Ev.pos h3
    by_cases h4 : a < 57344
    ·rw [hbad (.inr (.inr ⟨h3, h4⟩))]; exact Ev.pos h4 (Ev.pure _)
    ·exact Ev.neg h4 (Ev.pos hn (Ev.pos hs (hgood (by omega))))
   ·exact Ev.neg h3 (Ev.pos hn (Ev.pos hs (hgood (by omega))))
theorem utf_step (s : ByteArray) (v : Bool) (h0 : 0 < s.size) (hz : s.size ≤ 9223372036854775806) (d : Nat × Nat) (hd : d = Lib.decodeN s.size (bt s 0).toNat (bt s 1).toNat (bt s 2).toNat (bt s 3).toNat)
  (hbad : d.1 = 65533 ∧ d.2 = 1 → v = false) (hgood : ¬ (d.1 = 65533 ∧ d.2 = 1) → Ev (fun k => zae.l0 k (s.extract d.2 s.size)) v) :
  Ev (fun k => zae.l0 k s) v := by
 have b0 := bt_rng s 0
 have b1 := bt_rng s 1
 have b2 := bt_rng s 2
 have b3 := bt_rng s 3
 apply Ev.succ
 simp only [zae.l0]
 apply Ev.pos (by omega)
 apply Ev.pos (by omega)
 rw [w64 (n := bt s 0) (by omega) (by omega)]
 by_cases c1 : bt s 0 < 128
 ·have e : d = ((bt s 0).toNat, 1) := by rw [hd]; unfold Lib.decodeN; rw [if_pos (by omega)]
  subst e
  apply Ev.pos c1
  apply Ev.succ
  simp only [zae.j3]
  apply Ev.neg (by omega)
  refine zja (by omega) (by omega) (fun _ => ?_) (fun h => by omega)
  exact hgood (by simp only; omega)
 ·apply Ev.neg c1
  by_cases c2 : bt s 0 ≥ 194
  ·apply Ev.pos c2
   apply Ev.succ
   simp only [zae.j1]
   by_cases c3 : bt s 0 < 224
   ·apply Ev.pos (decide_eq_true c3)
    rw [w64 (n := bt s 0 - 192) (by omega) (by omega)]
    apply Ev.succ
    simp only [zae.j3]
    by_cases c4 : (s.size : Int) < 2
    ·have e : d = (65533, 1) := by rw [hd]; unfold Lib.decodeN; rw [if_neg (by omega), if_neg (by omega), if_neg (by omega), if_neg (by omega)]
     rw [hbad (by rw [e]; exact ⟨rfl, rfl⟩)]
     exact Ev.pos c4 (Ev.pure _)
    ·apply Ev.neg c4
     refine zgh (by omega) (by omega) (by omega) hz (by omega) (fun g1 => ?_) (fun g1 => ?_)
     ·have e : d = ((bt s 0).toNat % 32 * 64 + (bt s 1).toNat % 64, 2) := by rw [hd]; unfold Lib.decodeN; rw [if_neg (by omega), if_pos (by omega), if_pos (by omega)]
      subst e
      refine zja (n := 2) (by omega) (by omega) (fun _ => ?_) (fun h => by omega)
      exact hgood (by simp only; omega)
     ·have e : d = (65533, 1) := by rw [hd]; unfold Lib.decodeN; rw [if_neg (by omega), if_neg (by omega), if_neg (by omega), if_neg (by omega)]
      exact hbad (by rw [e]; exact ⟨rfl, rfl⟩)
   ·apply Ev.neg (by simpa using c3)
    apply Ev.pos (by omega)
    apply Ev.succ
    simp only [zae.j2]
    by_cases c4 : bt s 0 < 240
    ·apply Ev.pos (decide_eq_true c4)
     rw [w64 (n := bt s 0 - 224) (by omega) (by omega)]
     apply Ev.succ
     simp only [zae.j3]
     by_cases c5 : (s.size : Int) < 3
     ·have e : d = (65533, 1) := by rw [hd]; unfold Lib.decodeN; rw [if_neg (by omega), if_neg (by omega), if_neg (by omega), if_neg (by omega)]
      rw [hbad (by rw [e]; exact ⟨rfl, rfl⟩)]
      exact Ev.pos c5 (Ev.pure _)
     ·apply Ev.neg c5
      have bad : (bt s 1 / 64 ≠ 2 ∨ bt s 2 / 64 ≠ 2) → v = false := by
       intro g
       have e : d = (65533, 1) := by rw [hd]; unfold Lib.decodeN; rw [if_neg (by omega), if_neg (by omega), if_neg (by omega), if_neg (by omega)]
       exact hbad (by rw [e]; exact ⟨rfl, rfl⟩)
      refine zgh (by omega) (by omega) (by omega) hz (by omega) (fun g1 => ?_) (fun g1 => bad (.inl g1))
      refine zgh (i := 2) (by omega) (by omega) (by omega) hz (by omega) (fun g2 => ?_) (fun g2 => bad (.inr g2))
      have e : d = Lib.decodeN s.size (bt s 0).toNat (bt s 1).toNat (bt s 2).toNat (bt s 3).toNat := hd
      unfold Lib.decodeN at e
      rw [if_neg (by omega), if_neg (by omega), if_pos (by omega)] at e
      have ea : 64 * (64 * (bt s 0 - 224) + bt s 1 % 64) + bt s 2 % 64 = (((bt s 0).toNat % 16 * 4096 + (bt s 1).toNat % 64 * 64 + (bt s 2).toNat % 64 : Nat) : Int) := by omega
      show Ev (fun k => zae.l1 k s (64 * (64 * (bt s 0 - 224) + bt s 1 % 64) + bt s 2 % 64) 3 2048 3) v
      rw [ea]
      revert e
      generalize (bt s 0).toNat % 16 * 4096 + (bt s 1).toNat % 64 * 64 + (bt s 2).toNat % 64 = q
      intro e
      refine zja (n := 3) (by omega) (by omega) (fun h => ?_) (fun h => ?_)
      ·rw [if_pos (by omega)] at e
       subst e
       exact hgood (by simp only; omega)
      ·rw [if_neg (by omega)] at e
       exact hbad (by rw [e]; exact ⟨rfl, rfl⟩)
    ·apply Ev.neg (by simpa using c4)
     apply Ev.pos (by omega)
     by_cases c5 : bt s 0 < 245
     ·apply Ev.pos c5
      rw [w64 (n := bt s 0 - 240) (by omega) (by omega)]
      apply Ev.succ
      simp only [zae.j3]
      by_cases c6 : (s.size : Int) < 4
      ·have e : d = (65533, 1) := by rw [hd]; unfold Lib.decodeN; rw [if_neg (by omega), if_neg (by omega), if_neg (by omega), if_neg (by omega)]
       rw [hbad (by rw [e]; exact ⟨rfl, rfl⟩)]
       exact Ev.pos c6 (Ev.pure _)
      ·apply Ev.neg c6
       have bad : (bt s 1 / 64 ≠ 2 ∨ bt s 2 / 64 ≠ 2 ∨ bt s 3 / 64 ≠ 2) → v = false := by
        intro g
        have e : d = (65533, 1) := by rw [hd]; unfold Lib.decodeN; rw [if_neg (by omega), if_neg (by omega), if_neg (by omega), if_neg (by omega)]
        exact hbad (by rw [e]; exact ⟨rfl, rfl⟩)
       refine zgh (by omega) (by omega) (by omega) hz (by omega) (fun g1 => ?_) (fun g1 => bad (.inl g1))
       refine zgh (i := 2) (by omega) (by omega) (by omega) hz (by omega) (fun g2 => ?_) (fun g2 => bad (.inr (.inl g2)))
       refine zgh (i := 3) (by omega) (by omega) (by omega) hz (by omega) (fun g3 => ?_) (fun g3 => bad (.inr (.inr g3)))
       have e : d = Lib.decodeN s.size (bt s 0).toNat (bt s 1).toNat (bt s 2).toNat (bt s 3).toNat := hd
       unfold Lib.decodeN at e
       rw [if_neg (by omega), if_neg (by omega), if_neg (by omega), if_pos (by omega)] at e
       have ea : 64 * (64 * (64 * (bt s 0 - 240) + bt s 1 % 64) + bt s 2 % 64) + bt s 3 % 64 = (((bt s 0).toNat % 8 * 262144 + (bt s 1).toNat % 64 * 4096 + (bt s 2).toNat % 64 * 64 + (bt s 3).toNat % 64 : Nat) : Int) := by omega
       show Ev (fun k => zae.l1 k s (64 * (64 * (64 * (bt s 0 - 240) + bt s 1 % 64) + bt s 2 % 64) + bt s 3 % 64) 4 65536 4) v
       rw [ea]
       revert e
       generalize (bt s 0).toNat % 8 * 262144 + (bt s 1).toNat % 64 * 4096 + (bt s 2).toNat % 64 * 64 + (bt s 3).toNat % 64 = q
       intro e
       refine zja (n := 4) (by omega) (by omega) (fun h => ?_) (fun h => ?_)
       ·rw [if_pos (by omega)] at e
        subst e
        exact hgood (by simp only; omega)
       ·rw [if_neg (by omega)] at e
        exact hbad (by rw [e]; exact ⟨rfl, rfl⟩)
     ·have e : d = (65533, 1) := by
       rw [hd]; unfold Lib.decodeN; rw [if_neg (by omega), if_neg (by omega), if_neg (by omega)]
       split
       ·rw [if_neg (by omega)]
       ·rfl
      rw [hbad (by rw [e]; exact ⟨rfl, rfl⟩)]
      exact Ev.neg c5 (Ev.pure _)
  ·have e : d = (65533, 1) := by
    rw [hd]; unfold Lib.decodeN; rw [if_neg (by omega)]
    split
    ·rw [if_neg (by omega)]
    ·rw [if_neg (by omega), if_neg (by omega)]
   rw [hbad (by rw [e]; exact ⟨rfl, rfl⟩)]
   apply Ev.neg c2
   apply Ev.succ
   simp only [zae.j1]
   apply Ev.neg (by decide)
   apply Ev.neg (by omega)
   apply Ev.succ
   simp only [zae.j2]
   apply Ev.neg (by decide)
   exact Ev.neg (by omega) (Ev.pure _)
theorem decodeN_pos (n b0 b1 b2 b3 : Nat) : 1 ≤ (Lib.decodeN n b0 b1 b2 b3).2 := by
 unfold Lib.decodeN
 repeat' split
 all_goals simp
theorem utf_go : ∀ (n : Nat) (s : ByteArray), s.size ≤ n → s.size ≤ 9223372036854775806 → Ev (fun k => zae.l0 k s) (Lib.validGoD n s.data.toList)
 | 0, s, h, _ => by
  apply Ev.succ
  simp only [zae.l0]
  exact Ev.neg (by omega) (Ev.pure _)
 | n + 1, s, h, hz => by
  simp only [Lib.validGoD]
  by_cases h0 : s.data.toList = []
  ·rw [if_pos h0]
   have : s.size = 0 := by show s.data.size = 0; rw [← Array.length_toList, h0]; rfl
   apply Ev.succ
   simp only [zae.l0]
   exact Ev.neg (by omega) (Ev.pure _)
  ·rw [if_neg h0]
   have hpos : 0 < s.size := by
    show 0 < s.data.size
    rw [← Array.length_toList]
    exact List.length_pos_iff.mpr h0
   have ed : Lib.decodeL s.data.toList = Lib.decodeN s.size (bt s 0).toNat (bt s 1).toNat (bt s 2).toNat (bt s 3).toNat := by
    unfold Lib.decodeL
    have : (⟨s.data.toList.toArray⟩ : ByteArray) = s := by cases s; simp
    rw [this, Lib.decode_at, bt_get, bt_get, bt_get, bt_get]
    rfl
   rw [ed]
   refine utf_step s _ hpos hz _ rfl (fun hb => by rw [if_pos hb]) (fun hb => ?_)
   rw [if_neg hb]
   have p := decodeN_pos s.size (bt s 0).toNat (bt s 1).toNat (bt s 2).toNat (bt s 3).toNat
   revert p
   generalize (Lib.decodeN s.size (bt s 0).toNat (bt s 1).toNat (bt s 2).toNat (bt s 3).toNat).2 = w
   intro p
   have e1 : (s.extract w s.size).data.toList = s.data.toList.drop w := by
    rw [ByteArray.data_extract, Array.toList_extract]
    rw [List.extract_eq_take_drop]
    apply List.take_of_length_le
    rw [List.length_drop, Array.length_toList]
    exact Nat.le_refl _
   have e2 : (s.extract w s.size).size = s.size - w := by
    show (s.extract w s.size).data.size = s.data.size - w
    rw [← Array.length_toList, e1, List.length_drop, Array.length_toList]
   rw [← e1]
   exact utf_go n _ (by omega) (by omega)
theorem utf_ev (s : ByteArray) (hz : s.size ≤ 9223372036854775806) : Ev (fun k => zae.f k s) (Lib.validD s.data.toList) := by
 have := utf_go s.size s (Nat.le_refl _) hz
 unfold Lib.validD
 rw [Array.length_toList]
 exact this
theorem refRight_ev (v : S105) (hs : v.f2.size ≤ 9223372036854775807) : Ev (fun k => zas.f k v.f0 v.f1 v.f2) (vR v) := by
 have hn : (v.f2.toList == ([] : List UInt8)) = decide ((v.f2.size : Int) ≤ 0) := by
  rw [str_nil, Bool.eq_iff_iff]
  simp only [decide_eq_true_eq]
  constructor
  ·intro e; rw [e]; decide
  ·intro e
   apply ByteArray.ext
   apply Array.eq_empty_of_size_eq_zero
   show v.f2.size = 0
   omega
 have j : ∀ b : Bool, (b = true → vR v = false) → (b = false → 0 ≤ v.f0 ∧ v.f0 ≤ 4 ∧ (v.f0 < 3 → (v.f2.size : Int) ≤ 0) ∧ (v.f0 ≠ 1 → v.f0 ≠ 2 → v.f1 = 0)) → Ev (fun k => zas.j0 k b v.f0 v.f1 v.f2) (vR v) := by
  intro b h1 h2
  apply Ev.succ
  simp only [zas.j0]
  cases b with
  | true => rw [h1 rfl]; exact Ev.pos rfl (Ev.pure _)
  | false =>
   obtain ⟨q1, q2, q3, q4⟩ := h2 rfl
   apply Ev.neg (by decide)
   by_cases k1 : v.f0 = 1
   ·apply Ev.pos k1
    have e : vR v = (decide (v.f1 = 0) || decide (v.f1 = 1)) := by
     unfold vR
     rw [if_neg (by omega), if_pos k1, hn, decide_eq_true (q3 (by omega)), Bool.and_true]
    rw [e]
    by_cases k2 : v.f1 = 0
    ·simp only [k2]; exact Ev.pos trivial (Ev.of (by simp))
    ·apply Ev.neg k2
     exact Ev.of (by rw [decide_eq_false k2, Bool.false_or]; rfl)
   ·apply Ev.neg k1
    have e : vR v = (decide ((v.f2.size : Int) ≤ 64) && (decide (v.f0 ≠ 3) || Lib.validD v.f2.data.toList)) := by
     unfold vR
     by_cases k0 : v.f0 = 0
     ·rw [if_pos k0, hn, decide_eq_true (q4 k1 (by omega)), decide_eq_true (q3 (by omega)), decide_eq_true (show (v.f2.size : Int) ≤ 64 by have := q3 (by omega); omega), decide_eq_true (show v.f0 ≠ 3 by omega)]
      rfl
     ·rw [if_neg k0, if_neg k1]
      by_cases k2 : v.f0 = 2
      ·rw [if_pos k2, hn, decide_eq_true (q3 (by omega)), decide_eq_true (show (v.f2.size : Int) ≤ 64 by have := q3 (by omega); omega), decide_eq_true (show v.f0 ≠ 3 by omega)]
       rfl
      ·rw [if_neg k2]
       by_cases k3 : v.f0 = 3
       ·rw [if_pos k3, decide_eq_true (q4 k1 k2), decide_eq_false (show ¬ v.f0 ≠ 3 by omega), Bool.true_and, Bool.false_or]
       ·rw [if_neg k3, if_pos (by omega), decide_eq_true (q4 k1 k2), decide_eq_true (show v.f0 ≠ 3 from k3), Bool.true_and, Bool.true_or, Bool.and_true]
    rw [e]
    by_cases k2 : (v.f2.size : Int) ≤ 64
    ·rw [decide_eq_true k2, Bool.true_and]
     apply Ev.pos k2
     by_cases k3 : v.f0 = 3
     ·rw [decide_eq_false (show ¬ v.f0 ≠ 3 by omega), Bool.false_or]
      exact Ev.pos k3 (Ev.bind (utf_ev v.f2 (by omega)) (Ev.pure _))
     ·rw [decide_eq_true (show v.f0 ≠ 3 from k3), Bool.true_or]
      exact Ev.neg k3 (Ev.pure _)
    ·rw [decide_eq_false k2, Bool.false_and]
     exact Ev.neg k2 (Ev.pure _)
 have bad : ∀ (h : v.f0 < 0 ∨ v.f0 > 4 ∨ (v.f0 < 3 ∧ (v.f2.size : Int) > 0) ∨ (v.f0 ≠ 1 ∧ v.f0 ≠ 2 ∧ v.f1 ≠ 0)), vR v = false := by
  intro h
  unfold vR
  rw [hn]
  by_cases k0 : v.f0 = 0
  ·rw [if_pos k0]
   by_cases k1 : v.f1 = 0
   ·rw [decide_eq_false (show ¬ (v.f2.size : Int) ≤ 0 by omega), Bool.and_false]
   ·rw [decide_eq_false k1, Bool.false_and]
  ·rw [if_neg k0]
   by_cases k1 : v.f0 = 1
   ·rw [if_pos k1, decide_eq_false (show ¬ (v.f2.size : Int) ≤ 0 by omega), Bool.and_false]
   ·rw [if_neg k1]
    by_cases k2 : v.f0 = 2
    ·rw [if_pos k2, decide_eq_false (show ¬ (v.f2.size : Int) ≤ 0 by omega)]
    ·rw [if_neg k2]
     by_cases k3 : v.f0 = 3
     ·rw [if_pos k3, decide_eq_false (show ¬ v.f1 = 0 by omega)]
      rfl
     ·rw [if_neg k3]
      by_cases k4 : v.f0 = 4
      ·rw [if_pos k4, decide_eq_false (show ¬ v.f1 = 0 by omega)]
       rfl
      ·rw [if_neg k4]
 unfold zas.f
 by_cases c1 : v.f0 < 0
 ·exact Ev.pos c1 (j true (fun _ => bad (.inl c1)) (fun h => by cases h))
 ·apply Ev.neg c1
  by_cases c2 : v.f0 > 4
  ·exact Ev.pos c2 (j true (fun _ => bad (.inr (.inl c2))) (fun h => by cases h))
  ·apply Ev.neg c2
   have rest : (v.f0 < 3 → (v.f2.size : Int) ≤ 0) → Ev (fun k => if v.f0 = 1 then (zas.j0 k false v.f0 v.f1 v.f2) else (if v.f0 = 2 then (zas.j0 k false v.f0 v.f1 v.f2) else (zas.j0 k (v.f1 != 0) v.f0 v.f1 v.f2))) (vR v) := by
    intro h3
    by_cases c5 : v.f0 = 1
    ·exact Ev.pos c5 (j false (fun h => by cases h) (fun _ => ⟨by omega, by omega, h3, fun h => absurd c5 h⟩))
    ·apply Ev.neg c5
     by_cases c6 : v.f0 = 2
     ·exact Ev.pos c6 (j false (fun h => by cases h) (fun _ => ⟨by omega, by omega, h3, fun _ h => absurd c6 h⟩))
     ·apply Ev.neg c6
      refine j _ (fun h => bad (.inr (.inr (.inr ⟨c5, c6, by simpa using h⟩)))) (fun h => ⟨by omega, by omega, h3, fun _ _ => by simpa using h⟩)
   by_cases c3 : v.f0 < 3
   ·apply Ev.pos c3
    by_cases c4 : (v.f2.size : Int) > 0
    ·exact Ev.pos c4 (j true (fun _ => bad (.inr (.inr (.inl ⟨c3, c4⟩)))) (fun h => by cases h))
    ·exact Ev.neg c4 (rest (fun _ => by omega))
   ·exact Ev.neg c3 (rest (fun h => absurd h c3))
theorem toList_get (s : ByteArray) (i : Nat) (h : i < s.size) : s.data.toList.drop i = s.data[i]'h :: s.data.toList.drop (i + 1) := by
 rw [List.drop_eq_getElem_cons (by rw [Array.length_toList]; exact h)]
 congr 1
theorem bt_data (s : ByteArray) (i : Nat) (h : i < s.size) : bt s (i : Int) = ((s.data[i]'h).toNat : Int) := by
 unfold bt
 rw [dif_pos (by simpa using h)]
 rfl
theorem before_go (a b : S105) (hs : a.f2.size ≤ 9223372036854775807) : ∀ (n i : Nat), a.f2.size - i ≤ n → i ≤ a.f2.size → i ≤ b.f2.size →
  Ev (fun k => zan.l0 k (i : Int) a.f0 a.f1 a.f2 b.f0 b.f1 b.f2) (Op.bytesLess (a.f2.data.toList.drop i) (b.f2.data.toList.drop i))
 | n, i, hn, ha, hb => by
  have la : a.f2.data.toList.length = a.f2.size := Array.length_toList
  have lb : b.f2.data.toList.length = b.f2.size := Array.length_toList
  have stop : (i = a.f2.size ∨ i = b.f2.size) → Ev (fun k => zan.j1 k (i : Int) false a.f0 a.f1 a.f2 b.f0 b.f1 b.f2) (Op.bytesLess (a.f2.data.toList.drop i) (b.f2.data.toList.drop i)) := by
   intro h
   apply Ev.succ
   simp only [zan.j1]
   apply Ev.neg (by decide)
   apply Ev.of
   congr 1
   by_cases h2 : i = b.f2.size
   ·rw [List.drop_of_length_le (l := b.f2.data.toList) (by omega), decide_eq_false (by omega)]
    cases a.f2.data.toList.drop i <;> rfl
   ·rw [List.drop_of_length_le (l := a.f2.data.toList) (by omega), toList_get b.f2 i (by omega), decide_eq_true (by omega)]
    rfl
  apply Ev.succ
  simp only [zan.l0]
  by_cases h1 : i < a.f2.size
  ·apply Ev.pos (by omega)
   by_cases h2 : i < b.f2.size
   ·rw [decide_eq_true (by omega)]
    apply Ev.succ
    simp only [zan.j1]
    apply Ev.pos trivial
    apply Ev.pos (by omega)
    apply Ev.pos (by omega)
    apply Ev.pos (by omega)
    rw [bt_data a.f2 i h1, bt_data b.f2 i h2, toList_get a.f2 i h1, toList_get b.f2 i h2, w64 (by omega) (by omega)]
    simp only [Op.bytesLess]
    by_cases he : a.f2.data[i]'h1 = b.f2.data[i]'h2
    ·refine Ev.pos (by rw [he]) ?_
     rw [he]
     have : ¬ (b.f2.data[i]'h2 < b.f2.data[i]'h2) := UInt8.lt_irrefl _
     rw [decide_eq_false this, Bool.false_or, beq_self_eq_true, Bool.true_and]
     match n, hn with
     | 0, hn => omega
     | n + 1, hn =>
      have := before_go a b hs n (i + 1) (by omega) (by omega) (by omega)
      exact this
    ·apply Ev.neg (by
      intro h
      apply he
      apply UInt8.toNat_inj.mp
      omega)
     apply Ev.of
     congr 1
     have : (a.f2.data[i]'h1 == b.f2.data[i]'h2) = false := by simpa using he
     rw [this, Bool.false_and, Bool.or_false, decide_eq_decide, UInt8.lt_iff_toNat_lt]
     omega
   ·rw [decide_eq_false (by omega)]
    exact stop (.inr (by omega))
  ·apply Ev.neg (by omega)
   exact stop (.inl (by omega))
def before (a b : S105) : Bool := if a.f0 = b.f0 then (if a.f1 = b.f1 then Op.bytesLess a.f2.toList b.f2.toList else decide (a.f1 < b.f1)) else decide (a.f0 < b.f0)
theorem before_ev (a b : S105) (hs : a.f2.size ≤ 9223372036854775807) : Ev (fun k => zan.f k a.f0 a.f1 a.f2 b.f0 b.f1 b.f2) (before a b) := by
 unfold zan.f before
 by_cases h0 : a.f0 = b.f0
 ·rw [if_pos h0]
  apply Ev.pos h0
  by_cases h1 : a.f1 = b.f1
  ·rw [if_pos h1]
   apply Ev.pos h1
   rw [ByteArray.toList_eq, ByteArray.toList_eq]
   exact before_go a b hs a.f2.size 0 (by omega) (by omega) (by omega)
  ·rw [if_neg h1]
   exact Ev.neg h1 (Ev.pure _)
 ·rw [if_neg h0]
  exact Ev.neg h0 (Ev.pure _)
theorem zgf (a b : S105) : before a b = true ↔ Lt a b := by
 unfold before Lt
 by_cases h0 : a.f0 = b.f0
 ·rw [if_pos h0]
  by_cases h1 : a.f1 = b.f1
  ·rw [if_pos h1]
   constructor
   ·intro h; exact .inr ⟨h0, .inr ⟨h1, h⟩⟩
   ·rintro (h | ⟨_, h | ⟨_, h⟩⟩)
    ·omega
    ·omega
    ·exact h
  ·rw [if_neg h1, decide_eq_true_eq]
   constructor
   ·intro h; exact .inr ⟨h0, .inl h⟩
   ·rintro (h | ⟨_, h | ⟨h, _⟩⟩)
    ·omega
    ·exact h
    ·exact absurd h h1
 ·rw [if_neg h0, decide_eq_true_eq]
  constructor
  ·intro h; exact .inl h
  ·rintro (h | ⟨h, _⟩)
   ·exact h
   ·exact absurd h h0
theorem before_cmp (a b : S105) : cmpS a b = if before b a = true then 1 else if before a b = true then -1 else 0 := by
 rcases zhq a b with ⟨h, l⟩ | ⟨h, l⟩ | ⟨h, rfl⟩
 ·rw [if_neg (fun x => l.asym ((zgf b a).mp x)), if_pos ((zgf a b).mpr l), h]
 ·rw [if_pos ((zgf b a).mpr l), h]
 ·rw [if_neg (fun x => Lt.irrefl _ ((zgf a a).mp x)), if_neg (fun x => Lt.irrefl _ ((zgf a a).mp x)), h]
theorem rfits_eq (n : Int) : zbz.f n = some (fit n) := fits_eq n
theorem refright_go (l : List S105) (hl : okR l) : ∀ (t : List S105) (i : Nat), l.drop i = t → Ev (fun k => zav.l0 k l (i : Int)) (t.all vR)
 | [], i, h => by
  apply Ev.succ
  simp only [zav.l0]
  exact Ev.neg (dn h) (Ev.pure _)
 | c :: t, i, h => by
  obtain ⟨h1, h2, h3, h4, h5⟩ := ds h
  have hll := hl.1
  have hc := hl.2 c (List.mem_of_getElem? h5)
  apply Ev.succ
  simp only [zav.l0]
  have e : zbb l (i : Int) = c := h2 _
  rw [e, ws (by omega), List.all_cons]
  refine Ev.pos h1 (Ev.pos (nn i) (Ev.bind (refRight_ev c hc) ?_))
  by_cases hv : vR c = true
  ·rw [hv, Bool.true_and]
   exact Ev.pos rfl (refright_go l hl t (i + 1) h3)
  ·rw [Bool.eq_false_iff.2 hv, Bool.false_and]
   exact Ev.neg (by decide) (Ev.pure _)
theorem refright_ev (l : List S105) (hl : okR l) : Ev (fun k => zav.f k l) (rowR l) := refright_go l hl l 0 rfl
theorem refrow_go (l m : List S105) (hl : okR l) (hm : okR m) : ∀ (a b : List S105) (i : Nat), l.drop i = a → m.drop i = b → i ≤ l.length → i ≤ m.length → Ev (fun k => zaf.l0 k l m (i : Int)) (zeh a b)
 | [], [], i, ha, hb, hi1, hi2 => by
  have la := dl ha
  have lb := dl hb
  simp only [List.length_nil] at la lb
  apply Ev.succ
  simp only [zaf.l0]
  apply Ev.neg (dn ha)
  apply Ev.succ
  simp only [zaf.j1]
  apply Ev.neg (by decide)
  exact Ev.neg (by omega) (Ev.neg (by omega) (Ev.pure _))
 | [], b :: bs, i, ha, hb, hi1, hi2 => by
  have la := dl ha
  have lb := dl hb
  simp only [List.length_nil, List.length_cons] at la lb
  apply Ev.succ
  simp only [zaf.l0]
  apply Ev.neg (dn ha)
  apply Ev.succ
  simp only [zaf.j1]
  apply Ev.neg (by decide)
  exact Ev.pos (by omega) (Ev.pure _)
 | a :: as_, [], i, ha, hb, hi1, hi2 => by
  have la := dl ha
  have lb := dl hb
  simp only [List.length_nil, List.length_cons] at la lb
  apply Ev.succ
  simp only [zaf.l0]
  apply Ev.pos (ds ha).1
  rw [decide_eq_false (dn hb)]
  apply Ev.succ
  simp only [zaf.j1]
  apply Ev.neg (by decide)
  exact Ev.neg (by omega) (Ev.pos (by omega) (Ev.pure _))
 | a :: as_, b :: bs, i, ha, hb, hi1, hi2 => by
  obtain ⟨a1, a2, a3, a4, a5⟩ := ds ha
  obtain ⟨b1, b2, b3, b4, b5⟩ := ds hb
  have ea : zbb l (i : Int) = a := a2 _
  have eb : zbb m (i : Int) = b := b2 _
  have oa := hl.2 a (List.mem_of_getElem? a5)
  have ob := hm.2 b (List.mem_of_getElem? b5)
  have hll := hl.1
  apply Ev.succ
  simp only [zaf.l0]
  apply Ev.pos a1
  rw [decide_eq_true b1]
  apply Ev.succ
  simp only [zaf.j1]
  rw [ea, eb, ws (by omega)]
  refine Ev.pos trivial (Ev.pos (nn i) (Ev.pos a1 (Ev.pos b1 (Ev.bind (before_ev a b oa) ?_))))
  have hcmp := before_cmp a b
  simp only [zeh]
  by_cases h1 : before a b = true
  ·rw [h1]
   have hba : before b a = false := by
    have := ((zgf a b).1 h1).asym
    exact Bool.eq_false_iff.2 (fun h => this ((zgf b a).1 h))
   rw [hba, h1] at hcmp
   rw [if_neg (by decide), if_pos rfl] at hcmp
   rw [hcmp, if_neg (by decide)]
   exact Ev.pos rfl (Ev.pure _)
  ·rw [Bool.eq_false_iff.2 h1]
   refine Ev.neg (by decide) (Ev.bind (before_ev b a ob) ?_)
   by_cases h2 : before b a = true
   ·rw [h2] at hcmp ⊢
    rw [if_pos rfl] at hcmp
    rw [hcmp, if_neg (by decide)]
    exact Ev.pos rfl (Ev.pure _)
   ·rw [Bool.eq_false_iff.2 h2, Bool.eq_false_iff.2 h1] at hcmp
    rw [if_neg (by decide), if_neg (by decide)] at hcmp
    rw [Bool.eq_false_iff.2 h2, hcmp, if_pos rfl]
    exact Ev.neg (by decide) (refrow_go l m hl hm as_ bs (i + 1) a3 b3 (by omega) (by omega))
theorem refrows_ev (l m : List S105) (hl : okR l) (hm : okR m) : Ev (fun k => zaf.f k l m) (zeh l m) := refrow_go l m hl hm l m 0 rfl rfl (Nat.zero_le _) (Nat.zero_le _)
theorem rowsS_m1 {a b : List S105} : zeh a b = -1 ↔ LtR a b := by
 unfold LtR
 have := rowsS_rng a b
 omega
theorem rowsS_p1 {a b : List S105} : zeh a b = 1 ↔ LtR b a := by
 unfold LtR
 have := rowsS_rng a b
 have := rowsS_anti a b
 omega
end Go.Proofs.YtchpbnabbjdfgaaDoor.Pure
