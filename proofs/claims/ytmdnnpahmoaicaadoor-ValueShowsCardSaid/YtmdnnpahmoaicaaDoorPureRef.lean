-- Plain laws of the printed functions (wip/l01).
import Derived.Test.YtmdnnpahmoaicaaDoorPure
import Derived.Test.YtmdnnpahmoaicaaDoorPx56
import Derived.Lib.ValidU
import Derived.Lib.DecodeN
namespace Go.Proofs.YtmdnnpahmoaicaaDoor.Pure
open Go.ChangeShapes Go.WideShapes Go.ChangeAt Go.RowKit Go.Proofs.YtmdnnpahmoaicaaDoorW.PrintWords Go.Proofs.YtmdnnpahmoaicaaDoorW.PrintLast Go.Proofs.YtmdnnpahmoaicaaDoor.P Go.Proofs.YtmdnnpahmoaicaaDoor.Open
set_option linter.unusedVariables false
set_option linter.unusedSimpArgs false
/-! A text is right for the document just when it is for the library. -/
theorem bt_get (s : ByteArray) (i : Nat) : (s.get! i).toNat = (bt s (i : Int)).toNat := by
  unfold bt
  by_cases h : i < s.size
  · rw [dif_pos (by simpa using h)]
    simp only [Int.toNat_natCast]
    have : s.get! i = s[i] := by
      show s.data[i]! = s.data[i]
      exact getElem!_pos s.data i h
    rw [this]
  · rw [dif_neg (by simpa using h)]
    have : s.get! i = 0 := by
      show s.data[i]! = 0
      rw [getElem!_neg s.data i h]
      rfl
    rw [this]
    rfl
theorem bt_rng (s : ByteArray) (i : Int) : 0 ≤ bt s i ∧ bt s i ≤ 255 := bt_range s i
/-- One turn over the bytes that follow. -/
theorem utf_l1_more {s : ByteArray} {a n low i : Int} {v : Bool} (hi : i < n) (h0 : 0 ≤ i) (hs : i < (s.size : Int)) (hz : s.size ≤ 9223372036854775806) (ha : 0 ≤ a ∧ a < 100000000)
    (hgood : bt s i / 64 = 2 → Ev (fun k => corollaryref01_utf.l1 k s (64 * a + bt s i % 64) n low (i + 1)) v) (hbad : bt s i / 64 ≠ 2 → v = false) :
    Ev (fun k => corollaryref01_utf.l1 k s a n low i) v := by
  have hb := bt_rng s i
  have e1 : Int.tdiv (bt s i) 64 = bt s i / 64 := Int.tdiv_eq_ediv_of_nonneg hb.1
  have e2 : Int.tmod (wrap64 (bt s i)) 64 = bt s i % 64 := by rw [w64 (by omega) (by omega), Int.tmod_eq_emod_of_nonneg hb.1]
  apply Ev.succ
  simp only [corollaryref01_utf.l1]
  apply Ev.pos hi
  apply Ev.pos h0
  apply Ev.pos hs
  rw [e1, e2, w64 (n := 64 * a) (by omega) (by omega), w64 (n := 64 * a + bt s i % 64) (by omega) (by omega), w64 (n := i + 1) (by omega) (by omega)]
  by_cases h : bt s i / 64 = 2
  · exact Ev.pos (by omega) (hgood h)
  · rw [hbad h]
    exact Ev.neg (by omega) (Ev.pure _)
/-- Behind the last of them. -/
theorem utf_l1_end {s : ByteArray} {a n low : Int} {v : Bool} (hn : 0 ≤ n) (hs : n ≤ (s.size : Int))
    (hgood : ¬ (a < low ∨ a > 1114111 ∨ (a ≥ 55296 ∧ a < 57344)) → Ev (fun k => corollaryref01_utf.l0 k (s.extract n.toNat s.size)) v) (hbad : (a < low ∨ a > 1114111 ∨ (a ≥ 55296 ∧ a < 57344)) → v = false) :
    Ev (fun k => corollaryref01_utf.l1 k s a n low n) v := by
  apply Ev.succ
  simp only [corollaryref01_utf.l1]
  apply Ev.neg (by omega)
  by_cases h1 : a < low
  · rw [hbad (.inl h1)]; exact Ev.pos h1 (Ev.pure _)
  · apply Ev.neg h1
    by_cases h2 : a > 1114111
    · rw [hbad (.inr (.inl h2))]; exact Ev.pos h2 (Ev.pure _)
    · apply Ev.neg h2
      by_cases h3 : a ≥ 55296
      · apply Ev.pos h3
        by_cases h4 : a < 57344
        · rw [hbad (.inr (.inr ⟨h3, h4⟩))]; exact Ev.pos h4 (Ev.pure _)
        · exact Ev.neg h4 (Ev.pos hn (Ev.pos hs (hgood (by omega))))
      · exact Ev.neg h3 (Ev.pos hn (Ev.pos hs (hgood (by omega))))
/-- One rune. -/
theorem utf_step (s : ByteArray) (v : Bool) (h0 : 0 < s.size) (hz : s.size ≤ 9223372036854775806) (d : Nat × Nat) (hd : d = Lib.decodeN s.size (bt s 0).toNat (bt s 1).toNat (bt s 2).toNat (bt s 3).toNat)
    (hbad : d.1 = 65533 ∧ d.2 = 1 → v = false) (hgood : ¬ (d.1 = 65533 ∧ d.2 = 1) → Ev (fun k => corollaryref01_utf.l0 k (s.extract d.2 s.size)) v) :
    Ev (fun k => corollaryref01_utf.l0 k s) v := by
  have b0 := bt_rng s 0
  have b1 := bt_rng s 1
  have b2 := bt_rng s 2
  have b3 := bt_rng s 3
  apply Ev.succ
  simp only [corollaryref01_utf.l0]
  apply Ev.pos (by omega)
  apply Ev.pos (by omega)
  rw [w64 (n := bt s 0) (by omega) (by omega)]
  by_cases c1 : bt s 0 < 128
  · have e : d = ((bt s 0).toNat, 1) := by rw [hd]; unfold Lib.decodeN; rw [if_pos (by omega)]
    subst e
    apply Ev.pos c1
    apply Ev.succ
    simp only [corollaryref01_utf.j3]
    apply Ev.neg (by omega)
    refine utf_l1_end (by omega) (by omega) (fun _ => ?_) (fun h => by omega)
    exact hgood (by simp only; omega)
  · apply Ev.neg c1
    by_cases c2 : bt s 0 ≥ 194
    · apply Ev.pos c2
      apply Ev.succ
      simp only [corollaryref01_utf.j1]
      by_cases c3 : bt s 0 < 224
      · apply Ev.pos (decide_eq_true c3)
        rw [w64 (n := bt s 0 - 192) (by omega) (by omega)]
        apply Ev.succ
        simp only [corollaryref01_utf.j3]
        by_cases c4 : (s.size : Int) < 2
        · have e : d = (65533, 1) := by rw [hd]; unfold Lib.decodeN; rw [if_neg (by omega), if_neg (by omega), if_neg (by omega), if_neg (by omega)]
          rw [hbad (by rw [e]; exact ⟨rfl, rfl⟩)]
          exact Ev.pos c4 (Ev.pure _)
        · apply Ev.neg c4
          refine utf_l1_more (by omega) (by omega) (by omega) hz (by omega) (fun g1 => ?_) (fun g1 => ?_)
          · have e : d = ((bt s 0).toNat % 32 * 64 + (bt s 1).toNat % 64, 2) := by rw [hd]; unfold Lib.decodeN; rw [if_neg (by omega), if_pos (by omega), if_pos (by omega)]
            subst e
            refine utf_l1_end (n := 2) (by omega) (by omega) (fun _ => ?_) (fun h => by omega)
            exact hgood (by simp only; omega)
          · have e : d = (65533, 1) := by rw [hd]; unfold Lib.decodeN; rw [if_neg (by omega), if_neg (by omega), if_neg (by omega), if_neg (by omega)]
            exact hbad (by rw [e]; exact ⟨rfl, rfl⟩)
      · apply Ev.neg (by simpa using c3)
        apply Ev.pos (by omega)
        apply Ev.succ
        simp only [corollaryref01_utf.j2]
        by_cases c4 : bt s 0 < 240
        · apply Ev.pos (decide_eq_true c4)
          rw [w64 (n := bt s 0 - 224) (by omega) (by omega)]
          apply Ev.succ
          simp only [corollaryref01_utf.j3]
          by_cases c5 : (s.size : Int) < 3
          · have e : d = (65533, 1) := by rw [hd]; unfold Lib.decodeN; rw [if_neg (by omega), if_neg (by omega), if_neg (by omega), if_neg (by omega)]
            rw [hbad (by rw [e]; exact ⟨rfl, rfl⟩)]
            exact Ev.pos c5 (Ev.pure _)
          · apply Ev.neg c5
            have bad : (bt s 1 / 64 ≠ 2 ∨ bt s 2 / 64 ≠ 2) → v = false := by
              intro g
              have e : d = (65533, 1) := by rw [hd]; unfold Lib.decodeN; rw [if_neg (by omega), if_neg (by omega), if_neg (by omega), if_neg (by omega)]
              exact hbad (by rw [e]; exact ⟨rfl, rfl⟩)
            refine utf_l1_more (by omega) (by omega) (by omega) hz (by omega) (fun g1 => ?_) (fun g1 => bad (.inl g1))
            refine utf_l1_more (i := 2) (by omega) (by omega) (by omega) hz (by omega) (fun g2 => ?_) (fun g2 => bad (.inr g2))
            have e : d = Lib.decodeN s.size (bt s 0).toNat (bt s 1).toNat (bt s 2).toNat (bt s 3).toNat := hd
            unfold Lib.decodeN at e
            rw [if_neg (by omega), if_neg (by omega), if_pos (by omega)] at e
            have ea : 64 * (64 * (bt s 0 - 224) + bt s 1 % 64) + bt s 2 % 64 = (((bt s 0).toNat % 16 * 4096 + (bt s 1).toNat % 64 * 64 + (bt s 2).toNat % 64 : Nat) : Int) := by omega
            show Ev (fun k => corollaryref01_utf.l1 k s (64 * (64 * (bt s 0 - 224) + bt s 1 % 64) + bt s 2 % 64) 3 2048 3) v
            rw [ea]
            revert e
            generalize (bt s 0).toNat % 16 * 4096 + (bt s 1).toNat % 64 * 64 + (bt s 2).toNat % 64 = q
            intro e
            refine utf_l1_end (n := 3) (by omega) (by omega) (fun h => ?_) (fun h => ?_)
            · rw [if_pos (by omega)] at e
              subst e
              exact hgood (by simp only; omega)
            · rw [if_neg (by omega)] at e
              exact hbad (by rw [e]; exact ⟨rfl, rfl⟩)
        · apply Ev.neg (by simpa using c4)
          apply Ev.pos (by omega)
          by_cases c5 : bt s 0 < 245
          · apply Ev.pos c5
            rw [w64 (n := bt s 0 - 240) (by omega) (by omega)]
            apply Ev.succ
            simp only [corollaryref01_utf.j3]
            by_cases c6 : (s.size : Int) < 4
            · have e : d = (65533, 1) := by rw [hd]; unfold Lib.decodeN; rw [if_neg (by omega), if_neg (by omega), if_neg (by omega), if_neg (by omega)]
              rw [hbad (by rw [e]; exact ⟨rfl, rfl⟩)]
              exact Ev.pos c6 (Ev.pure _)
            · apply Ev.neg c6
              have bad : (bt s 1 / 64 ≠ 2 ∨ bt s 2 / 64 ≠ 2 ∨ bt s 3 / 64 ≠ 2) → v = false := by
                intro g
                have e : d = (65533, 1) := by rw [hd]; unfold Lib.decodeN; rw [if_neg (by omega), if_neg (by omega), if_neg (by omega), if_neg (by omega)]
                exact hbad (by rw [e]; exact ⟨rfl, rfl⟩)
              refine utf_l1_more (by omega) (by omega) (by omega) hz (by omega) (fun g1 => ?_) (fun g1 => bad (.inl g1))
              refine utf_l1_more (i := 2) (by omega) (by omega) (by omega) hz (by omega) (fun g2 => ?_) (fun g2 => bad (.inr (.inl g2)))
              refine utf_l1_more (i := 3) (by omega) (by omega) (by omega) hz (by omega) (fun g3 => ?_) (fun g3 => bad (.inr (.inr g3)))
              have e : d = Lib.decodeN s.size (bt s 0).toNat (bt s 1).toNat (bt s 2).toNat (bt s 3).toNat := hd
              unfold Lib.decodeN at e
              rw [if_neg (by omega), if_neg (by omega), if_neg (by omega), if_pos (by omega)] at e
              have ea : 64 * (64 * (64 * (bt s 0 - 240) + bt s 1 % 64) + bt s 2 % 64) + bt s 3 % 64 = (((bt s 0).toNat % 8 * 262144 + (bt s 1).toNat % 64 * 4096 + (bt s 2).toNat % 64 * 64 + (bt s 3).toNat % 64 : Nat) : Int) := by omega
              show Ev (fun k => corollaryref01_utf.l1 k s (64 * (64 * (64 * (bt s 0 - 240) + bt s 1 % 64) + bt s 2 % 64) + bt s 3 % 64) 4 65536 4) v
              rw [ea]
              revert e
              generalize (bt s 0).toNat % 8 * 262144 + (bt s 1).toNat % 64 * 4096 + (bt s 2).toNat % 64 * 64 + (bt s 3).toNat % 64 = q
              intro e
              refine utf_l1_end (n := 4) (by omega) (by omega) (fun h => ?_) (fun h => ?_)
              · rw [if_pos (by omega)] at e
                subst e
                exact hgood (by simp only; omega)
              · rw [if_neg (by omega)] at e
                exact hbad (by rw [e]; exact ⟨rfl, rfl⟩)
          · have e : d = (65533, 1) := by
              rw [hd]; unfold Lib.decodeN; rw [if_neg (by omega), if_neg (by omega), if_neg (by omega)]
              split
              · rw [if_neg (by omega)]
              · rfl
            rw [hbad (by rw [e]; exact ⟨rfl, rfl⟩)]
            exact Ev.neg c5 (Ev.pure _)
    · have e : d = (65533, 1) := by
        rw [hd]; unfold Lib.decodeN; rw [if_neg (by omega)]
        split
        · rw [if_neg (by omega)]
        · rw [if_neg (by omega), if_neg (by omega)]
      rw [hbad (by rw [e]; exact ⟨rfl, rfl⟩)]
      apply Ev.neg c2
      apply Ev.succ
      simp only [corollaryref01_utf.j1]
      apply Ev.neg (by decide)
      apply Ev.neg (by omega)
      apply Ev.succ
      simp only [corollaryref01_utf.j2]
      apply Ev.neg (by decide)
      exact Ev.neg (by omega) (Ev.pure _)
theorem decodeN_pos (n b0 b1 b2 b3 : Nat) : 1 ≤ (Lib.decodeN n b0 b1 b2 b3).2 := by
  unfold Lib.decodeN
  repeat' split
  all_goals simp
theorem utf_go : ∀ (n : Nat) (s : ByteArray), s.size ≤ n → s.size ≤ 9223372036854775806 → Ev (fun k => corollaryref01_utf.l0 k s) (Lib.validGoD n s.data.toList)
  | 0, s, h, _ => by
    apply Ev.succ
    simp only [corollaryref01_utf.l0]
    exact Ev.neg (by omega) (Ev.pure _)
  | n + 1, s, h, hz => by
    simp only [Lib.validGoD]
    by_cases h0 : s.data.toList = []
    · rw [if_pos h0]
      have : s.size = 0 := by show s.data.size = 0; rw [← Array.length_toList, h0]; rfl
      apply Ev.succ
      simp only [corollaryref01_utf.l0]
      exact Ev.neg (by omega) (Ev.pure _)
    · rw [if_neg h0]
      have hpos : 0 < s.size := by
        show 0 < s.data.size
        rw [← Array.length_toList]
        exact List.length_pos_iff.mpr h0
      have ed : Lib.decodeL s.data.toList = Lib.decodeN s.size (bt s 0).toNat (bt s 1).toNat (bt s 2).toNat (bt s 3).toNat := by
        unfold Lib.decodeL
        have : (⟨s.data.toList.toArray⟩ : ByteArray) = s := by cases s; simp
        rw [this, Lib.decode_at, bt_get, bt_get, bt_get, bt_get]
        rfl
      rw [ed]
      refine utf_step s _ hpos hz _ rfl (fun hb => by rw [if_pos hb]) (fun hb => ?_)
      rw [if_neg hb]
      have p := decodeN_pos s.size (bt s 0).toNat (bt s 1).toNat (bt s 2).toNat (bt s 3).toNat
      revert p
      generalize (Lib.decodeN s.size (bt s 0).toNat (bt s 1).toNat (bt s 2).toNat (bt s 3).toNat).2 = w
      intro p
      have e1 : (s.extract w s.size).data.toList = s.data.toList.drop w := by
        rw [ByteArray.data_extract, Array.toList_extract]
        rw [List.extract_eq_take_drop]
        apply List.take_of_length_le
        rw [List.length_drop, Array.length_toList]
        exact Nat.le_refl _
      have e2 : (s.extract w s.size).size = s.size - w := by
        show (s.extract w s.size).data.size = s.data.size - w
        rw [← Array.length_toList, e1, List.length_drop, Array.length_toList]
      rw [← e1]
      exact utf_go n _ (by omega) (by omega)
theorem utf_ev (s : ByteArray) (hz : s.size ≤ 9223372036854775806) : Ev (fun k => corollaryref01_utf.f k s) (Lib.validD s.data.toList) := by
  have := utf_go s.size s (Nat.le_refl _) hz
  unfold Lib.validD
  rw [Array.length_toList]
  exact this
/-- A value is right for the document just when it is for the program. -/
theorem refRight_ev (v : S23) (hs : v.f2.size ≤ 9223372036854775807) : Ev (fun k => corollaryref01_Right.f k v.f0 v.f1 v.f2) (vR v) := by
  have hn : (v.f2.toList == ([] : List UInt8)) = decide ((v.f2.size : Int) ≤ 0) := by
    rw [str_nil, Bool.eq_iff_iff]
    simp only [decide_eq_true_eq]
    constructor
    · intro e; rw [e]; decide
    · intro e
      apply ByteArray.ext
      apply Array.eq_empty_of_size_eq_zero
      show v.f2.size = 0
      omega
  have j : ∀ b : Bool, (b = true → vR v = false) → (b = false → 0 ≤ v.f0 ∧ v.f0 ≤ 4 ∧ (v.f0 < 3 → (v.f2.size : Int) ≤ 0) ∧ (v.f0 ≠ 1 → v.f0 ≠ 2 → v.f1 = 0)) → Ev (fun k => corollaryref01_Right.j0 k b v.f0 v.f1 v.f2) (vR v) := by
    intro b h1 h2
    apply Ev.succ
    simp only [corollaryref01_Right.j0]
    cases b with
    | true => rw [h1 rfl]; exact Ev.pos rfl (Ev.pure _)
    | false =>
      obtain ⟨q1, q2, q3, q4⟩ := h2 rfl
      apply Ev.neg (by decide)
      by_cases k1 : v.f0 = 1
      · apply Ev.pos k1
        have e : vR v = (decide (v.f1 = 0) || decide (v.f1 = 1)) := by
          unfold vR
          rw [if_neg (by omega), if_pos k1, hn, decide_eq_true (q3 (by omega)), Bool.and_true]
        rw [e]
        by_cases k2 : v.f1 = 0
        · simp only [k2]; exact Ev.pos trivial (Ev.of (by simp))
        · apply Ev.neg k2
          exact Ev.of (by rw [decide_eq_false k2, Bool.false_or]; rfl)
      · apply Ev.neg k1
        have e : vR v = (decide ((v.f2.size : Int) ≤ 64) && (decide (v.f0 ≠ 3) || Lib.validD v.f2.data.toList)) := by
          unfold vR
          by_cases k0 : v.f0 = 0
          · rw [if_pos k0, hn, decide_eq_true (q4 k1 (by omega)), decide_eq_true (q3 (by omega)), decide_eq_true (show (v.f2.size : Int) ≤ 64 by have := q3 (by omega); omega), decide_eq_true (show v.f0 ≠ 3 by omega)]
            rfl
          · rw [if_neg k0, if_neg k1]
            by_cases k2 : v.f0 = 2
            · rw [if_pos k2, hn, decide_eq_true (q3 (by omega)), decide_eq_true (show (v.f2.size : Int) ≤ 64 by have := q3 (by omega); omega), decide_eq_true (show v.f0 ≠ 3 by omega)]
              rfl
            · rw [if_neg k2]
              by_cases k3 : v.f0 = 3
              · rw [if_pos k3, decide_eq_true (q4 k1 k2), decide_eq_false (show ¬ v.f0 ≠ 3 by omega), Bool.true_and, Bool.false_or]
              · rw [if_neg k3, if_pos (by omega), decide_eq_true (q4 k1 k2), decide_eq_true (show v.f0 ≠ 3 from k3), Bool.true_and, Bool.true_or, Bool.and_true]
        rw [e]
        by_cases k2 : (v.f2.size : Int) ≤ 64
        · rw [decide_eq_true k2, Bool.true_and]
          apply Ev.pos k2
          by_cases k3 : v.f0 = 3
          · rw [decide_eq_false (show ¬ v.f0 ≠ 3 by omega), Bool.false_or]
            exact Ev.pos k3 (Ev.bind (utf_ev v.f2 (by omega)) (Ev.pure _))
          · rw [decide_eq_true (show v.f0 ≠ 3 from k3), Bool.true_or]
            exact Ev.neg k3 (Ev.pure _)
        · rw [decide_eq_false k2, Bool.false_and]
          exact Ev.neg k2 (Ev.pure _)
  have bad : ∀ (h : v.f0 < 0 ∨ v.f0 > 4 ∨ (v.f0 < 3 ∧ (v.f2.size : Int) > 0) ∨ (v.f0 ≠ 1 ∧ v.f0 ≠ 2 ∧ v.f1 ≠ 0)), vR v = false := by
    intro h
    unfold vR
    rw [hn]
    by_cases k0 : v.f0 = 0
    · rw [if_pos k0]
      by_cases k1 : v.f1 = 0
      · rw [decide_eq_false (show ¬ (v.f2.size : Int) ≤ 0 by omega), Bool.and_false]
      · rw [decide_eq_false k1, Bool.false_and]
    · rw [if_neg k0]
      by_cases k1 : v.f0 = 1
      · rw [if_pos k1, decide_eq_false (show ¬ (v.f2.size : Int) ≤ 0 by omega), Bool.and_false]
      · rw [if_neg k1]
        by_cases k2 : v.f0 = 2
        · rw [if_pos k2, decide_eq_false (show ¬ (v.f2.size : Int) ≤ 0 by omega)]
        · rw [if_neg k2]
          by_cases k3 : v.f0 = 3
          · rw [if_pos k3, decide_eq_false (show ¬ v.f1 = 0 by omega)]
            rfl
          · rw [if_neg k3]
            by_cases k4 : v.f0 = 4
            · rw [if_pos k4, decide_eq_false (show ¬ v.f1 = 0 by omega)]
              rfl
            · rw [if_neg k4]
  unfold corollaryref01_Right.f
  by_cases c1 : v.f0 < 0
  · exact Ev.pos c1 (j true (fun _ => bad (.inl c1)) (fun h => by cases h))
  · apply Ev.neg c1
    by_cases c2 : v.f0 > 4
    · exact Ev.pos c2 (j true (fun _ => bad (.inr (.inl c2))) (fun h => by cases h))
    · apply Ev.neg c2
      have rest : (v.f0 < 3 → (v.f2.size : Int) ≤ 0) → Ev (fun k => if v.f0 = 1 then (corollaryref01_Right.j0 k false v.f0 v.f1 v.f2) else (if v.f0 = 2 then (corollaryref01_Right.j0 k false v.f0 v.f1 v.f2) else (corollaryref01_Right.j0 k (v.f1 != 0) v.f0 v.f1 v.f2))) (vR v) := by
        intro h3
        by_cases c5 : v.f0 = 1
        · exact Ev.pos c5 (j false (fun h => by cases h) (fun _ => ⟨by omega, by omega, h3, fun h => absurd c5 h⟩))
        · apply Ev.neg c5
          by_cases c6 : v.f0 = 2
          · exact Ev.pos c6 (j false (fun h => by cases h) (fun _ => ⟨by omega, by omega, h3, fun _ h => absurd c6 h⟩))
          · apply Ev.neg c6
            refine j _ (fun h => bad (.inr (.inr (.inr ⟨c5, c6, by simpa using h⟩)))) (fun h => ⟨by omega, by omega, h3, fun _ _ => by simpa using h⟩)
      by_cases c3 : v.f0 < 3
      · apply Ev.pos c3
        by_cases c4 : (v.f2.size : Int) > 0
        · exact Ev.pos c4 (j true (fun _ => bad (.inr (.inr (.inl ⟨c3, c4⟩)))) (fun h => by cases h))
        · exact Ev.neg c4 (rest (fun _ => by omega))
      · exact Ev.neg c3 (rest (fun h => absurd h c3))
theorem wfS {v : S23} (h : wf_T23 v) : v.f2.size ≤ 9223372036854775807 := h.2.2
end Go.Proofs.YtmdnnpahmoaicaaDoor.Pure
