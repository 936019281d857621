import Derived.Test.YtipcggfabjfobaaPx10
import Derived.Test.YtipcggfabjfobaaPx11
import Derived.Test.YtipcggfabjfobaaPx12
import Derived.Test.YtipcggfabjfobaaPx17
import Derived.Test.YtipcggfabjfobaaPx18
import Derived.Test.YtipcggfabjfobaaPx19
import Derived.Test.YtipcggfabjfobaaPx2
import Derived.Test.YtipcggfabjfobaaPx22
import Derived.Test.YtipcggfabjfobaaPx23
import Derived.Test.YtipcggfabjfobaaPx24
import Derived.Test.YtipcggfabjfobaaPx25
import Derived.Test.YtipcggfabjfobaaPx26
import Derived.Test.YtipcggfabjfobaaPx27
import Derived.Test.YtipcggfabjfobaaPx28
import Derived.Test.YtipcggfabjfobaaPx3
import Derived.Test.YtipcggfabjfobaaPx4
import Derived.Test.YtipcggfabjfobaaPx5
import Derived.Test.YtipcggfabjfobaaPx6
import Derived.Test.YtipcggfabjfobaaPx7
import Derived.Test.YtipcggfabjfobaaPx8
import Derived.Test.YtipcggfabjfobaaPx9
import Derived.Test.YtipcggfabjfobaaOpen
import Derived.OpenShut
import Derived.Laws.Bits64
namespace Go.Proofs.Ytipcggfabjfobaa.Pure
open Go.ChangeShapes Go.WideShapes Go.ChangeAt Go.RowKit Go.Proofs.YtipcggfabjfobaaW.PrintWords Go.Proofs.YtipcggfabjfobaaW.PrintLast Go.Proofs.Ytipcggfabjfobaa.P Go.Proofs.Ytipcggfabjfobaa.Open
/-! Wide numbers: what each printed function answers. -/
theorem b64 {a : Int} (h : (Lit.int .i64 a).wf = true) : -9223372036854775808 ≤ a ∧ a < 9223372036854775808 := by
  have := bounds_i64 h; omega
theorem bu64 {a : Int} (h : (Lit.int .u64 a).wf = true) : 0 ≤ a ∧ a < 18446744073709551616 := by
  have := bounds_u64 h; omega
/-- The bounds of a wide number's two halves. -/
def Wb (h l : Int) : Prop := -9223372036854775808 ≤ h ∧ h < 9223372036854775808 ∧ 0 ≤ l ∧ l < 18446744073709551616
/-- Its worth. -/
def Wv (h l : Int) : Int := h * 18446744073709551616 + l
theorem Wv_inj {h l h' l' : Int} (b : Wb h l) (b' : Wb h' l') (e : Wv h l = Wv h' l') : h = h' ∧ l = l' := by
  unfold Wb at b b'
  unfold Wv at e
  omega
theorem u64w (n : Int) : IntKind.u64.wrap n = n % 18446744073709551616 := by
  have := IntKind.wrap_u64 n
  first | exact this | (rw [this])
theorem add_in (h l h' l' : Int) (b : Wb h l) (b' : Wb h' l') (lo : -170141183460469231731687303715884105728 ≤ Wv h l + Wv h' l') (hi : Wv h l + Wv h' l' < 170141183460469231731687303715884105728) :
    ∃ x y, wide_Add.f h l h' l' = some (x, y, 0) ∧ Wb x y ∧ Wv x y = Wv h l + Wv h' l' := by
  unfold Wb at b b'
  unfold Wv at lo hi
  have e : bits_Add64.f l l' 0 = some ((l + l' + 0) % 18446744073709551616, (l + l' + 0) / 18446744073709551616) := by
    unfold bits_Add64.f
    rw [if_pos b.2.2.1, if_pos b'.2.2.1, if_pos (by omega), if_pos (by omega)]
  unfold wide_Add.f
  rw [e]
  simp only [Option.bind_some]
  have hc : wrap64 ((l + l' + 0) / 18446744073709551616) = (l + l' + 0) / 18446744073709551616 := by unfold wrap64; omega
  rw [hc]
  have ht : wrap64 (wrap64 (h + h') + (l + l' + 0) / 18446744073709551616) = h + h' + (l + l' + 0) / 18446744073709551616 := by unfold wrap64; omega
  rw [ht]
  refine ⟨h + h' + (l + l' + 0) / 18446744073709551616, (l + l' + 0) % 18446744073709551616, ?_, ?_, ?_⟩
  · by_cases s1 : h < 0
    · by_cases s2 : h' < 0
      · rw [decide_eq_true s1, decide_eq_true s2, if_pos (by rfl), decide_eq_true (by omega), if_neg (by decide)]
      · rw [decide_eq_true s1, decide_eq_false s2, if_neg (by decide)]
    · by_cases s2 : h' < 0
      · rw [decide_eq_false s1, decide_eq_true s2, if_neg (by decide)]
      · rw [decide_eq_false s1, decide_eq_false s2, if_pos (by rfl), decide_eq_false (by omega), if_neg (by decide)]
  · unfold Wb; omega
  · unfold Wv; omega
theorem add_out (h l h' l' : Int) (b : Wb h l) (b' : Wb h' l') (o : ¬ (-170141183460469231731687303715884105728 ≤ Wv h l + Wv h' l' ∧ Wv h l + Wv h' l' < 170141183460469231731687303715884105728)) :
    wide_Add.f h l h' l' = some (0, 0, 14) := by
  unfold Wb at b b'
  unfold Wv at o
  have e : bits_Add64.f l l' 0 = some ((l + l' + 0) % 18446744073709551616, (l + l' + 0) / 18446744073709551616) := by
    unfold bits_Add64.f
    rw [if_pos b.2.2.1, if_pos b'.2.2.1, if_pos (by omega), if_pos (by omega)]
  unfold wide_Add.f
  rw [e]
  simp only [Option.bind_some]
  have hc : wrap64 ((l + l' + 0) / 18446744073709551616) = (l + l' + 0) / 18446744073709551616 := by unfold wrap64; omega
  rw [hc]
  by_cases s1 : h < 0
  · by_cases s2 : h' < 0
    · have ht : wrap64 (wrap64 (h + h') + (l + l' + 0) / 18446744073709551616) = h + h' + (l + l' + 0) / 18446744073709551616 + 18446744073709551616 := by unfold wrap64; omega
      rw [ht, decide_eq_true s1, decide_eq_true s2, if_pos (by rfl), decide_eq_false (by omega), if_pos (by decide)]
    · exfalso; omega
  · by_cases s2 : h' < 0
    · exfalso; omega
    · have ht : wrap64 (wrap64 (h + h') + (l + l' + 0) / 18446744073709551616) = h + h' + (l + l' + 0) / 18446744073709551616 - 18446744073709551616 := by unfold wrap64; omega
      rw [ht, decide_eq_false s1, decide_eq_false s2, if_pos (by rfl), decide_eq_true (by omega), if_pos (by decide)]
theorem neg_in (h l : Int) (b : Wb h l) (o : Wv h l ≠ -170141183460469231731687303715884105728) :
    ∃ x y, wide_Neg.f h l = some (x, y, 0) ∧ Wb x y ∧ Wv x y = - Wv h l := by
  unfold Wb at b
  unfold Wv at o
  have e : bits_Sub64.f 0 l 0 = some ((0 - l - 0) % 18446744073709551616, if (0 : Int) < l + 0 then 1 else 0) := by
    unfold bits_Sub64.f
    rw [if_pos (by omega), if_pos b.2.2.1, if_pos (by omega), if_pos (by omega), if_pos (by omega)]
  unfold wide_Neg.f
  rw [e]
  simp only [Option.bind_some]
  by_cases hl : (0 : Int) < l + 0
  · rw [if_pos hl]
    have ht : wrap64 (wrap64 (-h) - wrap64 1) = -h - 1 := by unfold wrap64; omega
    rw [ht]
    refine ⟨-h - 1, (0 - l - 0) % 18446744073709551616, ?_, ?_, ?_⟩
    · by_cases s1 : h < 0
      · rw [if_pos s1, if_neg (by omega)]
      · rw [if_neg s1]
    · unfold Wb; omega
    · unfold Wv; omega
  · rw [if_neg hl]
    have ht : wrap64 (wrap64 (-h) - wrap64 0) = -h := by unfold wrap64; omega
    rw [ht]
    refine ⟨-h, (0 - l - 0) % 18446744073709551616, ?_, ?_, ?_⟩
    · by_cases s1 : h < 0
      · rw [if_pos s1, if_neg (by omega)]
      · rw [if_neg s1]
    · unfold Wb; omega
    · unfold Wv; omega
theorem neg_out (h l : Int) (b : Wb h l) (o : Wv h l = -170141183460469231731687303715884105728) : wide_Neg.f h l = some (0, 0, 14) := by
  unfold Wb at b
  unfold Wv at o
  obtain ⟨rfl, rfl⟩ : h = -9223372036854775808 ∧ l = 0 := by omega
  decide +kernel
theorem of_eq (a : Int) (b : -9223372036854775808 ≤ a ∧ a < 9223372036854775808) : ∃ x y, wide_Of.f a = some (x, y) ∧ Wb x y ∧ Wv x y = a := by
  refine ⟨_, _, rfl, ?_, ?_⟩
  · rw [u64w]; unfold Wb; omega
  · rw [u64w]; unfold Wv; omega
theorem cmpI (a b : Int) : cmp_Compare_int.f a b = some (if a < b then -1 else if a > b then 1 else 0) := by
  unfold cmp_Compare_int.f cmp_isNaN_int.f
  simp only [Option.bind_some, bne_self_eq_false, Bool.false_eq_true, if_false]
  by_cases h : a < b
  · rw [if_pos h, if_pos h]
  · rw [if_neg h, if_neg h]
    by_cases h2 : a > b
    · rw [if_pos h2, if_pos h2]
    · rw [if_neg h2, if_neg h2]
theorem cmpU (a b : Int) : cmp_Compare_uint64.f a b = some (if a < b then -1 else if a > b then 1 else 0) := by
  unfold cmp_Compare_uint64.f cmp_isNaN_uint64.f
  simp only [Option.bind_some, bne_self_eq_false, Bool.false_eq_true, if_false]
  by_cases h : a < b
  · rw [if_pos h, if_pos h]
  · rw [if_neg h, if_neg h]
    by_cases h2 : a > b
    · rw [if_pos h2, if_pos h2]
    · rw [if_neg h2, if_neg h2]
theorem or2 (k : Nat) (a b : Int) : cmp_Or_int.f (k + 3) [a, b] = some (if a = 0 then b else a) := by
  have e1 : wrap64 (0 + 1) = 1 := by (unfold wrap64; omega)
  have e2 : wrap64 (1 + 1) = 2 := by (unfold wrap64; omega)
  have r0 : rd [a, b] 0 = a := rfl
  have r1 : rd [a, b] 1 = b := rfl
  have hl : (([a, b] : List Int).length : Int) = 2 := rfl
  unfold cmp_Or_int.f
  rw [hl]
  simp only [cmp_Or_int.l0]
  rw [hl, e1, e2, r0, r1, if_pos (by omega), if_pos (by omega), if_pos (by omega)]
  by_cases ha : a = 0
  · rw [if_pos ha, if_pos ha, if_pos (by omega), if_pos (by omega), if_pos (by omega)]
    by_cases hb : b = 0
    · rw [if_pos hb, if_neg (by omega), hb]
    · rw [if_neg hb]
  · rw [if_neg ha, if_neg ha]
theorem cmpW (k : Nat) (a b c d : Int) (h : Wb a b) (h' : Wb c d) : wide_Compare.f (k + 3) a b c d = some (if Wv a b < Wv c d then -1 else if Wv a b > Wv c d then 1 else 0) := by
  unfold wide_Compare.f
  rw [cmpI, cmpU]
  simp only [Option.bind_some]
  rw [or2]
  simp only [Option.bind_some]
  unfold Wb at h h'
  unfold Wv
  congr 1
  by_cases h1 : a < c
  · rw [if_pos h1, if_neg (by omega), if_pos (by omega)]
  · rw [if_neg h1]
    by_cases h2 : a > c
    · rw [if_pos h2, if_neg (by omega), if_neg (by omega), if_pos (by omega)]
    · rw [if_neg h2, if_pos rfl]
      by_cases h3 : b < d
      · rw [if_pos h3, if_pos (by omega)]
      · rw [if_neg h3]
        by_cases h4 : b > d
        · rw [if_pos h4, if_neg (by omega), if_pos (by omega)]
        · rw [if_neg h4, if_neg (by omega), if_neg (by omega)]
theorem awake3 : corollarylaw02_awake.f 3 = some true := by decide +kernel
theorem awakek (k : Nat) : corollarylaw02_awake.f (k + 3) = some true := by
  induction k with
  | zero => exact awake3
  | succ k ih => exact corollarylaw02_awake.mono (k + 3) true ih

/-! The sum of numbers. -/
theorem rd_get (l : List Int) (i : Nat) (h : i < l.length) : rd l (i : Int) = l[i] := by
  unfold rd
  rw [Int.toNat_natCast, List.getD_eq_getElem?_getD, List.getElem?_eq_getElem h]
  rfl
theorem drop_sum (l : List Int) (i : Nat) (h : i < l.length) : (l.drop i).sum = l[i] + (l.drop (i + 1)).sum := by
  rw [List.drop_eq_getElem_cons h, List.sum_cons]
theorem sum_loop (l : List Int) (hl : l.length ≤ 200) (hw : ∀ a ∈ l, (Lit.int .i64 a).wf = true) (d : Nat) : ∀ (k i : Nat) (h lo : Int), i + d = l.length → d < k → Wb h lo →
    -(9223372036854775808 * (i : Int)) ≤ Wv h lo → Wv h lo ≤ 9223372036854775808 * (i : Int) →
    ∃ x y, wide_Sum.l0 k l (l.length : Int) (i : Int) h lo = some (x, y, 0) ∧ Wb x y ∧ Wv x y = Wv h lo + (l.drop i).sum := by
  induction d with
  | zero =>
    intro k i h lo hi hk hb _ _
    obtain ⟨k, rfl⟩ : ∃ m, k = m + 1 := ⟨k - 1, by omega⟩
    refine ⟨h, lo, ?_, hb, ?_⟩
    · simp only [wide_Sum.l0]; rw [if_neg (by omega)]
    · rw [List.drop_eq_nil_of_le (by omega)]; simp
  | succ d ih =>
    intro k i h lo hi hk hb h1 h2
    obtain ⟨k, rfl⟩ : ∃ m, k = m + 1 := ⟨k - 1, by omega⟩
    have hil : i < l.length := by omega
    have hm := b64 (hw l[i] (List.getElem_mem hil))
    obtain ⟨u, v, e1, b1, w1⟩ := of_eq l[i] hm
    obtain ⟨p, q, e2, b2, w2⟩ := add_in h lo u v hb b1 (by omega) (by omega)
    obtain ⟨x, y, e3, b3, w3⟩ := ih k (i + 1) p q (by omega) (by omega) b2 (by omega) (by omega)
    refine ⟨x, y, ?_, b3, ?_⟩
    · simp only [wide_Sum.l0]
      rw [if_pos (by omega), if_pos (by omega), if_pos (by omega), rd_get l i hil, e1]
      simp only [Option.bind_some]
      rw [e2]
      simp only [Option.bind_some, if_true]
      rw [show wrap64 ((i : Int) + 1) = ((i + 1 : Nat) : Int) by unfold wrap64; omega]
      exact e3
    · rw [w3, w2, w1, drop_sum l i hil]; omega
theorem sum_eq (l : List Int) (hl : l.length ≤ 200) (hw : ∀ a ∈ l, (Lit.int .i64 a).wf = true) (k : Nat) (hk : l.length < k) :
    ∃ x y, wide_Sum.f k l = some (x, y, 0) ∧ Wb x y ∧ Wv x y = l.sum := by
  obtain ⟨x, y, e, b, w⟩ := sum_loop l hl hw l.length k 0 0 0 (by omega) hk (by unfold Wb; omega) (by unfold Wv; omega) (by unfold Wv; omega)
  refine ⟨x, y, e, b, ?_⟩
  rw [w, List.drop_zero]
  unfold Wv
  omega
/-! The document's answer, by digits to the base 2^32. -/
theorem low_eq (n : Int) (h : -9223372036854775808 ≤ n ∧ n < 9223372036854775808) : corollaryref02_low.f n = some (n % 4294967296) := by
  unfold corollaryref02_low.f
  have e : Int.tmod n 4294967296 = n % 4294967296 ∨ (Int.tmod n 4294967296 = n % 4294967296 - 4294967296 ∧ n % 4294967296 ≠ 0) := by
    rcases Int.lt_or_le n 0 with h0 | h0
    · by_cases hd : n % 4294967296 = 0
      · left
        have : (4294967296 : Int) ∣ n := Int.dvd_of_emod_eq_zero hd
        rw [hd]; exact Int.tmod_eq_zero_of_dvd this
      · right
        refine ⟨?_, hd⟩
        have := Int.tmod_eq_emod (a := n) (b := 4294967296)
        have hn : ¬ (0 ≤ n ∨ (4294967296 : Int) ∣ n) := by
          intro h1
          rcases h1 with h1 | h1
          · omega
          · exact hd (Int.emod_eq_zero_of_dvd h1)
        rw [this, if_neg hn]
        omega
    · left; exact Int.tmod_eq_emod_of_nonneg h0
  rcases e with e | ⟨e, hd⟩
  · rw [e, if_neg (by omega)]
  · rw [e, if_pos (by omega)]
    congr 1
    unfold wrap64; omega
theorem high_eq (n : Int) (h : -9223372036854775808 ≤ n ∧ n < 9223372036854775808) : corollaryref02_high.f n = some (n / 4294967296) := by
  unfold corollaryref02_high.f
  rw [low_eq n h]
  simp only [Option.bind_some]
  have e : wrap64 (n - n % 4294967296) = 4294967296 * (n / 4294967296) := by unfold wrap64; omega
  rw [e, Int.mul_tdiv_cancel_left _ (by decide)]
  congr 1
  unfold wrap64; omega
theorem four_eq (h l : Int) (b : Wb h l) : corollaryref02_Four.f h l = some (l % 4294967296, l / 4294967296, h % 4294967296, h / 4294967296) := by
  unfold Wb at b
  unfold corollaryref02_Four.f
  rw [low_eq h (by omega), high_eq h (by omega)]
  simp only [Option.bind_some]
  rw [Int.tmod_eq_emod_of_nonneg b.2.2.1, Int.tdiv_eq_ediv_of_nonneg b.2.2.1, u64w]
  congr 2
  · unfold wrap64; omega
  · congr 1; unfold wrap64; omega
/-- The worth of four digits. -/
def Dv (a b c d : Int) : Int := a + b * 4294967296 + c * 18446744073709551616 + d * 79228162514264337593543950336
def Db (a b c d : Int) : Prop := -17179869184 ≤ a ∧ a ≤ 17179869184 ∧ -17179869184 ≤ b ∧ b ≤ 17179869184 ∧ -17179869184 ≤ c ∧ c ≤ 17179869184 ∧ -17179869184 ≤ d ∧ d ≤ 17179869184
theorem back_eq (k : Nat) (a b c d : Int) (h : Db a b c d) :
    ∃ x y, corollaryref02_Back.f (k + 4) a b c d = some (if -170141183460469231731687303715884105728 ≤ Dv a b c d ∧ Dv a b c d < 170141183460469231731687303715884105728 then (x, y, true) else (0, 0, false)) ∧
      (-170141183460469231731687303715884105728 ≤ Dv a b c d → Dv a b c d < 170141183460469231731687303715884105728 → Wb x y ∧ Wv x y = Dv a b c d) := by
  unfold Db at h
  unfold corollaryref02_Back.f
  rw [corollaryref02_Back.l0, if_pos (by omega), if_pos rfl, high_eq a (by omega), low_eq a (by omega)]
  simp only [Option.bind_some]
  rw [corollaryref02_Back.l0, if_pos (by omega), if_neg (by omega), if_pos rfl]
  rw [show wrap64 (b + a / 4294967296) = b + a / 4294967296 by unfold wrap64; omega]
  rw [high_eq _ (by omega), low_eq _ (by omega)]
  simp only [Option.bind_some]
  rw [corollaryref02_Back.l0, if_pos (by omega), if_neg (by omega), if_neg (by omega), if_pos rfl]
  rw [show wrap64 (c + (b + a / 4294967296) / 4294967296) = c + (b + a / 4294967296) / 4294967296 by unfold wrap64; omega]
  rw [high_eq _ (by omega), low_eq _ (by omega)]
  simp only [Option.bind_some]
  rw [corollaryref02_Back.l0, if_neg (by omega)]
  rw [show wrap64 (d + (c + (b + a / 4294967296) / 4294967296) / 4294967296) = d + (c + (b + a / 4294967296) / 4294967296) / 4294967296 by unfold wrap64; omega]
  unfold Dv
  generalize e3 : d + (c + (b + a / 4294967296) / 4294967296) / 4294967296 = D
  generalize e2 : (c + (b + a / 4294967296) / 4294967296) % 4294967296 = C
  generalize e1 : (b + a / 4294967296) % 4294967296 = B
  generalize e0 : a % 4294967296 = A
  have hv : a + b * 4294967296 + c * 18446744073709551616 + d * 79228162514264337593543950336 = A + B * 4294967296 + C * 18446744073709551616 + D * 79228162514264337593543950336 := by omega
  have hA : 0 ≤ A ∧ A < 4294967296 := by omega
  have hB : 0 ≤ B ∧ B < 4294967296 := by omega
  have hC : 0 ≤ C ∧ C < 4294967296 := by omega
  have hD : -34359738368 ≤ D ∧ D ≤ 34359738368 := by omega
  rw [hv]
  clear hv e3 e2 e1 e0 h
  refine ⟨wrap64 (wrap64 (D * 4294967296) + C), IntKind.u64.wrap (IntKind.u64.wrap (IntKind.u64.wrap B * 4294967296) + IntKind.u64.wrap A), ?_, ?_⟩
  · by_cases d1 : D < -2147483648
    · rw [if_pos d1, if_neg (by omega)]
    · rw [if_neg d1]
      by_cases d2 : D > 2147483647
      · rw [if_pos d2, if_neg (by omega)]
      · rw [if_neg d2, if_pos (by omega)]
  · intro h1 h2
    rw [u64w, u64w, u64w, u64w]
    have hD2 : -2147483648 ≤ D ∧ D ≤ 2147483647 := by omega
    rw [show wrap64 (D * 4294967296) = D * 4294967296 by unfold wrap64; omega]
    rw [show wrap64 (D * 4294967296 + C) = D * 4294967296 + C by unfold wrap64; omega]
    rw [show B % 18446744073709551616 = B by omega, show A % 18446744073709551616 = A by omega, show B * 4294967296 % 18446744073709551616 = B * 4294967296 by omega, show (B * 4294967296 + A) % 18446744073709551616 = B * 4294967296 + A by omega]
    unfold Wb Wv
    omega
theorem dv_four (h l : Int) : Dv (l % 4294967296) (l / 4294967296) (h % 4294967296) (h / 4294967296) = Wv h l := by unfold Dv Wv; omega
theorem rneg_eq (k : Nat) (h l : Int) (b : Wb h l) :
    ∃ x y, corollaryref02_Neg.f (k + 9) h l = some (if Wv h l = -170141183460469231731687303715884105728 then (0, 0, false) else (x, y, true)) ∧ (Wv h l ≠ -170141183460469231731687303715884105728 → Wb x y ∧ Wv x y = - Wv h l) := by
  unfold corollaryref02_Neg.f
  rw [four_eq h l b]
  simp only [Option.bind_some]
  have dv := dv_four h l
  unfold Wb at b
  generalize e3 : h / 4294967296 = D at *
  generalize e2 : h % 4294967296 = C at *
  generalize e1 : l / 4294967296 = B at *
  generalize e0 : l % 4294967296 = A at *
  have hA : 0 ≤ A ∧ A < 4294967296 := by omega
  have hB : 0 ≤ B ∧ B < 4294967296 := by omega
  have hC : 0 ≤ C ∧ C < 4294967296 := by omega
  have hD : -2147483648 ≤ D ∧ D < 2147483648 := by omega
  rw [corollaryref02_Neg.l0, if_pos (by omega), if_pos rfl, corollaryref02_Neg.l0, if_pos (by omega), if_neg (by omega), if_pos rfl, corollaryref02_Neg.l0, if_pos (by omega), if_neg (by omega), if_neg (by omega), if_pos rfl, corollaryref02_Neg.l0, if_pos (by omega), if_neg (by omega), if_neg (by omega), if_neg (by omega), if_pos rfl, corollaryref02_Neg.l0, if_neg (by omega)]
  rw [show wrap64 (-A) = -A by unfold wrap64; omega, show wrap64 (-B) = -B by unfold wrap64; omega, show wrap64 (-C) = -C by unfold wrap64; omega, show wrap64 (-D) = -D by unfold wrap64; omega]
  obtain ⟨x, y, e, hw⟩ := back_eq k (-A) (-B) (-C) (-D) (by unfold Db; omega)
  rw [e]
  simp only [Option.bind_some]
  have hs : Dv (-A) (-B) (-C) (-D) = - Wv h l := by rw [← dv]; unfold Dv; omega
  rw [hs] at hw ⊢
  have hr : -170141183460469231731687303715884105728 ≤ Wv h l ∧ Wv h l < 170141183460469231731687303715884105728 := by unfold Wv; omega
  refine ⟨x, y, ?_, fun hne => hw (by omega) (by omega)⟩
  by_cases hq : Wv h l = -170141183460469231731687303715884105728
  · rw [if_pos hq, if_neg (by omega)]
  · rw [if_neg hq, if_pos (by omega)]
theorem radd_eq (k : Nat) (h l h' l' : Int) (b : Wb h l) (b' : Wb h' l') :
    ∃ x y, corollaryref02_Add.f (k + 9) h l h' l' = some (if -170141183460469231731687303715884105728 ≤ Wv h l + Wv h' l' ∧ Wv h l + Wv h' l' < 170141183460469231731687303715884105728 then (x, y, true) else (0, 0, false)) ∧
      (-170141183460469231731687303715884105728 ≤ Wv h l + Wv h' l' → Wv h l + Wv h' l' < 170141183460469231731687303715884105728 → Wb x y ∧ Wv x y = Wv h l + Wv h' l') := by
  unfold corollaryref02_Add.f
  rw [four_eq h l b, four_eq h' l' b']
  simp only [Option.bind_some]
  have dv := dv_four h l
  have dv' := dv_four h' l'
  unfold Wb at b b'
  generalize e3 : h / 4294967296 = D at *
  generalize e2 : h % 4294967296 = C at *
  generalize e1 : l / 4294967296 = B at *
  generalize e0 : l % 4294967296 = A at *
  generalize f3 : h' / 4294967296 = D' at *
  generalize f2 : h' % 4294967296 = C' at *
  generalize f1 : l' / 4294967296 = B' at *
  generalize f0 : l' % 4294967296 = A' at *
  have hA : 0 ≤ A ∧ A < 4294967296 := by omega
  have hB : 0 ≤ B ∧ B < 4294967296 := by omega
  have hC : 0 ≤ C ∧ C < 4294967296 := by omega
  have hD : -2147483648 ≤ D ∧ D < 2147483648 := by omega
  have gA : 0 ≤ A' ∧ A' < 4294967296 := by omega
  have gB : 0 ≤ B' ∧ B' < 4294967296 := by omega
  have gC : 0 ≤ C' ∧ C' < 4294967296 := by omega
  have gD : -2147483648 ≤ D' ∧ D' < 2147483648 := by omega
  rw [corollaryref02_Add.l0, if_pos (by omega), if_pos rfl, corollaryref02_Add.l0, if_pos (by omega), if_neg (by omega), if_pos rfl, corollaryref02_Add.l0, if_pos (by omega), if_neg (by omega), if_neg (by omega), if_pos rfl, corollaryref02_Add.l0, if_pos (by omega), if_neg (by omega), if_neg (by omega), if_neg (by omega), if_pos rfl, corollaryref02_Add.l0, if_neg (by omega)]
  rw [show wrap64 (A + A') = A + A' by unfold wrap64; omega, show wrap64 (B + B') = B + B' by unfold wrap64; omega, show wrap64 (C + C') = C + C' by unfold wrap64; omega, show wrap64 (D + D') = D + D' by unfold wrap64; omega]
  obtain ⟨x, y, e, hw⟩ := back_eq k (A + A') (B + B') (C + C') (D + D') (by unfold Db; omega)
  rw [e]
  simp only [Option.bind_some]
  have hs : Dv (A + A') (B + B') (C + C') (D + D') = Wv h l + Wv h' l' := by rw [← dv, ← dv']; unfold Dv; omega
  rw [hs] at hw ⊢
  exact ⟨x, y, by split <;> rfl, hw⟩
theorem rof_eq (k : Nat) (a : Int) (b : -9223372036854775808 ≤ a ∧ a < 9223372036854775808) : ∃ x y, corollaryref02_Of.f (k + 4) a = some (x, y) ∧ Wb x y ∧ Wv x y = a := by
  unfold corollaryref02_Of.f
  rw [low_eq a b, high_eq a b]
  simp only [Option.bind_some]
  rw [low_eq _ (by omega), high_eq _ (by omega)]
  simp only [Option.bind_some]
  obtain ⟨x, y, e, hw⟩ := back_eq k (a % 4294967296) (a / 4294967296 % 4294967296) (a / 4294967296 / 4294967296) 0 (by unfold Db; omega)
  have hs : Dv (a % 4294967296) (a / 4294967296 % 4294967296) (a / 4294967296 / 4294967296) 0 = a := by unfold Dv; omega
  rw [hs] at hw e
  rw [if_pos (by omega)] at e
  rw [e]
  exact ⟨x, y, rfl, hw (by omega) (by omega)⟩
theorem rless_eq (k : Nat) (h l h' l' : Int) (b : Wb h l) (b' : Wb h' l') : corollaryref02_Less.f (k + 5) h l h' l' = some (decide (Wv h l < Wv h' l')) := by
  unfold corollaryref02_Less.f
  rw [four_eq h l b, four_eq h' l' b']
  simp only [Option.bind_some]
  have dv := dv_four h l
  have dv' := dv_four h' l'
  unfold Wb at b b'
  rw [← dv, ← dv']
  clear dv dv'
  generalize e3 : h / 4294967296 = D at *
  generalize e2 : h % 4294967296 = C at *
  generalize e1 : l / 4294967296 = B at *
  generalize e0 : l % 4294967296 = A at *
  generalize f3 : h' / 4294967296 = D' at *
  generalize f2 : h' % 4294967296 = C' at *
  generalize f1 : l' / 4294967296 = B' at *
  generalize f0 : l' % 4294967296 = A' at *
  have hA : 0 ≤ A ∧ A < 4294967296 := by omega
  have hB : 0 ≤ B ∧ B < 4294967296 := by omega
  have hC : 0 ≤ C ∧ C < 4294967296 := by omega
  have gA : 0 ≤ A' ∧ A' < 4294967296 := by omega
  have gB : 0 ≤ B' ∧ B' < 4294967296 := by omega
  have gC : 0 ≤ C' ∧ C' < 4294967296 := by omega
  unfold Dv
  rw [corollaryref02_Less.l0, if_pos (by omega), if_neg (by omega), if_neg (by omega), if_neg (by omega), if_pos rfl]
  by_cases q3 : D = D'
  · rw [if_pos q3, corollaryref02_Less.l0, if_pos (by omega), if_neg (by omega), if_neg (by omega), if_pos rfl]
    by_cases q2 : C = C'
    · rw [if_pos q2, corollaryref02_Less.l0, if_pos (by omega), if_neg (by omega), if_pos rfl]
      by_cases q1 : B = B'
      · rw [if_pos q1, corollaryref02_Less.l0, if_pos (by omega), if_pos rfl]
        by_cases q0 : A = A'
        · rw [if_pos q0, corollaryref02_Less.l0, if_neg (by omega), decide_eq_false (by omega)]
        · rw [if_neg q0]; congr 1; exact decide_eq_decide.2 (by omega)
      · rw [if_neg q1]; congr 1; exact decide_eq_decide.2 (by omega)
    · rw [if_neg q2]; congr 1; exact decide_eq_decide.2 (by omega)
  · rw [if_neg q3]; congr 1; exact decide_eq_decide.2 (by omega)
end Go.Proofs.Ytipcggfabjfobaa.Pure
