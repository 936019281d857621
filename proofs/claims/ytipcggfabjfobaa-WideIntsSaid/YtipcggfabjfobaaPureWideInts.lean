/- the plain law -/
import Derived.Test.YtipcggfabjfobaaPureBase
import Derived.Test.YtipcggfabjfobaaStatWideInts
import Derived.Test.YtipcggfabjfobaaPx14
import Derived.Test.YtipcggfabjfobaaPx15
import Derived.Test.YtipcggfabjfobaaPx16
namespace Go.Proofs.Ytipcggfabjfobaa.Pure
open Go.ChangeShapes Go.WideShapes Go.ChangeAt Go.RowKit Go.Proofs.YtipcggfabjfobaaW.PrintWords Go.Proofs.YtipcggfabjfobaaW.PrintLast Go.Proofs.Ytipcggfabjfobaa.P Go.Proofs.Ytipcggfabjfobaa.Open
theorem Wv_hl {h l : Int} (b : Wb h l) : h = Wv h l / 18446744073709551616 ∧ l = Wv h l % 18446744073709551616 := by
  unfold Wb at b
  unfold Wv
  omega
theorem int_eq (h l : Int) (b : Wb h l) : wide_Int.f h l = some (if -9223372036854775808 ≤ Wv h l ∧ Wv h l < 9223372036854775808 then (Wv h l, 0) else (0, 14)) := by
  unfold Wb at b
  unfold wide_Int.f Wv
  by_cases hc : -9223372036854775808 ≤ h * 18446744073709551616 + l ∧ h * 18446744073709551616 + l < 9223372036854775808
  · rw [if_pos hc]
    have e : wrap64 l = h * 18446744073709551616 + l := by unfold wrap64; omega
    rw [e, if_pos (by omega)]
  · rw [if_neg hc, if_neg (by unfold wrap64; omega)]
theorem rint_eq (k : Nat) (h l : Int) (b : Wb h l) : corollaryref02_Int.f (k + 1) h l = some (if -9223372036854775808 ≤ Wv h l ∧ Wv h l < 9223372036854775808 then (Wv h l, true) else (0, false)) := by
  unfold corollaryref02_Int.f
  rw [four_eq h l b]
  simp only [Option.bind_some]
  have dv := dv_four h l
  unfold Wb at b
  rw [← dv]
  clear dv
  generalize e3 : h / 4294967296 = D at *
  generalize e2 : h % 4294967296 = C at *
  generalize e1 : l / 4294967296 = B at *
  generalize e0 : l % 4294967296 = A at *
  have hA : 0 ≤ A ∧ A < 4294967296 := by omega
  have hB : 0 ≤ B ∧ B < 4294967296 := by omega
  have hC : 0 ≤ C ∧ C < 4294967296 := by omega
  have hD : -2147483648 ≤ D ∧ D < 2147483648 := by omega
  clear e0 e1 e2 e3 b
  unfold Dv
  have neg : ∀ t : Bool, t = false → corollaryref02_Int.j0 (k + 1) t A B C D = some (if D = -1 ∧ C = 4294967295 ∧ B ≥ 2147483648 then (A + B * 4294967296 + C * 18446744073709551616 + D * 79228162514264337593543950336, true) else (0, false)) := by
    intro t ht
    rw [ht, corollaryref02_Int.j0, if_neg (by decide)]
    by_cases q1 : D = -1
    · rw [if_pos q1]
      by_cases q2 : C = 4294967295
      · rw [if_pos q2]
        by_cases q3 : B ≥ 2147483648
        · rw [if_pos q3, if_pos ⟨q1, q2, q3⟩]
          congr 2
          unfold wrap64; omega
        · rw [if_neg q3, if_neg (fun z => q3 z.2.2)]
      · rw [if_neg q2, if_neg (fun z => q2 z.2.1)]
    · rw [if_neg q1, if_neg (fun z => q1 z.1)]
  by_cases p1 : D = 0
  · rw [if_pos p1]
    by_cases p2 : C = 0
    · rw [if_pos p2]
      by_cases p3 : B < 2147483648
      · rw [decide_eq_true p3, corollaryref02_Int.j0, if_pos (by simp), if_pos (by omega)]
        congr 2
        unfold wrap64; omega
      · rw [neg _ (decide_eq_false p3), if_neg (by omega), if_neg (by omega)]
    · rw [if_neg p2, neg false rfl, if_neg (by omega), if_neg (by omega)]
  · rw [if_neg p1, neg false rfl]
    by_cases q : D = -1 ∧ C = 4294967295 ∧ B ≥ 2147483648
    · rw [if_pos q, if_pos (by omega)]
    · rw [if_neg q, if_neg (by omega)]
theorem ints_tail (k : Nat) (n : Int) (hn : -9223372036854775808 ≤ n ∧ n < 9223372036854775808) : corollarylaw02_WideInts.j0 (k + 4) n false = some true := by
  obtain ⟨u, v, e1, b1, w1⟩ := of_eq n hn
  rw [corollarylaw02_WideInts.j0, if_neg (by decide), e1]
  simp only [Option.bind_some]
  rw [int_eq u v b1, w1, if_pos hn]
  simp only [Option.bind_some]
  rw [if_pos (by simp), if_pos (by simp), awakek]
  rfl
theorem WideInts_pure : Stat.WideInts := by
  intro n h l hn hw
  have hn := b64 hn
  have b : Wb h l := by
    have h1 := b64 hw.1
    have h2 := bu64 hw.2
    unfold Wb
    simp only at h1 h2
    omega
  refine ⟨0 + 4, ?_⟩
  obtain ⟨u, v, e1, b1, w1⟩ := of_eq n hn
  obtain ⟨p, q, e2, b2, w2⟩ := rof_eq 0 n hn
  obtain ⟨rfl, rfl⟩ := Wv_inj b1 b2 (by rw [w1, w2])
  unfold corollarylaw02_WideInts.f
  rw [int_eq h l b, rint_eq 3 h l b, e1, e2]
  simp only [Option.bind_some]
  rw [if_neg (by simp)]
  by_cases hc : -9223372036854775808 ≤ Wv h l ∧ Wv h l < 9223372036854775808
  · rw [if_pos hc, if_pos hc]
    simp
    exact ints_tail 0 n hn
  · rw [if_neg hc, if_neg hc]
    simp
    exact ints_tail 0 n hn
end Go.Proofs.Ytipcggfabjfobaa.Pure
