/- the plain law -/
import Derived.Test.YtipcggfabjfobaaPureBase
import Derived.Test.YtipcggfabjfobaaStatWideSums
import Derived.Test.YtipcggfabjfobaaPx13
namespace Go.Proofs.Ytipcggfabjfobaa.Pure
open Go.ChangeShapes Go.WideShapes Go.ChangeAt Go.RowKit Go.Proofs.YtipcggfabjfobaaW.PrintWords Go.Proofs.YtipcggfabjfobaaW.PrintLast Go.Proofs.Ytipcggfabjfobaa.P Go.Proofs.Ytipcggfabjfobaa.Open
theorem revs (l : List Int) (i : Nat) (h : i < l.length) : (l.reverse.take (i + 1)) = l.reverse.take i ++ [l[l.length - 1 - i]] := by
  rw [List.take_succ_eq_append_getElem (by simpa using h), List.getElem_reverse]
theorem sums_loop (l : List Int) (hl : l.length ≤ 200) (hw : ∀ a ∈ l, (Lit.int .i64 a).wf = true) (d : Nat) : ∀ (k i : Nat) (h lo : Int), i + d = l.length → d + 300 < k → Wb h lo → Wv h lo = (l.take i).sum →
    -(9223372036854775808 * (i : Int)) ≤ Wv h lo → Wv h lo ≤ 9223372036854775808 * (i : Int) →
    corollarylaw02_WideSums.l0 k l (l.reverse.take i) (l.length : Int) (i : Int) h lo = some true := by
  induction d with
  | zero =>
    intro k i h lo hi hk hb hv _ _
    obtain ⟨k, rfl⟩ : ∃ m, k = m + 1 := ⟨k - 1, by omega⟩
    have hil : i = l.length := by omega
    rw [corollarylaw02_WideSums.l0, if_neg (by omega)]
    have ht : l.reverse.take i = l.reverse := List.take_of_length_le (by simp; omega)
    rw [ht]
    obtain ⟨x, y, e1, b1, w1⟩ := sum_eq l hl hw k (by omega)
    obtain ⟨x', y', e2, b2, w2⟩ := sum_eq l.reverse (by simpa using hl) (fun a ha => hw a (by simpa using ha)) k (by simp; omega)
    rw [e1, e2]
    simp only [Option.bind_some]
    rw [List.take_of_length_le (by omega)] at hv
    obtain ⟨rfl, rfl⟩ := Wv_inj b1 hb (by rw [w1, hv])
    have hs : l.reverse.sum = l.sum := by rw [List.sum_reverse]
    obtain ⟨rfl, rfl⟩ := Wv_inj b2 b1 (by rw [w2, w1, hs])
    rw [if_pos (by simp), if_pos (by simp), if_pos (by simp), if_pos (by simp)]
    obtain ⟨m, rfl⟩ : ∃ m, k = m + 3 := ⟨k - 3, by omega⟩
    rw [awakek]
    rfl
  | succ d ih =>
    intro k i h lo hi hk hb hv h1 h2
    obtain ⟨k, rfl⟩ : ∃ m, k = m + 1 := ⟨k - 1, by omega⟩
    have hil : i < l.length := by omega
    have hm := b64 (hw l[i] (List.getElem_mem hil))
    obtain ⟨m, rfl⟩ : ∃ m, k = m + 9 := ⟨k - 9, by omega⟩
    obtain ⟨u, v, e1, b1, w1⟩ := rof_eq (m + 5) l[i] hm
    obtain ⟨x, y, e2, hx⟩ := radd_eq m h lo u v hb b1
    obtain ⟨b2, w2⟩ := hx (by omega) (by omega)
    rw [if_pos (by omega)] at e2
    rw [corollarylaw02_WideSums.l0, if_pos (by omega), if_pos (by omega), if_pos (by omega), rd_get l i hil, e1]
    simp only [Option.bind_some]
    rw [e2]
    simp only [Option.bind_some]
    rw [if_pos (by simp)]
    have hj : wrap64 (wrap64 ((l.length : Int) - 1) - (i : Int)) = ((l.length - 1 - i : Nat) : Int) := by unfold wrap64; omega
    rw [hj, if_pos (by omega), if_pos (by omega), rd_get l _ (by omega), ← revs l i hil, if_pos (by simp; omega)]
    rw [show wrap64 ((i : Int) + 1) = ((i + 1 : Nat) : Int) by unfold wrap64; omega]
    refine ih (m + 9) (i + 1) x y (by omega) (by omega) b2 ?_ (by omega) (by omega)
    rw [w2, w1, hv, List.take_succ_eq_append_getElem hil, List.sum_append]
    simp
theorem WideSums_pure : Stat.WideSums := by
  intro l hw
  obtain ⟨_, hw⟩ := hw
  by_cases hl : (l.length : Int) > 200
  · refine ⟨3, ?_⟩
    unfold corollarylaw02_WideSums.f
    rw [if_pos hl, awake3]
    rfl
  · refine ⟨l.length + 301, ?_⟩
    unfold corollarylaw02_WideSums.f
    rw [if_neg hl]
    exact sums_loop l (by omega) hw l.length _ 0 0 0 (by omega) (by omega) (by unfold Wb; omega) (by simp [Wv]) (by unfold Wv; omega) (by unfold Wv; omega)
end Go.Proofs.Ytipcggfabjfobaa.Pure
