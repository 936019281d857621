-- Plain laws of the printed functions (wip/l01).
import Derived.Test.YtmdnnpahmoaicaaDoorPureRef
import Derived.Test.YtmdnnpahmoaicaaDoorPureOrd
import Derived.Test.YtmdnnpahmoaicaaDoorPx56
namespace Go.Proofs.YtmdnnpahmoaicaaDoor.Pure
open Go.ChangeShapes Go.WideShapes Go.ChangeAt Go.RowKit Go.Proofs.YtmdnnpahmoaicaaDoorW.PrintWords Go.Proofs.YtmdnnpahmoaicaaDoorW.PrintLast Go.Proofs.YtmdnnpahmoaicaaDoor.P Go.Proofs.YtmdnnpahmoaicaaDoor.Open
set_option linter.unusedVariables false
set_option linter.unusedSimpArgs false
/-! ValueOrders -/
theorem toList_get (s : ByteArray) (i : Nat) (h : i < s.size) : s.data.toList.drop i = s.data[i]'h :: s.data.toList.drop (i + 1) := by
  rw [List.drop_eq_getElem_cons (by rw [Array.length_toList]; exact h)]
  congr 1
theorem bt_data (s : ByteArray) (i : Nat) (h : i < s.size) : bt s (i : Int) = ((s.data[i]'h).toNat : Int) := by
  unfold bt
  rw [dif_pos (by simpa using h)]
  rfl
theorem before_go (a b : S23) (hs : a.f2.size ≤ 9223372036854775807) : ∀ (n i : Nat), a.f2.size - i ≤ n → i ≤ a.f2.size → i ≤ b.f2.size →
    Ev (fun k => corollaryref01_Before.l0 k (i : Int) a.f0 a.f1 a.f2 b.f0 b.f1 b.f2) (Op.bytesLess (a.f2.data.toList.drop i) (b.f2.data.toList.drop i))
  | n, i, hn, ha, hb => by
    have la : a.f2.data.toList.length = a.f2.size := Array.length_toList
    have lb : b.f2.data.toList.length = b.f2.size := Array.length_toList
    have stop : (i = a.f2.size ∨ i = b.f2.size) → Ev (fun k => corollaryref01_Before.j1 k (i : Int) false a.f0 a.f1 a.f2 b.f0 b.f1 b.f2) (Op.bytesLess (a.f2.data.toList.drop i) (b.f2.data.toList.drop i)) := by
      intro h
      apply Ev.succ
      simp only [corollaryref01_Before.j1]
      apply Ev.neg (by decide)
      apply Ev.of
      congr 1
      by_cases h2 : i = b.f2.size
      · rw [List.drop_of_length_le (l := b.f2.data.toList) (by omega), decide_eq_false (by omega)]
        cases a.f2.data.toList.drop i <;> rfl
      · rw [List.drop_of_length_le (l := a.f2.data.toList) (by omega), toList_get b.f2 i (by omega), decide_eq_true (by omega)]
        rfl
    apply Ev.succ
    simp only [corollaryref01_Before.l0]
    by_cases h1 : i < a.f2.size
    · apply Ev.pos (by omega)
      by_cases h2 : i < b.f2.size
      · rw [decide_eq_true (by omega)]
        apply Ev.succ
        simp only [corollaryref01_Before.j1]
        apply Ev.pos trivial
        apply Ev.pos (by omega)
        apply Ev.pos (by omega)
        apply Ev.pos (by omega)
        rw [bt_data a.f2 i h1, bt_data b.f2 i h2, toList_get a.f2 i h1, toList_get b.f2 i h2, w64 (by omega) (by omega)]
        simp only [Op.bytesLess]
        by_cases he : a.f2.data[i]'h1 = b.f2.data[i]'h2
        · refine Ev.pos (by rw [he]) ?_
          rw [he]
          have : ¬ (b.f2.data[i]'h2 < b.f2.data[i]'h2) := UInt8.lt_irrefl _
          rw [decide_eq_false this, Bool.false_or, beq_self_eq_true, Bool.true_and]
          match n, hn with
          | 0, hn => omega
          | n + 1, hn =>
            have := before_go a b hs n (i + 1) (by omega) (by omega) (by omega)
            exact this
        · apply Ev.neg (by
            intro h
            apply he
            apply UInt8.toNat_inj.mp
            omega)
          apply Ev.of
          congr 1
          have : (a.f2.data[i]'h1 == b.f2.data[i]'h2) = false := by simpa using he
          rw [this, Bool.false_and, Bool.or_false, decide_eq_decide, UInt8.lt_iff_toNat_lt]
          omega
      · rw [decide_eq_false (by omega)]
        exact stop (.inr (by omega))
    · apply Ev.neg (by omega)
      exact stop (.inl (by omega))
def before (a b : S23) : Bool := if a.f0 = b.f0 then (if a.f1 = b.f1 then Op.bytesLess a.f2.toList b.f2.toList else decide (a.f1 < b.f1)) else decide (a.f0 < b.f0)
theorem before_ev (a b : S23) (hs : a.f2.size ≤ 9223372036854775807) : Ev (fun k => corollaryref01_Before.f k a.f0 a.f1 a.f2 b.f0 b.f1 b.f2) (before a b) := by
  unfold corollaryref01_Before.f before
  by_cases h0 : a.f0 = b.f0
  · rw [if_pos h0]
    apply Ev.pos h0
    by_cases h1 : a.f1 = b.f1
    · rw [if_pos h1]
      apply Ev.pos h1
      rw [ByteArray.toList_eq, ByteArray.toList_eq]
      exact before_go a b hs a.f2.size 0 (by omega) (by omega) (by omega)
    · rw [if_neg h1]
      exact Ev.neg h1 (Ev.pure _)
  · rw [if_neg h0]
    exact Ev.neg h0 (Ev.pure _)
theorem before_iff (a b : S23) : before a b = true ↔ Lt a b := by
  unfold before Lt
  by_cases h0 : a.f0 = b.f0
  · rw [if_pos h0]
    by_cases h1 : a.f1 = b.f1
    · rw [if_pos h1]
      constructor
      · intro h; exact .inr ⟨h0, .inr ⟨h1, h⟩⟩
      · rintro (h | ⟨_, h | ⟨_, h⟩⟩)
        · omega
        · omega
        · exact h
    · rw [if_neg h1, decide_eq_true_eq]
      constructor
      · intro h; exact .inr ⟨h0, .inl h⟩
      · rintro (h | ⟨_, h | ⟨h, _⟩⟩)
        · omega
        · exact h
        · exact absurd h h1
  · rw [if_neg h0, decide_eq_true_eq]
    constructor
    · intro h; exact .inl h
    · rintro (h | ⟨h, _⟩)
      · exact h
      · exact absurd h h0
/-- How two values stand, by the document. -/
theorem before_cmp (a b : S23) : cmpS a b = if before b a = true then 1 else if before a b = true then -1 else 0 := by
  rcases cmpS_cases a b with ⟨h, l⟩ | ⟨h, l⟩ | ⟨h, rfl⟩
  · rw [if_neg (fun x => l.asym ((before_iff b a).mp x)), if_pos ((before_iff a b).mpr l), h]
  · rw [if_pos ((before_iff b a).mpr l), h]
  · rw [if_neg (fun x => Lt.irrefl _ ((before_iff a a).mp x)), if_neg (fun x => Lt.irrefl _ ((before_iff a a).mp x)), h]
end Go.Proofs.YtmdnnpahmoaicaaDoor.Pure
