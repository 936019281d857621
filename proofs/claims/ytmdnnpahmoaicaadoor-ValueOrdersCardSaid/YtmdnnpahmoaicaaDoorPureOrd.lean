-- Plain laws of the printed functions (wip/l01).
import Derived.Test.YtmdnnpahmoaicaaDoorPure
namespace Go.Proofs.YtmdnnpahmoaicaaDoor.Pure
open Go.ChangeShapes Go.WideShapes Go.ChangeAt Go.RowKit Go.Proofs.YtmdnnpahmoaicaaDoorW.PrintWords Go.Proofs.YtmdnnpahmoaicaaDoorW.PrintLast Go.Proofs.YtmdnnpahmoaicaaDoor.P Go.Proofs.YtmdnnpahmoaicaaDoor.Open
set_option linter.unusedVariables false
set_option linter.unusedSimpArgs false
/-! the order -/
theorem less_iff (x y : List UInt8) : Op.bytesLess x y = true → Op.bytesLess y x = false := by
  intro h
  have := xBytesLess_gt x y
  rw [h] at this
  simpa using this.symm
theorem less_tri (x y : List UInt8) : Op.bytesLess x y = false → Op.bytesLess y x = false → x = y := by
  intro h1 h2
  have := xBytesLess_gt x y
  rw [h1, h2] at this
  simpa using this
theorem less_trans : ∀ (x y z : List UInt8), Op.bytesLess x y = true → Op.bytesLess y z = true → Op.bytesLess x z = true
  | _, [], _, h, _ => by simp [Op.bytesLess] at h
  | _, _ :: _, [], _, h => by simp [Op.bytesLess] at h
  | [], _ :: _, _ :: _, _, _ => by simp [Op.bytesLess]
  | a :: x, b :: y, c :: z, h1, h2 => by
    simp only [Op.bytesLess, Bool.or_eq_true, Bool.and_eq_true, decide_eq_true_eq, beq_iff_eq] at h1 h2 ⊢
    rcases h1 with h1 | ⟨rfl, h1⟩
    · rcases h2 with h2 | ⟨rfl, _⟩
      · exact .inl (UInt8.lt_trans h1 h2)
      · exact .inl h1
    · rcases h2 with h2 | ⟨rfl, h2⟩
      · exact .inl h2
      · exact .inr ⟨rfl, less_trans x y z h1 h2⟩
theorem cmpB_cases (a b : ByteArray) : (cmpB a b = -1 ∧ Op.bytesLess a.toList b.toList = true) ∨ (cmpB a b = 1 ∧ Op.bytesLess b.toList a.toList = true) ∨ (cmpB a b = 0 ∧ a = b) := by
  unfold cmpB
  by_cases h : Op.bytesLess a.toList b.toList = true
  · rw [if_pos h]; exact .inl ⟨rfl, h⟩
  · rw [if_neg h]
    by_cases h' : Op.bytesLess b.toList a.toList = true
    · rw [if_pos h']; exact .inr (.inl ⟨rfl, h'⟩)
    · rw [if_neg h']
      have := less_tri _ _ (by simpa using h) (by simpa using h')
      exact .inr (.inr ⟨rfl, of_decide_eq_true ((str_eq a b).symm.trans (by simpa using this))⟩)
theorem cmpI_cases (a b : Int) : (cmpI a b = -1 ∧ a < b) ∨ (cmpI a b = 1 ∧ b < a) ∨ (cmpI a b = 0 ∧ a = b) := by
  unfold cmpI
  by_cases h : a < b
  · rw [if_pos h]; exact .inl ⟨rfl, h⟩
  · rw [if_neg h]
    by_cases h' : a > b
    · rw [if_pos h']; exact .inr (.inl ⟨rfl, h'⟩)
    · rw [if_neg h']; exact .inr (.inr ⟨rfl, by omega⟩)
/-- One value stands ahead of another. -/
def Lt (a b : S23) : Prop := a.f0 < b.f0 ∨ (a.f0 = b.f0 ∧ (a.f1 < b.f1 ∨ (a.f1 = b.f1 ∧ Op.bytesLess a.f2.toList b.f2.toList = true)))
theorem cmpS_cases (a b : S23) : (cmpS a b = -1 ∧ Lt a b) ∨ (cmpS a b = 1 ∧ Lt b a) ∨ (cmpS a b = 0 ∧ a = b) := by
  unfold cmpS or3 Lt
  rcases cmpI_cases a.f0 b.f0 with ⟨e, h⟩ | ⟨e, h⟩ | ⟨e, h⟩
  · rw [e, if_neg (by decide)]; exact .inl ⟨rfl, .inl h⟩
  · rw [e, if_neg (by decide)]; exact .inr (.inl ⟨rfl, .inl h⟩)
  · rw [e, if_pos rfl]
    rcases cmpI_cases a.f1 b.f1 with ⟨e', h'⟩ | ⟨e', h'⟩ | ⟨e', h'⟩
    · rw [e', if_neg (by decide)]; exact .inl ⟨rfl, .inr ⟨h, .inl h'⟩⟩
    · rw [e', if_neg (by decide)]; exact .inr (.inl ⟨rfl, .inr ⟨h.symm, .inl h'⟩⟩)
    · rw [e', if_pos rfl]
      rcases cmpB_cases a.f2 b.f2 with ⟨e2, h2⟩ | ⟨e2, h2⟩ | ⟨e2, h2⟩
      · exact .inl ⟨e2, .inr ⟨h, .inr ⟨h', h2⟩⟩⟩
      · exact .inr (.inl ⟨e2, .inr ⟨h.symm, .inr ⟨h'.symm, h2⟩⟩⟩)
      · refine .inr (.inr ⟨e2, ?_⟩)
        cases a; cases b; simp only at h h' h2; rw [h, h', h2]
theorem Lt.trans {a b c : S23} (h1 : Lt a b) (h2 : Lt b c) : Lt a c := by
  unfold Lt at *
  rcases h1 with h1 | ⟨e1, h1⟩
  · rcases h2 with h2 | ⟨e2, h2⟩
    · exact .inl (by omega)
    · exact .inl (by omega)
  · rcases h2 with h2 | ⟨e2, h2⟩
    · exact .inl (by omega)
    · refine .inr ⟨e1.trans e2, ?_⟩
      rcases h1 with h1 | ⟨f1, h1⟩
      · rcases h2 with h2 | ⟨f2, h2⟩
        · exact .inl (by omega)
        · exact .inl (by omega)
      · rcases h2 with h2 | ⟨f2, h2⟩
        · exact .inl (by omega)
        · exact .inr ⟨f1.trans f2, less_trans _ _ _ h1 h2⟩
theorem Lt.asym {a b : S23} (h1 : Lt a b) : ¬ Lt b a := by
  intro h2
  unfold Lt at *
  rcases h1 with h1 | ⟨e1, h1⟩
  · rcases h2 with h2 | ⟨e2, h2⟩ <;> omega
  · rcases h2 with h2 | ⟨e2, h2⟩
    · omega
    · rcases h1 with h1 | ⟨f1, h1⟩
      · rcases h2 with h2 | ⟨f2, h2⟩ <;> omega
      · rcases h2 with h2 | ⟨f2, h2⟩
        · omega
        · rw [less_iff _ _ h1] at h2; cases h2
theorem Lt.irrefl (a : S23) : ¬ Lt a a := fun h => h.asym h
theorem bool_test {c : Bool} {p : Prop} [Decidable p] (h : c = decide p) (hp : p) : c = true := by rw [h]; exact decide_eq_true hp
theorem cmpS_rng (a b : S23) : cmpS a b = -1 ∨ cmpS a b = 1 ∨ cmpS a b = 0 := by
  rcases cmpS_cases a b with ⟨h, _⟩ | ⟨h, _⟩ | ⟨h, _⟩
  · exact .inl h
  · exact .inr (.inl h)
  · exact .inr (.inr h)
theorem cmpS_zero (a b : S23) : (cmpS a b == 0) = decide (a = b) := by
  rcases cmpS_cases a b with ⟨h, l⟩ | ⟨h, l⟩ | ⟨h, l⟩
  · rw [h]
    have : ¬ a = b := by rintro rfl; exact Lt.irrefl _ l
    rw [decide_eq_false this]; rfl
  · rw [h]
    have : ¬ a = b := by rintro rfl; exact Lt.irrefl _ l
    rw [decide_eq_false this]; rfl
  · rw [h, decide_eq_true l]; rfl
theorem cmpS_le (a b c : S23) (h1 : cmpS a b ≤ 0) (h2 : cmpS b c ≤ 0) : cmpS a c ≤ 0 := by
  rcases cmpS_cases a b with ⟨e1, l1⟩ | ⟨e1, _⟩ | ⟨_, rfl⟩
  · rcases cmpS_cases b c with ⟨e2, l2⟩ | ⟨e2, _⟩ | ⟨_, rfl⟩
    · rcases cmpS_cases a c with ⟨e3, _⟩ | ⟨_, l3⟩ | ⟨e3, _⟩
      · omega
      · exact absurd l3 (l1.trans l2).asym
      · omega
    · omega
    · omega
  · omega
  · exact h2
end Go.Proofs.YtmdnnpahmoaicaaDoor.Pure
