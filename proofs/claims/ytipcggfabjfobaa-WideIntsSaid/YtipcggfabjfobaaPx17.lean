-- Written by our own program (wip/xprint) over the seat's translation. Lean checks it.
import Derived.Test.YtipcggfabjfobaaPx0
namespace Go.Proofs.Ytipcggfabjfobaa.P
open Go.RowKit Go.Proofs.YtipcggfabjfobaaW.PrintWords Go.Proofs.YtipcggfabjfobaaW.PrintLast Go.Proofs.YtipcggfabjfobaaW.PrintMore
attribute [local go_sem] max2_int min2_int max_two min_two max_three min_three max_four min_four   -- for this text's walks alone
set_option linter.unusedVariables false
set_option linter.unusedSimpArgs false

/-! ### bits_Sub64: function 27 -/
-- SUPPLIED (wip/xprint)
/-- x - y - b, for a borrow of 0 or 1: the difference and the borrow. -/
def bits_Sub64.f (a0 a1 a2 : Int) : Option (Int × Int) := if 0 ≤ a0 then (if 0 ≤ a1 then (if 0 ≤ a2 then (if a2 ≤ 1 then (if a1 ≤ 18446744073709551615 then some ((a0 - a1 - a2) % 18446744073709551616, if a0 < a1 + a2 then 1 else 0) else none) else none) else none) else none) else none
theorem bits_Sub64.calls (a0 a1 a2 : Int) (r1 r2 : Int) (w : World) (h : bits_Sub64.f a0 a1 a2 = some (r1, r2)) :
    Ext Try.prog 27 #[.int .u64 a0, .int .u64 a1, .int .u64 a2] w fun e w' => e = .returned (.tuple #[.int .u64 r1, .int .u64 r2]) ∧ Drawn0 w w' := by
  unfold bits_Sub64.f at h
  split at h
  · rename_i h0
    split at h
    · rename_i h1
      split at h
      · rename_i h2
        split at h
        · rename_i h3
          split at h
          · rename_i h4
            simp only [Option.some.injEq, Prod.mk.injEq] at h
            obtain ⟨rfl, rfl⟩ := h
            obtain ⟨x, rfl⟩ := Int.eq_ofNat_of_zero_le h0
            obtain ⟨y, rfl⟩ := Int.eq_ofNat_of_zero_le h1
            obtain ⟨b, rfl⟩ := Int.eq_ofNat_of_zero_le h2
            refine ⟨_, ?_, rfl, Drawn0.refl _⟩
            have hb : b ≤ 1 := by omega
            have e1 : (((x + 18446744073709551616 - y - b) % 18446744073709551616 : Nat) : Int) = ((x : Int) - y - b) % 18446744073709551616 := by omega
            have e2 : ((if x < y + b then 1 else 0 : Nat) : Int) = if (x : Int) < y + b then 1 else 0 := by
              by_cases h5 : x < y + b
              · rw [if_pos h5, if_pos (by omega)]; rfl
              · rw [if_neg h5, if_neg (by omega)]; rfl
            rw [run_callFunc_extern Try.func27 (by kernel_rfl) (by kernel_rfl) (by kernel_rfl) (e := sub64Entry) (by kernel_rfl), run_sub64 x y b hb, e1, e2]
            rfl
          · exact absurd h (by simp)
        · exact absurd h (by simp)
      · exact absurd h (by simp)
    · exact absurd h (by simp)
  · exact absurd h (by simp)

end Go.Proofs.Ytipcggfabjfobaa.P
