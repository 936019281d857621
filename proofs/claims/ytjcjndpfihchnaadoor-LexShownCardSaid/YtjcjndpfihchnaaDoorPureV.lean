-- Plain laws of the printed functions (wip/l11).
import Derived.Test.YtjcjndpfihchnaaDoorPx1
import Derived.Test.YtjcjndpfihchnaaDoorPx36
import Derived.Test.YtjcjndpfihchnaaDoorOpen
namespace Go.Proofs.YtjcjndpfihchnaaDoor.Pure
open Go.ChangeShapes Go.WideShapes Go.ChangeAt Go.RowKit Go.Proofs.YtjcjndpfihchnaaDoorW.PrintWords Go.Proofs.YtjcjndpfihchnaaDoorW.PrintLast Go.Proofs.YtjcjndpfihchnaaDoor.P Go.Proofs.YtjcjndpfihchnaaDoor.Open
set_option linter.unusedVariables false
set_option linter.unusedSimpArgs false
/-! What a function with rounds comes to, given enough of them. -/
/-- From some number of rounds on, 'g' yields 'v'. -/
def Ev {α : Type} (g : Nat → Option α) (v : α) : Prop := ∃ k0, ∀ k, k0 ≤ k → g k = some v
theorem Ev.of {α : Type} {v : α} {o : Option α} (h : o = some v) : Ev (fun _ => o) v := ⟨0, fun _ _ => h⟩
theorem Ev.pure {α : Type} (v : α) : Ev (fun _ => some v) v := ⟨0, fun _ _ => rfl⟩
theorem Ev.bind {α β : Type} {g : Nat → Option α} {h : Nat → α → Option β} {a : α} {b : β} (hg : Ev g a) (hh : Ev (fun k => h k a) b) : Ev (fun k => (g k).bind (h k)) b := by
  obtain ⟨k1, h1⟩ := hg
  obtain ⟨k2, h2⟩ := hh
  exact ⟨max k1 k2, fun k hk => by show (g k).bind (h k) = some b; rw [h1 k (by omega)]; exact h2 k (by omega)⟩
theorem Ev.succ {α : Type} {g : Nat → Option α} {v : α} (h : Ev (fun k => g (k + 1)) v) : Ev g v := by
  obtain ⟨k1, h1⟩ := h
  refine ⟨k1 + 1, fun k hk => ?_⟩
  obtain ⟨j, rfl⟩ : ∃ j, k = j + 1 := ⟨k - 1, by omega⟩
  exact h1 j (by omega)
theorem Ev.get {α : Type} {g : Nat → Option α} {v : α} (h : Ev g v) : ∃ k, g k = some v := by
  obtain ⟨k, h⟩ := h
  exact ⟨k, h k (Nat.le_refl _)⟩
theorem Ev.mono {α : Type} {g : Nat → Option α} {v : α} {k0 : Nat} (h0 : g k0 = some v) (m : ∀ k, LeO (g k) (g (k + 1))) : Ev g v := by
  refine ⟨k0, fun k hk => ?_⟩
  induction k with
  | zero => obtain rfl : k0 = 0 := by omega
            exact h0
  | succ k ih =>
    by_cases e : k0 = k + 1
    · subst e; exact h0
    · exact m k v (ih (by omega))
theorem Ev.congr {α : Type} {g g' : Nat → Option α} {v : α} (h : Ev g v) (e : ∀ k, g' k = g k) : Ev g' v := by
  obtain ⟨k, h⟩ := h
  exact ⟨k, fun j hj => by rw [e]; exact h j hj⟩
theorem Ev.pos {α : Type} {c : Prop} [Decidable c] {g h : Nat → Option α} {v : α} (hc : c) (hg : Ev g v) : Ev (fun k => if c then g k else h k) v :=
  hg.congr fun _ => if_pos hc
theorem Ev.neg {α : Type} {c : Prop} [Decidable c] {g h : Nat → Option α} {v : α} (hc : ¬ c) (hg : Ev h v) : Ev (fun k => if c then g k else h k) v :=
  hg.congr fun _ => if_neg hc
theorem w64 {n : Int} (h : -9223372036854775808 ≤ n) (h' : n < 9223372036854775808) : wrap64 n = n := by unfold wrap64; omega
/-- A value. -/
structure VS where
  f0 : Int
  f1 : Int
  f2 : ByteArray
/-- Is a value right? -/
def vR (v : VS) : Bool :=
  if v.f0 = 0 then decide (v.f1 = 0) && (v.f2.toList == ([] : List UInt8))
  else if v.f0 = 1 then (decide (v.f1 = 0) || decide (v.f1 = 1)) && (v.f2.toList == ([] : List UInt8))
  else if v.f0 = 2 then (v.f2.toList == ([] : List UInt8))
  else if v.f0 = 3 then decide (v.f1 = 0) && decide ((v.f2.size : Int) ≤ 64) && Lib.validD v.f2.data.toList
  else if v.f0 = 4 then decide (v.f1 = 0) && decide ((v.f2.size : Int) ≤ 64)
  else false
theorem right_eq (v : VS) : value_Right.f v.f0 v.f1 v.f2 = some (vR v) := by
  unfold value_Right.f vR
  by_cases h0 : v.f0 = 0
  · by_cases h1 : v.f1 = 0 <;> simp [h0, h1]
  · by_cases h1 : v.f0 = 1
    · by_cases h2 : v.f1 = 0
      · simp [h1, h2]
      · by_cases h3 : v.f1 = 1 <;> simp [h1, h2, h3]
    · by_cases h2 : v.f0 = 2
      · simp [h2]
      · by_cases h3 : v.f0 = 3
        · by_cases h4 : v.f1 = 0
          · by_cases h5 : (v.f2.size : Int) ≤ 64
            · have : utf8_ValidString.f v.f2 = some (Lib.validD v.f2.data.toList) := by unfold utf8_ValidString.f; exact if_pos (by omega)
              simp [h3, h4, h5, this]
            · simp [h3, h4, h5]
          · simp [h3, h4]
        · by_cases h4 : v.f0 = 4
          · by_cases h5 : v.f1 = 0 <;> simp [h4, h5]
          · simp [h0, h1, h2, h3, h4]
def zv : VS := ⟨0, 0, ⟨#[]⟩⟩
theorem str_eq (a b : ByteArray) : (a.toList == b.toList) = decide (a = b) := by
  rw [ByteArray.toList_eq, ByteArray.toList_eq]
  by_cases h : a = b
  · subst h; simp
  · have : ¬ a.data = b.data := fun e => h (ByteArray.ext e)
    simp [h, this]
theorem str_nil (a : ByteArray) : (a.toList == ([] : List UInt8)) = decide (a = ⟨#[]⟩) := by
  have := str_eq a ⟨#[]⟩
  rw [ByteArray.toList_eq ⟨#[]⟩] at this
  exact this
deriving instance DecidableEq for VS
/-- Two values are the same. -/
theorem same_eq (a b : VS) : (a.f0 == b.f0 && (a.f1 == b.f1 && (a.f2.toList == b.f2.toList))) = decide (a = b) := by
  rw [str_eq]
  rw [Bool.eq_iff_iff]
  simp only [Bool.and_eq_true, beq_iff_eq, decide_eq_true_eq]
  constructor
  · rintro ⟨h1, h2, h3⟩
    cases a; cases b; simp_all
  · rintro rfl
    exact ⟨rfl, rfl, rfl⟩
theorem notsame_eq (a b : VS) : (!(a.f0 == b.f0) || (!(a.f1 == b.f1) || (!(a.f2.toList == b.f2.toList)))) = !decide (a = b) := by
  rw [← same_eq]
  cases (a.f0 == b.f0) <;> cases (a.f1 == b.f1) <;> cases (a.f2.toList == b.f2.toList) <;> rfl
theorem vR_zv : vR zv = true := by
  unfold vR zv
  rw [str_nil]
  rfl
theorem vR_int (n : Int) : vR ⟨2, n, ⟨#[]⟩⟩ = true := by
  unfold vR
  simp only [str_nil]
  rfl
end Go.Proofs.YtjcjndpfihchnaaDoor.Pure
