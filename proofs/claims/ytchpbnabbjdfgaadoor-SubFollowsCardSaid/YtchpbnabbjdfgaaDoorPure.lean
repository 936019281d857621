-- HALVED
import Derived.Test.YtchpbnabbjdfgaaDoorOpen
import Derived.Test.YtchpbnabbjdfgaaDoorStA
import Derived.Test.YtchpbnabbjdfgaaDoorPx0
import Derived.Test.YtchpbnabbjdfgaaDoorPx1
namespace Go.Proofs.YtchpbnabbjdfgaaDoor.Pure
open Go.ChangeShapes Go.WideShapes Go.ChangeAt Go.RowKit Go.Proofs.YtchpbnabbjdfgaaDoorW.PrintWords Go.Proofs.YtchpbnabbjdfgaaDoorW.PrintLast Go.Proofs.YtchpbnabbjdfgaaDoor.P Go.Proofs.YtchpbnabbjdfgaaDoor.Open
set_option linter.unusedVariables false
set_option linter.unusedSimpArgs false
def Ev {α : Type} (g : Nat → Option α) (v : α) : Prop := ∃ k0, ∀ k, k0 ≤ k → g k = some v
theorem Ev.of {α : Type} {v : α} {o : Option α} (h : o = some v) : Ev (fun _ => o) v := ⟨0, fun _ _ => h⟩
theorem Ev.pure {α : Type} (v : α) : Ev (fun _ => some v) v := ⟨0, fun _ _ => rfl⟩
theorem Ev.bind {α β : Type} {g : Nat → Option α} {h : Nat → α → Option β} {a : α} {b : β} (hg : Ev g a) (hh : Ev (fun k => h k a) b) : Ev (fun k => (g k).bind (h k)) b := by
 obtain ⟨k1, h1⟩ := hg
 obtain ⟨k2, h2⟩ := hh
 exact ⟨max k1 k2, fun k hk => by show (g k).bind (h k) = some b; rw [h1 k (by omega)]; exact h2 k (by omega)⟩
theorem Ev.succ {α : Type} {g : Nat → Option α} {v : α} (h : Ev (fun k => g (k + 1)) v) : Ev g v := by
 obtain ⟨k1, h1⟩ := h
 refine ⟨k1 + 1, fun k hk => ?_⟩
 obtain ⟨j, rfl⟩ : ∃ j, k = j + 1 := ⟨k - 1, by omega⟩
 exact h1 j (by omega)
theorem Ev.mono {α : Type} {g : Nat → Option α} {v : α} {k0 : Nat} (h0 : g k0 = some v) (m : ∀ k, LeO (g k) (g (k + 1))) : Ev g v := by
 refine ⟨k0, fun k hk => ?_⟩
 induction k with
 | zero =>
  obtain rfl : k0 = 0 := by omega
  exact h0
 | succ k ih =>
  by_cases e : k0 = k + 1
  ·subst e; exact h0
  ·exact m k v (ih (by omega))
theorem Ev.congr {α : Type} {g g' : Nat → Option α} {v : α} (h : Ev g v) (e : ∀ k, g' k = g k) : Ev g' v := by
 obtain ⟨k, h⟩ := h
 exact ⟨k, fun j hj => by rw [e]; exact h j hj⟩
theorem Ev.pos {α : Type} {c : Prop} [Decidable c] {g h : Nat → Option α} {v : α} (hc : c) (hg : Ev g v) : Ev (fun k => if c then g k else h k) v :=
 hg.congr fun _ => if_pos hc
theorem Ev.neg {α : Type} {c : Prop} [Decidable c] {g h : Nat → Option α} {v : α} (hc : ¬ c) (hg : Ev h v) : Ev (fun k => if c then g k else h k) v :=
 hg.congr fun _ => if_neg hc
theorem w64 {n : Int} (h : -9223372036854775808 ≤ n) (h' : n < 9223372036854775808) : wrap64 n = n := by unfold wrap64; omega
def vR (v : S105) : Bool :=
 if v.f0 = 0 then decide (v.f1 = 0) && (v.f2.toList == ([] : List UInt8))
 else if v.f0 = 1 then (decide (v.f1 = 0) || decide (v.f1 = 1)) && (v.f2.toList == ([] : List UInt8))
 else if v.f0 = 2 then (v.f2.toList == ([] : List UInt8))
 else if v.f0 = 3 then decide (v.f1 = 0) && decide ((v.f2.size : Int) ≤ 64) && Lib.validD v.f2.data.toList
 else if v.f0 = 4 then decide (v.f1 = 0) && decide ((v.f2.size : Int) ≤ 64)
 else false
theorem right_eq (v : S105) : zew.f v.f0 v.f1 v.f2 = some (vR v) := by
 unfold zew.f vR
 by_cases h0 : v.f0 = 0
 ·by_cases h1 : v.f1 = 0 <;> simp [h0, h1]
 ·by_cases h1 : v.f0 = 1
  ·by_cases h2 : v.f1 = 0
   ·simp [h1, h2]
   ·by_cases h3 : v.f1 = 1 <;> simp [h1, h2, h3]
  ·by_cases h2 : v.f0 = 2
   ·simp [h2]
   ·by_cases h3 : v.f0 = 3
    ·by_cases h4 : v.f1 = 0
     ·by_cases h5 : (v.f2.size : Int) ≤ 64
      ·have : utf8_ValidString.f v.f2 = some (Lib.validD v.f2.data.toList) := by unfold utf8_ValidString.f; exact if_pos (by omega)
       simp [h3, h4, h5, this]
      ·simp [h3, h4, h5]
     ·simp [h3, h4]
    ·by_cases h4 : v.f0 = 4
     ·by_cases h5 : v.f1 = 0 <;> simp [h4, h5]
     ·simp [h0, h1, h2, h3, h4]
theorem rdv (pre : List S105) (i : S105) (is : List S105) : zbj (pre ++ i :: is) (pre.length : Int) = i := by
 unfold zbj
 simp
def zv : S105 := ⟨0, 0, ⟨#[]⟩⟩
theorem str_eq (a b : ByteArray) : (a.toList == b.toList) = decide (a = b) := by
 rw [ByteArray.toList_eq, ByteArray.toList_eq]
 by_cases h : a = b
 ·subst h; simp
 ·have : ¬ a.data = b.data := fun e => h (ByteArray.ext e)
  simp [h, this]
deriving instance DecidableEq for S105
def cmpI (a b : Int) : Int := if a < b then -1 else if a > b then 1 else 0
def cmpB (a b : ByteArray) : Int := if Op.bytesLess a.toList b.toList = true then -1 else if Op.bytesLess b.toList a.toList = true then 1 else 0
theorem cmpI_eq (a b : Int) : cmp_Compare_int.f a b = some (cmpI a b) := by
 unfold cmp_Compare_int.f cmpI cmp_isNaN_int.f
 simp only [bne_self_eq_false, Option.bind_some]
 by_cases h : a < b
 ·simp [h]
 ·by_cases h' : a > b <;> simp [h, h']
theorem cmpB_eq (a b : ByteArray) : zcu.f a b = some (cmpB a b) := by
 unfold zcu.f cmpB cmp_isNaN_string.f
 simp only [bne_self_eq_false, Option.bind_some]
 by_cases h : Op.bytesLess a.toList b.toList = true
 ·simp [h]
 ·by_cases h' : Op.bytesLess b.toList a.toList = true <;> simp [h, h']
def or3 (a b c : Int) : Int := if a = 0 then (if b = 0 then c else b) else a
theorem or_ev (a b c : Int) : Ev (fun k => zbw.f k [a, b, c]) (or3 a b c) := by
 unfold zbw.f or3
 apply Ev.succ
 simp only [zbw.l0]
 apply Ev.pos (by simp)
 apply Ev.pos (by simp)
 apply Ev.pos (by simp)
 by_cases ha : a = 0
 ·apply Ev.pos (show rd [a, b, c] 0 = 0 from ha)
  rw [if_pos ha, show wrap64 (0 + 1) = 1 from w64 (by omega) (by omega)]
  apply Ev.succ
  simp only [zbw.l0]
  apply Ev.pos (by simp)
  apply Ev.pos (by simp)
  apply Ev.pos (by simp)
  by_cases hb : b = 0
  ·apply Ev.pos (show rd [a, b, c] 1 = 0 from hb)
   rw [if_pos hb, show wrap64 (1 + 1) = 2 from w64 (by omega) (by omega)]
   apply Ev.succ
   simp only [zbw.l0]
   apply Ev.pos (by simp)
   apply Ev.pos (by simp)
   apply Ev.pos (by simp)
   by_cases hc : c = 0
   ·apply Ev.pos (show rd [a, b, c] 2 = 0 from hc)
    rw [show wrap64 (2 + 1) = 3 from w64 (by omega) (by omega)]
    apply Ev.succ
    simp only [zbw.l0]
    apply Ev.neg (by simp)
    rw [hc]
    exact Ev.pure _
   ·apply Ev.neg (show ¬ rd [a, b, c] 2 = 0 from hc)
    exact Ev.pure c
  ·apply Ev.neg (show ¬ rd [a, b, c] 1 = 0 from hb)
   rw [if_neg hb]
   exact Ev.pure b
 ·apply Ev.neg (show ¬ rd [a, b, c] 0 = 0 from ha)
  rw [if_neg ha]
  exact Ev.pure a
def cmpS (a b : S105) : Int := or3 (cmpI a.f0 b.f0) (cmpI a.f1 b.f1) (cmpB a.f2 b.f2)
theorem cmp_ev (a b : S105) : Ev (fun k => zbu.f k a.f0 a.f1 a.f2 b.f0 b.f1 b.f2) (cmpS a b) := by
 unfold zbu.f cmpS
 rw [cmpI_eq, cmpI_eq, cmpB_eq]
 simp only [Option.bind_some]
 exact Ev.bind (or_ev _ _ _) (Ev.pure _)
theorem less_asym (a b : ByteArray) (h : Op.bytesLess a.toList b.toList = true) : Op.bytesLess b.toList a.toList = false := by
 have := zfo a.toList b.toList
 rw [h] at this
 simpa using this.symm
theorem cmpI_anti (a b : Int) : cmpI b a = - cmpI a b := by
 unfold cmpI
 by_cases h : a < b
 ·have : ¬ b < a := by omega
  simp [h, this]
 ·by_cases h' : b < a
  ·simp [h, h']
  ·simp [h, h']
theorem cmpB_anti (a b : ByteArray) : cmpB b a = - cmpB a b := by
 unfold cmpB
 by_cases h : Op.bytesLess a.toList b.toList = true
 ·have := less_asym a b h
  simp [h, this]
 ·by_cases h' : Op.bytesLess b.toList a.toList = true
  ·simp [h, h']
  ·simp [h, h']
theorem cmpS_anti (a b : S105) : cmpS b a = - cmpS a b := by
 unfold cmpS
 rw [cmpI_anti a.f0 b.f0, cmpI_anti a.f1 b.f1, cmpB_anti a.f2 b.f2]
 unfold or3
 by_cases h1 : cmpI a.f0 b.f0 = 0
 ·by_cases h2 : cmpI a.f1 b.f1 = 0
  ·simp [h1, h2]
  ·simp [h1, h2]
 ·simp [h1]
theorem less_iff (x y : List UInt8) : Op.bytesLess x y = true → Op.bytesLess y x = false := by
 intro h
 have := zfo x y
 rw [h] at this
 simpa using this.symm
theorem less_tri (x y : List UInt8) : Op.bytesLess x y = false → Op.bytesLess y x = false → x = y := by
 intro h1 h2
 have := zfo x y
 rw [h1, h2] at this
 simpa using this
theorem less_trans : ∀ (x y z : List UInt8), Op.bytesLess x y = true → Op.bytesLess y z = true → Op.bytesLess x z = true
 | _, [], _, h, _ => by simp [Op.bytesLess] at h
 | _, _ :: _, [], _, h => by simp [Op.bytesLess] at h
 | [], _ :: _, _ :: _, _, _ => by simp [Op.bytesLess]
 | a :: x, b :: y, c :: z, h1, h2 => by
  simp only [Op.bytesLess, Bool.or_eq_true, Bool.and_eq_true, decide_eq_true_eq, beq_iff_eq] at h1 h2 ⊢
  rcases h1 with h1 | ⟨rfl, h1⟩
  ·rcases h2 with h2 | ⟨rfl, _⟩
   ·exact .inl (UInt8.lt_trans h1 h2)
   ·exact .inl h1
  ·rcases h2 with h2 | ⟨rfl, h2⟩
   ·exact .inl h2
   ·exact .inr ⟨rfl, less_trans x y z h1 h2⟩
theorem cmpB_cases (a b : ByteArray) : (cmpB a b = -1 ∧ Op.bytesLess a.toList b.toList = true) ∨ (cmpB a b = 1 ∧ Op.bytesLess b.toList a.toList = true) ∨ (cmpB a b = 0 ∧ a = b) := by
 unfold cmpB
 by_cases h : Op.bytesLess a.toList b.toList = true
 ·rw [if_pos h]; exact .inl ⟨rfl, h⟩
 ·rw [if_neg h]
  by_cases h' : Op.bytesLess b.toList a.toList = true
  ·rw [if_pos h']; exact .inr (.inl ⟨rfl, h'⟩)
  ·rw [if_neg h']
   have := less_tri _ _ (by simpa using h) (by simpa using h')
   exact .inr (.inr ⟨rfl, of_decide_eq_true ((str_eq a b).symm.trans (by simpa using this))⟩)
theorem cmpI_cases (a b : Int) : (cmpI a b = -1 ∧ a < b) ∨ (cmpI a b = 1 ∧ b < a) ∨ (cmpI a b = 0 ∧ a = b) := by
 unfold cmpI
 by_cases h : a < b
 ·rw [if_pos h]; exact .inl ⟨rfl, h⟩
 ·rw [if_neg h]
  by_cases h' : a > b
  ·rw [if_pos h']; exact .inr (.inl ⟨rfl, h'⟩)
  ·rw [if_neg h']; exact .inr (.inr ⟨rfl, by omega⟩)
def Lt (a b : S105) : Prop := a.f0 < b.f0 ∨ (a.f0 = b.f0 ∧ (a.f1 < b.f1 ∨ (a.f1 = b.f1 ∧ Op.bytesLess a.f2.toList b.f2.toList = true)))
theorem cmpS_cases (a b : S105) : (cmpS a b = -1 ∧ Lt a b) ∨ (cmpS a b = 1 ∧ Lt b a) ∨ (cmpS a b = 0 ∧ a = b) := by
 unfold cmpS or3 Lt
 rcases cmpI_cases a.f0 b.f0 with ⟨e, h⟩ | ⟨e, h⟩ | ⟨e, h⟩
 ·rw [e, if_neg (by decide)]; exact .inl ⟨rfl, .inl h⟩
 ·rw [e, if_neg (by decide)]; exact .inr (.inl ⟨rfl, .inl h⟩)
 ·rw [e, if_pos rfl]
  rcases cmpI_cases a.f1 b.f1 with ⟨e', h'⟩ | ⟨e', h'⟩ | ⟨e', h'⟩
  ·rw [e', if_neg (by decide)]; exact .inl ⟨rfl, .inr ⟨h, .inl h'⟩⟩
  ·rw [e', if_neg (by decide)]; exact .inr (.inl ⟨rfl, .inr ⟨h.symm, .inl h'⟩⟩)
  ·rw [e', if_pos rfl]
   rcases cmpB_cases a.f2 b.f2 with ⟨e2, h2⟩ | ⟨e2, h2⟩ | ⟨e2, h2⟩
   ·exact .inl ⟨e2, .inr ⟨h, .inr ⟨h', h2⟩⟩⟩
   ·exact .inr (.inl ⟨e2, .inr ⟨h.symm, .inr ⟨h'.symm, h2⟩⟩⟩)
   ·refine .inr (.inr ⟨e2, ?_⟩)
    cases a; cases b; simp only at h h' h2; rw [h, h', h2]
theorem Lt.trans {a b c : S105} (h1 : Lt a b) (h2 : Lt b c) : Lt a c := by
 unfold Lt at *
 rcases h1 with h1 | ⟨e1, h1⟩
 ·rcases h2 with h2 | ⟨e2, h2⟩
  ·exact .inl (by omega)
  ·exact .inl (by omega)
 ·rcases h2 with h2 | ⟨e2, h2⟩
  ·exact .inl (by omega)
  ·refine .inr ⟨e1.trans e2, ?_⟩
   rcases h1 with h1 | ⟨f1, h1⟩
   ·rcases h2 with h2 | ⟨f2, h2⟩
    ·exact .inl (by omega)
    ·exact .inl (by omega)
   ·rcases h2 with h2 | ⟨f2, h2⟩
    ·exact .inl (by omega)
    ·exact .inr ⟨f1.trans f2, less_trans _ _ _ h1 h2⟩
theorem Lt.asym {a b : S105} (h1 : Lt a b) : ¬ Lt b a := by
 intro h2
 unfold Lt at *
 rcases h1 with h1 | ⟨e1, h1⟩
 ·rcases h2 with h2 | ⟨e2, h2⟩ <;> omega
 ·rcases h2 with h2 | ⟨e2, h2⟩
  ·omega
  ·rcases h1 with h1 | ⟨f1, h1⟩
   ·rcases h2 with h2 | ⟨f2, h2⟩ <;> omega
   ·rcases h2 with h2 | ⟨f2, h2⟩
    ·omega
    ·rw [less_iff _ _ h1] at h2; cases h2
theorem Lt.irrefl (a : S105) : ¬ Lt a a := fun h => h.asym h
end Go.Proofs.YtchpbnabbjdfgaaDoor.Pure
