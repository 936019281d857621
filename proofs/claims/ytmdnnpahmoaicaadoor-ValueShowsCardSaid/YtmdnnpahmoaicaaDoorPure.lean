-- Plain laws of the printed functions (wip/l01).
import Derived.Test.YtmdnnpahmoaicaaDoorPx48
import Derived.Test.YtmdnnpahmoaicaaDoorPx50
import Derived.Test.YtmdnnpahmoaicaaDoorPx50
import Derived.Test.YtmdnnpahmoaicaaDoorPx53
import Derived.Test.YtmdnnpahmoaicaaDoorPx63
import Derived.Test.YtmdnnpahmoaicaaDoorOpen
namespace Go.Proofs.YtmdnnpahmoaicaaDoor.Pure
open Go.ChangeShapes Go.WideShapes Go.ChangeAt Go.RowKit Go.Proofs.YtmdnnpahmoaicaaDoorW.PrintWords Go.Proofs.YtmdnnpahmoaicaaDoorW.PrintLast Go.Proofs.YtmdnnpahmoaicaaDoor.P Go.Proofs.YtmdnnpahmoaicaaDoor.Open
set_option linter.unusedVariables false
set_option linter.unusedSimpArgs false
/-! What a function with rounds comes to, given enough of them. -/
/-- From some number of rounds on, 'g' yields 'v'. -/
def Ev {α : Type} (g : Nat → Option α) (v : α) : Prop := ∃ k0, ∀ k, k0 ≤ k → g k = some v
theorem Ev.of {α : Type} {v : α} {o : Option α} (h : o = some v) : Ev (fun _ => o) v := ⟨0, fun _ _ => h⟩
theorem Ev.pure {α : Type} (v : α) : Ev (fun _ => some v) v := ⟨0, fun _ _ => rfl⟩
theorem Ev.bind {α β : Type} {g : Nat → Option α} {h : Nat → α → Option β} {a : α} {b : β} (hg : Ev g a) (hh : Ev (fun k => h k a) b) : Ev (fun k => (g k).bind (h k)) b := by
  obtain ⟨k1, h1⟩ := hg
  obtain ⟨k2, h2⟩ := hh
  exact ⟨max k1 k2, fun k hk => by show (g k).bind (h k) = some b; rw [h1 k (by omega)]; exact h2 k (by omega)⟩
theorem Ev.succ {α : Type} {g : Nat → Option α} {v : α} (h : Ev (fun k => g (k + 1)) v) : Ev g v := by
  obtain ⟨k1, h1⟩ := h
  refine ⟨k1 + 1, fun k hk => ?_⟩
  obtain ⟨j, rfl⟩ : ∃ j, k = j + 1 := ⟨k - 1, by omega⟩
  exact h1 j (by omega)
theorem Ev.get {α : Type} {g : Nat → Option α} {v : α} (h : Ev g v) : ∃ k, g k = some v := by
  obtain ⟨k, h⟩ := h
  exact ⟨k, h k (Nat.le_refl _)⟩
theorem Ev.mono {α : Type} {g : Nat → Option α} {v : α} {k0 : Nat} (h0 : g k0 = some v) (m : ∀ k, LeO (g k) (g (k + 1))) : Ev g v := by
  refine ⟨k0, fun k hk => ?_⟩
  induction k with
  | zero => obtain rfl : k0 = 0 := by omega
            exact h0
  | succ k ih =>
    by_cases e : k0 = k + 1
    · subst e; exact h0
    · exact m k v (ih (by omega))
theorem Ev.congr {α : Type} {g g' : Nat → Option α} {v : α} (h : Ev g v) (e : ∀ k, g' k = g k) : Ev g' v := by
  obtain ⟨k, h⟩ := h
  exact ⟨k, fun j hj => by rw [e]; exact h j hj⟩
theorem Ev.pos {α : Type} {c : Prop} [Decidable c] {g h : Nat → Option α} {v : α} (hc : c) (hg : Ev g v) : Ev (fun k => if c then g k else h k) v :=
  hg.congr fun _ => if_pos hc
theorem Ev.neg {α : Type} {c : Prop} [Decidable c] {g h : Nat → Option α} {v : α} (hc : ¬ c) (hg : Ev h v) : Ev (fun k => if c then g k else h k) v :=
  hg.congr fun _ => if_neg hc
theorem w64 {n : Int} (h : -9223372036854775808 ≤ n) (h' : n < 9223372036854775808) : wrap64 n = n := by unfold wrap64; omega
/-- Is a value right? -/
def vR (v : S23) : Bool :=
  if v.f0 = 0 then decide (v.f1 = 0) && (v.f2.toList == ([] : List UInt8))
  else if v.f0 = 1 then (decide (v.f1 = 0) || decide (v.f1 = 1)) && (v.f2.toList == ([] : List UInt8))
  else if v.f0 = 2 then (v.f2.toList == ([] : List UInt8))
  else if v.f0 = 3 then decide (v.f1 = 0) && decide ((v.f2.size : Int) ≤ 64) && Lib.validD v.f2.data.toList
  else if v.f0 = 4 then decide (v.f1 = 0) && decide ((v.f2.size : Int) ≤ 64)
  else false
theorem right_eq (v : S23) : value_Right.f v.f0 v.f1 v.f2 = some (vR v) := by
  unfold value_Right.f vR
  by_cases h0 : v.f0 = 0
  · by_cases h1 : v.f1 = 0 <;> simp [h0, h1]
  · by_cases h1 : v.f0 = 1
    · by_cases h2 : v.f1 = 0
      · simp [h1, h2]
      · by_cases h3 : v.f1 = 1 <;> simp [h1, h2, h3]
    · by_cases h2 : v.f0 = 2
      · simp [h2]
      · by_cases h3 : v.f0 = 3
        · by_cases h4 : v.f1 = 0
          · by_cases h5 : (v.f2.size : Int) ≤ 64
            · have : utf8_ValidString.f v.f2 = some (Lib.validD v.f2.data.toList) := by unfold utf8_ValidString.f; exact if_pos (by omega)
              simp [h3, h4, h5, this]
            · simp [h3, h4, h5]
          · simp [h3, h4]
        · by_cases h4 : v.f0 = 4
          · by_cases h5 : v.f1 = 0 <;> simp [h4, h5]
          · simp [h0, h1, h2, h3, h4]
theorem rdv (pre : List S23) (i : S23) (is : List S23) : rd_T23 (pre ++ i :: is) (pre.length : Int) = i := by
  unfold rd_T23
  simp
def zv : S23 := ⟨0, 0, ⟨#[]⟩⟩
theorem str_eq (a b : ByteArray) : (a.toList == b.toList) = decide (a = b) := by
  rw [ByteArray.toList_eq, ByteArray.toList_eq]
  by_cases h : a = b
  · subst h; simp
  · have : ¬ a.data = b.data := fun e => h (ByteArray.ext e)
    simp [h, this]
theorem str_nil (a : ByteArray) : (a.toList == ([] : List UInt8)) = decide (a = ⟨#[]⟩) := by
  have := str_eq a ⟨#[]⟩
  rw [ByteArray.toList_eq ⟨#[]⟩] at this
  exact this
deriving instance DecidableEq for S23
/-- Two values are the same. -/
theorem same_eq (a b : S23) : (a.f0 == b.f0 && (a.f1 == b.f1 && (a.f2.toList == b.f2.toList))) = decide (a = b) := by
  rw [str_eq]
  rw [Bool.eq_iff_iff]
  simp only [Bool.and_eq_true, beq_iff_eq, decide_eq_true_eq]
  constructor
  · rintro ⟨h1, h2, h3⟩
    cases a; cases b; simp_all
  · rintro rfl
    exact ⟨rfl, rfl, rfl⟩
theorem notsame_eq (a b : S23) : (!(a.f0 == b.f0) || (!(a.f1 == b.f1) || (!(a.f2.toList == b.f2.toList)))) = !decide (a = b) := by
  rw [← same_eq]
  cases (a.f0 == b.f0) <;> cases (a.f1 == b.f1) <;> cases (a.f2.toList == b.f2.toList) <;> rfl
def out (r : S23 × Int) : Int × Int × ByteArray × Int := (r.1.f0, r.1.f1, r.1.f2, r.2)
/-- Two whole numbers, or why not. -/
def intsS (a b : S23) : Bool × Int :=
  if (vR a && vR b) = false then (true, 1)
  else if a.f0 = 0 ∨ b.f0 = 0 then (true, 0)
  else if a.f0 = 2 ∧ b.f0 = 2 then (false, 0)
  else (true, 10)
theorem ints_ev (a b : S23) : Ev (fun k => value_ints.f k a.f0 a.f1 a.f2 b.f0 b.f1 b.f2) (intsS a b) := by
  unfold value_ints.f intsS
  rw [right_eq, right_eq]
  simp only [Option.bind_some]
  by_cases ha : vR a = true
  · apply Ev.pos ha
    apply Ev.succ
    simp only [value_ints.j0]
    by_cases hb : vR b = true
    · simp only [ha, hb, Bool.not_true, Bool.and_self]
      apply Ev.neg (by decide)
      simp only [if_neg (show ¬ (true = false) by decide)]
      by_cases h0 : a.f0 = 0
      · apply Ev.pos h0
        apply Ev.succ
        simp only [value_ints.j1]
        exact Ev.of (by simp [h0])
      · apply Ev.neg h0
        apply Ev.succ
        simp only [value_ints.j1]
        by_cases h1 : b.f0 = 0
        · exact Ev.of (by simp [h1])
        · by_cases h2 : a.f0 = 2
          · by_cases h3 : b.f0 = 2
            · exact Ev.of (by simp [h2, h3])
            · exact Ev.of (by simp [h1, h2, h3])
          · exact Ev.of (by simp [h0, h1, h2])
    · simp only [ha, hb, Bool.not_false, Bool.and_false]
      exact Ev.pos trivial (Ev.of (by simp))
  · apply Ev.neg ha
    apply Ev.succ
    simp only [value_ints.j0]
    exact Ev.of (by simp [ha])
def ofS (n : Int) (over : Bool) : S23 × Int := if over = true then (zv, 14) else (⟨2, n, ⟨#[]⟩⟩, 0)
theorem of_eq (n : Int) (b : Bool) : value_of.f n b = some (out (ofS n b)) := by
  cases b <;> rfl
def addS (a b : S23) : S23 × Int :=
  if (intsS a b).1 = true then (zv, (intsS a b).2)
  else if ((decide (a.f1 ≥ 0)) == (decide (b.f1 ≥ 0))) = true then ofS (wrap64 (a.f1 + b.f1)) ((decide ((wrap64 (a.f1 + b.f1)) ≥ 0)) != (decide (a.f1 ≥ 0)))
  else ofS (wrap64 (a.f1 + b.f1)) false
theorem add_ev (a b : S23) : Ev (fun k => value_Add.f k a.f0 a.f1 a.f2 b.f0 b.f1 b.f2) (out (addS a b)) := by
  unfold value_Add.f addS
  apply Ev.bind (ints_ev a b)
  by_cases h : (intsS a b).1 = true
  · simp only [if_pos h]
    exact Ev.pure _
  · simp only [if_neg h, of_eq, Option.bind_some]
    by_cases h2 : ((decide (a.f1 ≥ 0)) == (decide (b.f1 ≥ 0))) = true
    · simp only [if_pos h2]; exact Ev.pure _
    · simp only [if_neg h2]; exact Ev.pure _
def subS (a b : S23) : S23 × Int :=
  if (intsS a b).1 = true then (zv, (intsS a b).2)
  else if ((decide (a.f1 ≥ 0)) != (decide (b.f1 ≥ 0))) = true then ofS (wrap64 (a.f1 - b.f1)) ((decide ((wrap64 (a.f1 - b.f1)) ≥ 0)) != (decide (a.f1 ≥ 0)))
  else ofS (wrap64 (a.f1 - b.f1)) false
theorem sub_ev (a b : S23) : Ev (fun k => value_Sub.f k a.f0 a.f1 a.f2 b.f0 b.f1 b.f2) (out (subS a b)) := by
  unfold value_Sub.f subS
  apply Ev.bind (ints_ev a b)
  by_cases h : (intsS a b).1 = true
  · simp only [if_pos h]
    exact Ev.pure _
  · simp only [if_neg h, of_eq, Option.bind_some]
    by_cases h2 : ((decide (a.f1 ≥ 0)) != (decide (b.f1 ≥ 0))) = true
    · simp only [if_pos h2]; exact Ev.pure _
    · simp only [if_neg h2]; exact Ev.pure _
theorem neg_ev (a : S23) : Ev (fun k => value_Neg.f k a.f0 a.f1 a.f2) (out (subS ⟨2, 0, ⟨#[]⟩⟩ a)) := by
  unfold value_Neg.f
  exact Ev.bind (sub_ev ⟨2, 0, ⟨#[]⟩⟩ a) (Ev.pure _)
def mulS (a b : S23) : S23 × Int :=
  if (intsS a b).1 = true then (zv, (intsS a b).2)
  else if a.f1 = 0 ∨ b.f1 = 0 then ofS 0 false
  else if a.f1 = -9223372036854775808 ∨ b.f1 = -9223372036854775808 then (if a.f1 = 1 then ofS (-9223372036854775808) false else ofS (-9223372036854775808) (b.f1 != 1))
  else ofS (wrap64 (a.f1 * b.f1)) ((wrap64 (Int.tdiv (wrap64 (a.f1 * b.f1)) b.f1)) != a.f1)
theorem mul_ev (a b : S23) : Ev (fun k => value_Mul.f k a.f0 a.f1 a.f2 b.f0 b.f1 b.f2) (out (mulS a b)) := by
  unfold value_Mul.f mulS
  apply Ev.bind (ints_ev a b)
  by_cases h : (intsS a b).1 = true
  · simp only [if_pos h]
    exact Ev.pure _
  · simp only [if_neg h]
    have j0 : Ev (fun k => value_Mul.j0 k (decide (a.f1 = 0 ∨ b.f1 = 0)) a.f0 a.f1 a.f2 b.f0 b.f1 b.f2) (out (if a.f1 = 0 ∨ b.f1 = 0 then ofS 0 false
        else if a.f1 = -9223372036854775808 ∨ b.f1 = -9223372036854775808 then (if a.f1 = 1 then ofS (-9223372036854775808) false else ofS (-9223372036854775808) (b.f1 != 1))
        else ofS (wrap64 (a.f1 * b.f1)) ((wrap64 (Int.tdiv (wrap64 (a.f1 * b.f1)) b.f1)) != a.f1))) := by
      apply Ev.succ
      simp only [value_Mul.j0, of_eq, Option.bind_some]
      by_cases h0 : a.f1 = 0 ∨ b.f1 = 0
      · simp only [if_pos h0, decide_eq_true h0]
        exact Ev.pos trivial (Ev.pure _)
      · simp only [if_neg h0, decide_eq_false h0]
        apply Ev.neg (by decide)
        have j1 : Ev (fun k => value_Mul.j1 k (decide (a.f1 = -9223372036854775808 ∨ b.f1 = -9223372036854775808)) a.f0 a.f1 a.f2 b.f0 b.f1 b.f2) (out (if a.f1 = -9223372036854775808 ∨ b.f1 = -9223372036854775808 then (if a.f1 = 1 then ofS (-9223372036854775808) false else ofS (-9223372036854775808) (b.f1 != 1))
            else ofS (wrap64 (a.f1 * b.f1)) ((wrap64 (Int.tdiv (wrap64 (a.f1 * b.f1)) b.f1)) != a.f1))) := by
          apply Ev.succ
          simp only [value_Mul.j1, of_eq, Option.bind_some]
          by_cases h1 : a.f1 = -9223372036854775808 ∨ b.f1 = -9223372036854775808
          · simp only [if_pos h1, decide_eq_true h1]
            apply Ev.pos trivial
            by_cases h2 : a.f1 = 1
            · simp only [if_pos h2]; exact Ev.pure _
            · simp only [if_neg h2]; exact Ev.pure _
          · simp only [if_neg h1, decide_eq_false h1]
            apply Ev.neg (by decide)
            apply Ev.neg (by omega)
            exact Ev.pure _
        by_cases h1 : a.f1 = -9223372036854775808
        · apply Ev.pos h1
          rw [show decide (a.f1 = -9223372036854775808 ∨ b.f1 = -9223372036854775808) = true by simp [h1]] at j1
          exact j1
        · apply Ev.neg h1
          rw [show decide (a.f1 = -9223372036854775808 ∨ b.f1 = -9223372036854775808) = (b.f1 == -9223372036854775808) by rw [Bool.eq_iff_iff]; simp [h1]] at j1
          exact j1
    by_cases h0 : a.f1 = 0
    · apply Ev.pos h0
      rw [show decide (a.f1 = 0 ∨ b.f1 = 0) = true by simp [h0]] at j0
      exact j0
    · apply Ev.neg h0
      rw [show decide (a.f1 = 0 ∨ b.f1 = 0) = (b.f1 == 0) by rw [Bool.eq_iff_iff]; simp [h0]] at j0
      exact j0
def cmpI (a b : Int) : Int := if a < b then -1 else if a > b then 1 else 0
def cmpB (a b : ByteArray) : Int := if Op.bytesLess a.toList b.toList = true then -1 else if Op.bytesLess b.toList a.toList = true then 1 else 0
theorem cmpI_eq (a b : Int) : cmp_Compare_int.f a b = some (cmpI a b) := by
  unfold cmp_Compare_int.f cmpI cmp_isNaN_int.f
  simp only [bne_self_eq_false, Option.bind_some]
  by_cases h : a < b
  · simp [h]
  · by_cases h' : a > b <;> simp [h, h']
theorem cmpB_eq (a b : ByteArray) : cmp_Compare_string.f a b = some (cmpB a b) := by
  unfold cmp_Compare_string.f cmpB cmp_isNaN_string.f
  simp only [bne_self_eq_false, Option.bind_some]
  by_cases h : Op.bytesLess a.toList b.toList = true
  · simp [h]
  · by_cases h' : Op.bytesLess b.toList a.toList = true <;> simp [h, h']
def or3 (a b c : Int) : Int := if a = 0 then (if b = 0 then c else b) else a
theorem or_ev (a b c : Int) : Ev (fun k => cmp_Or_int.f k [a, b, c]) (or3 a b c) := by
  unfold cmp_Or_int.f or3
  apply Ev.succ
  simp only [cmp_Or_int.l0]
  apply Ev.pos (by simp)
  apply Ev.pos (by simp)
  apply Ev.pos (by simp)
  by_cases ha : a = 0
  · apply Ev.pos (show rd [a, b, c] 0 = 0 from ha)
    rw [if_pos ha, show wrap64 (0 + 1) = 1 from w64 (by omega) (by omega)]
    apply Ev.succ
    simp only [cmp_Or_int.l0]
    apply Ev.pos (by simp)
    apply Ev.pos (by simp)
    apply Ev.pos (by simp)
    by_cases hb : b = 0
    · apply Ev.pos (show rd [a, b, c] 1 = 0 from hb)
      rw [if_pos hb, show wrap64 (1 + 1) = 2 from w64 (by omega) (by omega)]
      apply Ev.succ
      simp only [cmp_Or_int.l0]
      apply Ev.pos (by simp)
      apply Ev.pos (by simp)
      apply Ev.pos (by simp)
      by_cases hc : c = 0
      · apply Ev.pos (show rd [a, b, c] 2 = 0 from hc)
        rw [show wrap64 (2 + 1) = 3 from w64 (by omega) (by omega)]
        apply Ev.succ
        simp only [cmp_Or_int.l0]
        apply Ev.neg (by simp)
        rw [hc]
        exact Ev.pure _
      · apply Ev.neg (show ¬ rd [a, b, c] 2 = 0 from hc)
        exact Ev.pure c
    · apply Ev.neg (show ¬ rd [a, b, c] 1 = 0 from hb)
      rw [if_neg hb]
      exact Ev.pure b
  · apply Ev.neg (show ¬ rd [a, b, c] 0 = 0 from ha)
    rw [if_neg ha]
    exact Ev.pure a
def cmpS (a b : S23) : Int := or3 (cmpI a.f0 b.f0) (cmpI a.f1 b.f1) (cmpB a.f2 b.f2)
theorem cmp_ev (a b : S23) : Ev (fun k => value_Compare.f k a.f0 a.f1 a.f2 b.f0 b.f1 b.f2) (cmpS a b) := by
  unfold value_Compare.f cmpS
  rw [cmpI_eq, cmpI_eq, cmpB_eq]
  simp only [Option.bind_some]
  exact Ev.bind (or_ev _ _ _) (Ev.pure _)
theorem vR_zv : vR zv = true := by
  unfold vR zv
  rw [str_nil]
  rfl
theorem vR_int (n : Int) : vR ⟨2, n, ⟨#[]⟩⟩ = true := by
  unfold vR
  simp only [str_nil]
  rfl
theorem vR_rd {xs : List S23} (h : ∀ v ∈ xs, vR v = true) (i : Int) : vR (rd_T23 xs i) = true := by
  unfold rd_T23
  rw [List.getD_eq_getElem?_getD]
  cases hg : xs[i.toNat]? with
  | none => exact vR_zv
  | some v => exact h v (List.mem_of_getElem? hg)
theorem right_of (n : Int) (b : Bool) : vR (ofS n b).1 = true := by
  unfold ofS
  split
  · exact vR_zv
  · exact vR_int n
theorem less_asym (a b : ByteArray) (h : Op.bytesLess a.toList b.toList = true) : Op.bytesLess b.toList a.toList = false := by
  have := xBytesLess_gt a.toList b.toList
  rw [h] at this
  simpa using this.symm
theorem cmpI_anti (a b : Int) : cmpI b a = - cmpI a b := by
  unfold cmpI
  by_cases h : a < b
  · have : ¬ b < a := by omega
    simp [h, this]
  · by_cases h' : b < a
    · simp [h, h']
    · simp [h, h']
theorem cmpB_anti (a b : ByteArray) : cmpB b a = - cmpB a b := by
  unfold cmpB
  by_cases h : Op.bytesLess a.toList b.toList = true
  · have := less_asym a b h
    simp [h, this]
  · by_cases h' : Op.bytesLess b.toList a.toList = true
    · simp [h, h']
    · simp [h, h']
theorem cmpS_anti (a b : S23) : cmpS b a = - cmpS a b := by
  unfold cmpS
  rw [cmpI_anti a.f0 b.f0, cmpI_anti a.f1 b.f1, cmpB_anti a.f2 b.f2]
  unfold or3
  by_cases h1 : cmpI a.f0 b.f0 = 0
  · by_cases h2 : cmpI a.f1 b.f1 = 0
    · simp [h1, h2]
    · simp [h1, h2]
  · simp [h1]
theorem awake_ev : Ev (fun k => corollarylaw01_awake.f k) true := Ev.mono (k0 := 40) (by decide +kernel) corollarylaw01_awake.mono
theorem zv_ok : vR zv = true := vR_zv
theorem null_shape {v : S23} (h : vR v = true) (h0 : v.f0 = 0) : v = zv := by
  unfold vR at h
  rw [if_pos h0, str_nil] at h
  simp at h
  cases v
  simp only at h h0
  unfold zv
  rw [h.1, h.2, h0]
theorem int_shape {v : S23} (h : vR v = true) (h0 : v.f0 = 2) : v = ⟨2, v.f1, ⟨#[]⟩⟩ := by
  unfold vR at h
  rw [if_neg (by omega), if_neg (by omega), if_pos h0, str_nil] at h
  simp at h
  cases v
  simp only at h h0
  rw [h, h0]
/-- Two values are numbers, or one is null, or there is an error. -/
theorem ints_cases (a b : S23) : ((∃ e, e ≠ 0 ∧ intsS a b = (true, e)) ∨ (vR a = true ∧ vR b = true ∧ (a = zv ∨ b = zv) ∧ intsS a b = (true, 0)) ∨ (∃ m n, a = ⟨2, m, ⟨#[]⟩⟩ ∧ b = ⟨2, n, ⟨#[]⟩⟩ ∧ intsS a b = (false, 0))) := by
  unfold intsS
  by_cases hr : (vR a && vR b) = false
  · rw [if_pos hr]; exact .inl ⟨1, by decide, rfl⟩
  · rw [if_neg hr]
    rw [Bool.not_eq_false, Bool.and_eq_true] at hr
    by_cases h0 : a.f0 = 0 ∨ b.f0 = 0
    · rw [if_pos h0]
      refine .inr (.inl ⟨hr.1, hr.2, ?_, rfl⟩)
      rcases h0 with h0 | h0
      · exact .inl (null_shape hr.1 h0)
      · exact .inr (null_shape hr.2 h0)
    · rw [if_neg h0]
      by_cases h2 : a.f0 = 2 ∧ b.f0 = 2
      · rw [if_pos h2]
        exact .inr (.inr ⟨_, _, int_shape hr.1 h2.1, int_shape hr.2 h2.2, rfl⟩)
      · rw [if_neg h2]; exact .inl ⟨10, by decide, rfl⟩
theorem ints_num (m n : Int) : intsS ⟨2, m, ⟨#[]⟩⟩ ⟨2, n, ⟨#[]⟩⟩ = (false, 0) := by
  unfold intsS
  rw [vR_int, vR_int]
  rfl
abbrev inR (n : Int) : Prop := -9223372036854775808 ≤ n ∧ n ≤ 9223372036854775807
theorem wf_inR {v : S23} (h : wf_T23 v) : inR v.f1 := bounds_i64 h.2.1
/-- The sum of two numbers. -/
theorem add_num (m n : Int) (hm : inR m) (hn : inR n) : addS ⟨2, m, ⟨#[]⟩⟩ ⟨2, n, ⟨#[]⟩⟩ = if inR (m + n) then (⟨2, m + n, ⟨#[]⟩⟩, 0) else (zv, 14) := by
  unfold addS
  rw [ints_num, if_neg (by decide)]
  simp only
  unfold inR at *
  by_cases h : -9223372036854775808 ≤ m + n ∧ m + n ≤ 9223372036854775807
  · rw [if_pos h, w64 (by omega) (by omega)]
    by_cases hs : ((decide (m ≥ 0)) == (decide (n ≥ 0))) = true
    · rw [if_pos hs]
      have : ((decide (m + n ≥ 0)) != (decide (m ≥ 0))) = false := by
        simp only [beq_iff_eq, decide_eq_decide] at hs
        simp only [bne_eq_false_iff_eq, decide_eq_decide]
        omega
      rw [this]; rfl
    · rw [if_neg hs]; rfl
  · rw [if_neg h]
    have hs : ((decide (m ≥ 0)) == (decide (n ≥ 0))) = true := by
      simp only [beq_iff_eq, decide_eq_decide]; omega
    rw [if_pos hs]
    have : ((decide (wrap64 (m + n) ≥ 0)) != (decide (m ≥ 0))) = true := by
      simp only [bne_iff_ne, ne_eq, decide_eq_decide]
      unfold wrap64
      omega
    rw [this]; rfl
theorem sub_num (m n : Int) (hm : inR m) (hn : inR n) : subS ⟨2, m, ⟨#[]⟩⟩ ⟨2, n, ⟨#[]⟩⟩ = if inR (m - n) then (⟨2, m - n, ⟨#[]⟩⟩, 0) else (zv, 14) := by
  unfold subS
  rw [ints_num, if_neg (by decide)]
  simp only
  unfold inR at *
  by_cases h : -9223372036854775808 ≤ m - n ∧ m - n ≤ 9223372036854775807
  · rw [if_pos h, w64 (by omega) (by omega)]
    by_cases hs : ((decide (m ≥ 0)) != (decide (n ≥ 0))) = true
    · rw [if_pos hs]
      have : ((decide (m - n ≥ 0)) != (decide (m ≥ 0))) = false := by
        simp only [bne_iff_ne, ne_eq, decide_eq_decide] at hs
        simp only [bne_eq_false_iff_eq, decide_eq_decide]
        omega
      rw [this]; rfl
    · rw [if_neg hs]; rfl
  · rw [if_neg h]
    have hs : ((decide (m ≥ 0)) != (decide (n ≥ 0))) = true := by
      simp only [bne_iff_ne, ne_eq, decide_eq_decide]; omega
    rw [if_pos hs]
    have : ((decide (wrap64 (m - n) ≥ 0)) != (decide (m ≥ 0))) = true := by
      simp only [bne_iff_ne, ne_eq, decide_eq_decide]
      unfold wrap64
      omega
    rw [this]; rfl
theorem of_ints_err {a b : S23} {e : Int} (h : intsS a b = (true, e)) : addS a b = (zv, e) ∧ subS a b = (zv, e) ∧ mulS a b = (zv, e) := by
  unfold addS subS mulS
  rw [h]
  exact ⟨rfl, rfl, rfl⟩
theorem nil_eq (s : ByteArray) (c d : Bool) : (c && (d && (s.toList == ([] : List UInt8)))) = (c && (d && (s.toList == (⟨#[]⟩ : ByteArray).toList))) := by
  rw [str_nil, str_eq]
theorem same_zv (v : S23) : (v.f0 == 0 && (v.f1 == 0 && (v.f2.toList == ([] : List UInt8)))) = decide (v = zv) := by
  rw [nil_eq]; exact same_eq v zv
/-! sums and products in either order -/
theorem ints_comm (a b : S23) : intsS b a = intsS a b := by
  unfold intsS
  rw [Bool.and_comm (vR b)]
  split
  · rfl
  · by_cases h0 : a.f0 = 0 ∨ b.f0 = 0
    · rw [if_pos h0, if_pos h0.symm]
    · rw [if_neg h0, if_neg (fun h => h0 h.symm)]
      by_cases h2 : a.f0 = 2 ∧ b.f0 = 2
      · rw [if_pos h2, if_pos h2.symm]
      · rw [if_neg h2, if_neg (fun h => h2 h.symm)]
/-- The product of two numbers. -/
theorem mul_num (m n : Int) (hm : inR m) (hn : inR n) : mulS ⟨2, m, ⟨#[]⟩⟩ ⟨2, n, ⟨#[]⟩⟩ = if inR (m * n) then (⟨2, m * n, ⟨#[]⟩⟩, 0) else (zv, 14) := by
  unfold mulS
  rw [ints_num, if_neg (by decide)]
  simp only
  by_cases h0 : m = 0 ∨ n = 0
  · rw [if_pos h0]
    have : m * n = 0 := by rcases h0 with rfl | rfl <;> simp
    rw [this, if_pos (by omega)]
    rfl
  · rw [if_neg h0]
    have h0' : m ≠ 0 ∧ n ≠ 0 := by omega
    by_cases hl : m = -9223372036854775808 ∨ n = -9223372036854775808
    · rw [if_pos hl]
      by_cases h1 : m = 1
      · rw [if_pos h1]
        subst h1
        have : n = -9223372036854775808 := by omega
        subst this
        rfl
      · rw [if_neg h1]
        by_cases h2 : n = 1
        · subst h2
          have : m = -9223372036854775808 := by omega
          subst this
          rfl
        · have hb : (n != 1) = true := by simpa using h2
          rw [hb]
          have : ¬ inR (m * n) := by
            intro hr
            rcases hl with rfl | rfl
            · have : n ≤ -1 ∨ 2 ≤ n := by omega
              omega
            · have : m ≤ -1 ∨ 2 ≤ m := by omega
              omega
          rw [if_neg this]
          rfl
    · rw [if_neg hl]
      by_cases hr : inR (m * n)
      · rw [if_pos hr, w64 (n := m * n) (by omega) (by omega), Int.mul_tdiv_cancel _ h0'.2, w64 (n := m) (by omega) (by omega), bne_self_eq_false]
        rfl
      · rw [if_neg hr]
        have key : wrap64 (Int.tdiv (wrap64 (m * n)) n) ≠ m := by
          intro e
          have hw : ∃ q : Int, q ≠ 0 ∧ wrap64 (m * n) = m * n + q * 18446744073709551616 ∧ inR (wrap64 (m * n)) := by
            refine ⟨-((m * n + 9223372036854775808) / 18446744073709551616), ?_, ?_, ?_⟩
            · omega
            · unfold wrap64; omega
            · unfold wrap64; omega
          obtain ⟨q, hq, hw, hin⟩ := hw
          generalize hW : wrap64 (m * n) = W at *
          have hd := Int.mul_tdiv_add_tmod W n
          have hm1 : (Int.tmod W n).natAbs < n.natAbs := by
            rw [Int.natAbs_tmod]
            exact Nat.mod_lt _ (by omega)
          have hdiv : (Int.tdiv W n).natAbs ≤ W.natAbs := Int.natAbs_tdiv_le_natAbs W n
          have hT : Int.tdiv W n = m := by
            have hA : -9223372036854775808 ≤ Int.tdiv W n ∧ Int.tdiv W n ≤ 9223372036854775808 := by omega
            by_cases h9 : Int.tdiv W n = 9223372036854775808
            · rw [h9] at e
              unfold wrap64 at e
              omega
            · rw [w64 (by omega) (by omega)] at e
              exact e
          rw [hT] at hd
          have : n * m = m * n := Int.mul_comm n m
          generalize m * n = P at *
          omega
        have kb : (wrap64 (Int.tdiv (wrap64 (m * n)) n) != m) = true := by simpa using key
        rw [kb]
        rfl
theorem add_comm_ (a b : S23) (ha : inR a.f1) (hb : inR b.f1) : addS b a = addS a b := by
  rcases ints_cases a b with ⟨e, _, hi⟩ | ⟨_, _, _, hi⟩ | ⟨m, n, ea, eb, hi⟩
  · rw [(of_ints_err hi).1, (of_ints_err ((ints_comm a b).trans hi)).1]
  · rw [(of_ints_err hi).1, (of_ints_err ((ints_comm a b).trans hi)).1]
  · subst ea eb
    rw [add_num _ _ ha hb, add_num _ _ hb ha, Int.add_comm n m]
theorem mul_comm_ (a b : S23) (ha : inR a.f1) (hb : inR b.f1) : mulS b a = mulS a b := by
  rcases ints_cases a b with ⟨e, _, hi⟩ | ⟨_, _, _, hi⟩ | ⟨m, n, ea, eb, hi⟩
  · rw [(of_ints_err hi).2.2, (of_ints_err ((ints_comm a b).trans hi)).2.2]
  · rw [(of_ints_err hi).2.2, (of_ints_err ((ints_comm a b).trans hi)).2.2]
  · subst ea eb
    rw [mul_num _ _ ha hb, mul_num _ _ hb ha, Int.mul_comm n m]
end Go.Proofs.YtmdnnpahmoaicaaDoor.Pure
