-- Plain laws of the printed functions (wip/l10).
import Derived.Test.YtiamgfpeffjcjaaDoorPureNot
import Derived.Test.YtiamgfpeffjcjaaDoorStatExprMirror
namespace Go.Proofs.YtiamgfpeffjcjaaDoor.Pure
open Go.ChangeShapes Go.WideShapes Go.ChangeAt Go.RowKit Go.Proofs.YtiamgfpeffjcjaaDoorW.PrintWords Go.Proofs.YtiamgfpeffjcjaaDoorW.PrintLast Go.Proofs.YtiamgfpeffjcjaaDoor.P Go.Proofs.YtiamgfpeffjcjaaDoor.Open
set_option linter.unusedVariables false
set_option linter.unusedSimpArgs false
/-! ExprMirror -/
theorem less_asym (a b : ByteArray) (h : Op.bytesLess a.toList b.toList = true) : Op.bytesLess b.toList a.toList = false := by
  have := xBytesLess_gt a.toList b.toList
  rw [h] at this
  simpa using this.symm
theorem cmpI_anti (a b : Int) : cmpI b a = - cmpI a b := by
  unfold cmpI
  by_cases h : a < b
  · have : ¬ b < a := by omega
    simp [h, this]
  · by_cases h' : b < a
    · simp [h, h']
    · simp [h, h']
theorem cmpB_anti (a b : ByteArray) : cmpB b a = - cmpB a b := by
  unfold cmpB
  by_cases h : Op.bytesLess a.toList b.toList = true
  · have := less_asym a b h
    simp [h, this]
  · by_cases h' : Op.bytesLess b.toList a.toList = true
    · simp [h, h']
    · simp [h, h']
theorem cmpS_anti (a b : S31) : cmpS b a = - cmpS a b := by
  unfold cmpS
  rw [cmpI_anti a.f0 b.f0, cmpI_anti a.f1 b.f1, cmpB_anti a.f2 b.f2]
  unfold or3
  by_cases h1 : cmpI a.f0 b.f0 = 0
  · by_cases h2 : cmpI a.f1 b.f1 = 0
    · simp [h1, h2]
    · simp [h1, h2]
  · simp [h1]
/-- Operations that are each other's when turned about. -/
def mirr (x y : Int) : Prop := (x = 9 ∧ y = 11) ∨ (x = 10 ∧ y = 12) ∨ (x = 7 ∧ y = 7) ∨ (x = 8 ∧ y = 8)
theorem compare_mirr {x y : Int} (h : mirr x y) (c : Int) : compareS y (-c) = compareS x c := by
  rcases h with ⟨rfl, rfl⟩ | ⟨rfl, rfl⟩ | ⟨rfl, rfl⟩ | ⟨rfl, rfl⟩ <;> simp [compareS] <;> (rw [Bool.eq_iff_iff]; simp) <;> omega
theorem fits_mirr {x y : Int} (h : mirr x y) (a b : Int) : fitsS y b a = fitsS x a b := by
  rcases h with ⟨rfl, rfl⟩ | ⟨rfl, rfl⟩ | ⟨rfl, rfl⟩ | ⟨rfl, rfl⟩ <;> simp [fitsS, asksS] <;> (rw [Bool.eq_iff_iff]; simp; omega)
theorem do_mirr {x y : Int} (h : mirr x y) (a b : S31) : doS y b a = doS x a b := by
  have hc := compare_mirr h (cmpS a b)
  rw [← cmpS_anti] at hc
  rcases h with ⟨rfl, rfl⟩ | ⟨rfl, rfl⟩ | ⟨rfl, rfl⟩ | ⟨rfl, rfl⟩ <;> simp [doS] <;> rw [hc] <;> by_cases h1 : a.f0 = 0 <;> by_cases h2 : b.f0 = 0 <;> simp [h1, h2]
def colI (n : Int) : S39 := ⟨1, n, ⟨0, 0, ⟨#[]⟩⟩⟩
def opI (n : Int) : S39 := ⟨n, 0, ⟨0, 0, ⟨#[]⟩⟩⟩
/-- What an operation of two columns comes to. -/
def twoS (x : Int) (a b : S31) : S31 × Int := if (vR a && vR b) = true then (if fitsS x a.f0 b.f0 = true then (if (doS x a b).2 = 0 then ((doS x a b).1, 0) else (zv, (doS x a b).2)) else (zv, 10)) else (zv, 1)
theorem mirr_op {x y : Int} (h : mirr x y) : (7 ≤ x ∧ x ≤ 12) ∧ (7 ≤ y ∧ y ≤ 12) := by
  rcases h with ⟨rfl, rfl⟩ | ⟨rfl, rfl⟩ | ⟨rfl, rfl⟩ | ⟨rfl, rfl⟩ <;> omega
theorem takes_two {x : Int} (h : 7 ≤ x ∧ x ≤ 12) : takesS x = 2 := by
  unfold takesS
  rw [if_neg (by omega), if_neg (by omega)]
theorem six {x : Int} (h : 7 ≤ x ∧ x ≤ 12) : x = 7 ∨ x = 8 ∨ x = 9 ∨ x = 10 ∨ x = 11 ∨ x = 12 := by omega
theorem formed_two {x : Int} (h : 7 ≤ x ∧ x ≤ 12) (m n : Int) (hm : m = 0 ∨ m = 1) (hn : n = 0 ∨ n = 1) : formedB 2 [colI m, colI n, opI x] = true := by
  rcases six h with rfl | rfl | rfl | rfl | rfl | rfl <;> rcases hm with rfl | rfl <;> rcases hn with rfl | rfl <;> decide +kernel
theorem eval_two {x : Int} (h : 7 ≤ x ∧ x ≤ 12) (a b : S31) : evalTop [colI 0, colI 1, opI x] [a, b] = twoS x a b := by
  unfold evalTop twoS
  rw [show ([a, b].length : Int) = 2 from rfl, formed_two h 0 1 (by simp) (by simp)]
  simp only [List.all_cons, List.all_nil, Bool.and_true]
  by_cases hv : (vR a && vR b) = true
  · rw [if_pos hv, if_pos hv]
    rcases six h with rfl | rfl | rfl | rfl | rfl | rfl <;> rfl
  · rw [if_neg hv, if_neg hv]
theorem eval_two' {x : Int} (h : 7 ≤ x ∧ x ≤ 12) (a b : S31) : evalTop [colI 1, colI 0, opI x] [a, b] = twoS x b a := by
  unfold evalTop twoS
  rw [show ([a, b].length : Int) = 2 from rfl, formed_two h 1 0 (by simp) (by simp)]
  simp only [List.all_cons, List.all_nil, Bool.and_true]
  rw [Bool.and_comm (vR b)]
  by_cases hv : (vR a && vR b) = true
  · rw [if_pos hv, if_pos hv]
    rcases six h with rfl | rfl | rfl | rfl | rfl | rfl <;> rfl
  · rw [if_neg hv, if_neg hv]
theorem two_mirr {x y : Int} (h : mirr x y) (a b : S31) : twoS y b a = twoS x a b := by
  unfold twoS
  rw [Bool.and_comm (vR b), fits_mirr h, do_mirr h]
/-- What a comparison comes to: a truth, or null, or an error. -/
theorem two_kinds {x : Int} (h : 7 ≤ x ∧ x ≤ 12) (a b : S31) : (twoS x a b).2 ≠ 0 ∧ (twoS x a b).1 = zv ∨ (twoS x a b).2 = 0 ∧ ((twoS x a b).1 = zv ∨ (twoS x a b).1 = tv true ∨ (twoS x a b).1 = tv false) := by
  unfold twoS
  split
  · split
    · have hd : (doS x a b).2 = 0 ∧ ((doS x a b).1 = zv ∨ (doS x a b).1 = tv true ∨ (doS x a b).1 = tv false) := by
        unfold doS
        rw [if_neg (by omega), if_neg (by omega), if_neg (by omega), if_neg (by omega), if_neg (by omega), if_neg (by omega)]
        split
        · exact ⟨rfl, .inl rfl⟩
        · rw [if_neg (by omega)]
          refine ⟨rfl, .inr ?_⟩
          show tv (compareS x (cmpS a b)) = tv true ∨ tv (compareS x (cmpS a b)) = tv false
          cases compareS x (cmpS a b)
          · exact .inr rfl
          · exact .inl rfl
      rw [if_pos hd.1]
      exact .inr ⟨rfl, hd.2⟩
    · exact .inl ⟨by decide, rfl⟩
  · exact .inl ⟨by decide, rfl⟩
theorem evalTop_notnot {x : Int} (h : 7 ≤ x ∧ x ≤ 12) (a b : S31) : evalTop ([colI 0, colI 1, opI x] ++ [notI] ++ [notI]) [a, b] = twoS x a b := by
  rw [evalTop_not _ _ (by simp), evalTop_not _ _ (by simp), eval_two h]
  rcases two_kinds h a b with ⟨h0, hz⟩ | ⟨h0, hv⟩
  · simp only [if_neg h0]
  · have e : twoS x a b = ((twoS x a b).1, 0) := by rw [← h0]
    rw [if_pos h0]
    rcases hv with hv | hv | hv
    · rw [hv] at e ⊢; rw [e]; rfl
    · rw [hv] at e ⊢; rw [e]; rfl
    · rw [hv] at e ⊢; rw [e]; rfl
def opsL : List S36 := [⟨9, 11⟩, ⟨10, 12⟩, ⟨7, 7⟩, ⟨8, 8⟩]
theorem mirror_ev (a b : S31) : ∀ (is pre : List S36), opsL = pre ++ is → Ev (fun k => corollarylaw10_ExprMirror.l0 k [a, b] opsL (opsL.length : Int) (pre.length : Int)) true
  | [], pre, e => by
    apply Ev.succ
    simp only [corollarylaw10_ExprMirror.l0]
    apply Ev.neg (by rw [e]; simp)
    exact Ev.bind awake_ev (Ev.pure _)
  | i :: is, pre, e => by
    have hl : opsL.length = pre.length + (is.length + 1) := by rw [e]; simp
    have hl4 : opsL.length = 4 := rfl
    have hr : rd_T36 opsL (pre.length : Int) = i := by rw [e]; unfold rd_T36; simp
    have hi : i ∈ opsL := by rw [e]; simp
    have hm : mirr i.f0 i.f1 := by
      simp only [opsL, List.mem_cons, List.mem_nil_iff, or_false] at hi
      unfold mirr
      rcases hi with rfl | rfl | rfl | rfl <;> simp
    have hop := mirr_op hm
    apply Ev.succ
    simp only [corollarylaw10_ExprMirror.l0]
    rw [hr]
    apply Ev.pos (by omega)
    apply Ev.pos (by omega)
    apply Ev.pos (by omega)
    have e1 : Ev (fun k => expr_Eval.f k [colI 0, colI 1, opI i.f0] [a, b]) (out (twoS i.f0 a b)) := by
      rw [← eval_two hop.1]; exact Eval_ev _ _ (by simp) (by simp)
    have e2 : Ev (fun k => expr_Eval.f k [colI 1, colI 0, opI i.f1] [a, b]) (out (twoS i.f0 a b)) := by
      rw [← two_mirr hm, ← eval_two' hop.2]; exact Eval_ev _ _ (by simp) (by simp)
    have e3 : Ev (fun k => expr_Eval.f k [colI 0, colI 1, opI i.f0, notI, notI] [a, b]) (out (twoS i.f0 a b)) := by
      rw [← evalTop_notnot hop.1]; exact Eval_ev _ _ (by simp) (by simp)
    refine Ev.bind e1 ?_
    refine Ev.bind e2 ?_
    refine Ev.neg (by rw [show (!((out (twoS i.f0 a b)).1 == (out (twoS i.f0 a b)).1) || (!((out (twoS i.f0 a b)).2.1 == (out (twoS i.f0 a b)).2.1) || (!((out (twoS i.f0 a b)).2.2.1.toList == (out (twoS i.f0 a b)).2.2.1.toList)))) = _ from notsame_eq (twoS i.f0 a b).1 (twoS i.f0 a b).1]; simp) ?_
    rw [bne_self_eq_false]
    apply Ev.succ
    simp only [corollarylaw10_ExprMirror.j1]
    apply Ev.neg (by decide)
    refine Ev.bind e3 ?_
    refine Ev.neg (by rw [show (!((out (twoS i.f0 a b)).1 == (out (twoS i.f0 a b)).1) || (!((out (twoS i.f0 a b)).2.1 == (out (twoS i.f0 a b)).2.1) || (!((out (twoS i.f0 a b)).2.2.1.toList == (out (twoS i.f0 a b)).2.2.1.toList)))) = _ from notsame_eq (twoS i.f0 a b).1 (twoS i.f0 a b).1]; simp) ?_
    apply Ev.pos rfl
    rw [show wrap64 ((pre.length : Int) + 1) = ((pre ++ [i]).length : Int) by rw [w64 (by omega) (by omega)]; simp]
    exact mirror_ev a b is (pre ++ [i]) (by rw [e]; simp)
theorem ExprMirror_pure : Stat.ExprMirror := by
  intro a0 a1 a2 b0 b1 b2 _ _
  apply Ev.get
  unfold corollarylaw10_ExprMirror.f
  simp only [Option.bind_some]
  exact mirror_ev ⟨a0, a1, a2⟩ ⟨b0, b1, b2⟩ opsL [] (by simp)
end Go.Proofs.YtiamgfpeffjcjaaDoor.Pure
