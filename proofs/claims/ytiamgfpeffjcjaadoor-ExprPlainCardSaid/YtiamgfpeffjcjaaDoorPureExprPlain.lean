-- Plain laws of the printed functions (wip/l10).
import Derived.Test.YtiamgfpeffjcjaaDoorPureRef
import Derived.Test.YtiamgfpeffjcjaaDoorStatExprPlain
namespace Go.Proofs.YtiamgfpeffjcjaaDoor.Pure
open Go.ChangeShapes Go.WideShapes Go.ChangeAt Go.RowKit Go.Proofs.YtiamgfpeffjcjaaDoorW.PrintWords Go.Proofs.YtiamgfpeffjcjaaDoorW.PrintLast Go.Proofs.YtiamgfpeffjcjaaDoor.P Go.Proofs.YtiamgfpeffjcjaaDoor.Open
set_option linter.unusedVariables false
set_option linter.unusedSimpArgs false
def colI (n : Int) : S39 := ⟨1, n, ⟨0, 0, ⟨#[]⟩⟩⟩
def valI (v : S31) : S39 := ⟨2, 0, v⟩
def nullI : S39 := ⟨16, 0, ⟨0, 0, ⟨#[]⟩⟩⟩
theorem formed_val (n : Int) (v : S31) (hv : vR v = true) : formedB n [valI v] = true := by
  unfold formedB
  simp only [formedS]
  rw [show badI n (valI v) = false by simp [badI, valI, hv], if_neg (by decide), show takesS (valI v).f0 = 0 from rfl]
  rfl
theorem eval_val (v : S31) (row : List S31) (hv : vR v = true) (hr : row.all vR = true) : evalTop [valI v] row = (v, 0) := by
  unfold evalTop
  rw [hr, formed_val _ v hv]
  rfl
theorem formed_null (n : Int) (v : S31) (hv : vR v = true) : formedB n [valI v, nullI] = true := by
  unfold formedB
  simp only [formedS]
  rw [show badI n (valI v) = false by simp [badI, valI, hv], if_neg (by decide), show takesS (valI v).f0 = 0 from rfl, show badI n nullI = false by simp [badI, nullI], show takesS nullI.f0 = 1 from rfl]
  rfl
theorem eval_null (v : S31) (row : List S31) (hv : vR v = true) (hr : row.all vR = true) : evalTop [valI v, nullI] row = (tv (v.f0 == 0), 0) := by
  unfold evalTop
  rw [hr, formed_null _ v hv]
  rfl
theorem eval_col (n : Int) (row : List S31) (hr : row.all vR = true) : evalTop [colI n] row = if n < 0 ∨ n ≥ (row.length : Int) then (zv, 1) else (rd_T31 row n, 0) := by
  unfold evalTop
  by_cases h : n < 0 ∨ n ≥ (row.length : Int)
  · rw [if_pos h, if_neg]
    have : badI (row.length : Int) (colI n) = true := by
      rcases h with h | h <;> simp [badI, colI, h]
    simp [formedB, formedS, this]
  · rw [if_neg h]
    have : badI (row.length : Int) (colI n) = false := by
      have h1 : ¬ n < 0 := fun e => h (.inl e)
      have h2 : ¬ (row.length : Int) ≤ n := fun e => h (.inr e)
      simp [badI, colI, h1, h2]
    have hf : formedB (row.length : Int) [colI n] = true := by
      unfold formedB
      simp only [formedS]
      rw [this, if_neg (by decide), show takesS (colI n).f0 = 0 from rfl]
      rfl
    rw [hr, hf]
    rfl
theorem plain_l0 (v : S31) (row : List S31) (n : Int) (hv : vR v = true) (hl : (row.length : Int) ≤ 40) (hw : ∀ x ∈ row, wf_T31 x)
    (last : row.all vR = true → Ev (fun k => corollarylaw10_ExprPlain.l0 k row n row (row.length : Int) (row.length : Int) v.f0 v.f1 v.f2) true) : ∀ (is pre : List S31), row = pre ++ is → pre.all vR = true →
    Ev (fun k => corollarylaw10_ExprPlain.l0 k row n row (row.length : Int) (pre.length : Int) v.f0 v.f1 v.f2) true
  | [], pre, e, hp => by
    have e' : row = pre := by rw [e]; simp
    have := last (by rw [e']; exact hp)
    rw [← e']
    exact this
  | i :: is, pre, e, hp => by
    have hlen : row.length = pre.length + (is.length + 1) := by rw [e]; simp
    have hr : rd_T31 row (pre.length : Int) = i := by rw [e]; exact rd31 pre i is
    apply Ev.succ
    simp only [corollarylaw10_ExprPlain.l0]
    rw [hr]
    apply Ev.pos (by omega)
    apply Ev.pos (by omega)
    apply Ev.pos (by omega)
    refine Ev.bind (refRight_ev i (wfS (hw i (by rw [e]; simp)))) ?_
    by_cases hi : vR i = true
    · apply Ev.pos hi
      rw [show wrap64 ((pre.length : Int) + 1) = ((pre ++ [i]).length : Int) by rw [w64 (by omega) (by omega)]; simp]
      exact plain_l0 v row n hv hl hw last is (pre ++ [i]) (by rw [e]; simp) (by simp [hi]; simpa using hp)
    · exact Ev.neg hi (Ev.bind awake_ev (Ev.pure _))
theorem ExprPlain_pure : Stat.ExprPlain := by
  intro a0 a1 a2 row n hv hr hn
  apply Ev.get
  unfold corollarylaw10_ExprPlain.f
  have hvR := refRight_ev ⟨a0, a1, a2⟩ (wfS hv)
  have hv' : (⟨a0, a1, a2⟩ : S31) = ⟨a0, a1, a2⟩ := rfl
  revert hvR
  generalize hV : (⟨a0, a1, a2⟩ : S31) = v
  have f0 : a0 = v.f0 := by rw [← hV]
  have f1 : a1 = v.f1 := by rw [← hV]
  have f2 : a2 = v.f2 := by rw [← hV]
  rw [f0, f1, f2]
  intro hvR
  by_cases h1 : (row.length : Int) > 40
  · apply Ev.pos h1
    apply Ev.succ
    simp only [corollarylaw10_ExprPlain.j0]
    exact Ev.pos trivial (Ev.bind awake_ev (Ev.pure _))
  · apply Ev.neg h1
    refine Ev.bind hvR ?_
    apply Ev.succ
    simp only [corollarylaw10_ExprPlain.j0]
    by_cases h2 : vR v = true
    · apply Ev.neg (by simp [h2])
      refine plain_l0 v row n h2 (by omega) hr.2 (fun ha => ?_) row [] (by simp) (by simp)
      apply Ev.succ
      simp only [corollarylaw10_ExprPlain.l0]
      apply Ev.neg (by omega)
      have e1 := Eval_ev [valI v] row (by simp) (by omega)
      have e2 := Eval_ev [valI v, nullI] row (by simp) (by omega)
      have e3 := Eval_ev [colI n] row (by simp) (by omega)
      rw [eval_val v row h2 ha] at e1
      rw [eval_null v row h2 ha] at e2
      rw [eval_col n row ha] at e3
      refine Ev.bind e1 ?_
      refine Ev.bind e2 ?_
      refine Ev.neg (by rw [show (!((out (v, 0)).1 == v.f0) || (!((out (v, 0)).2.1 == v.f1) || (!((out (v, 0)).2.2.1.toList == v.f2.toList)))) = _ from notsame_eq v v]; simp) ?_
      apply Ev.pos rfl
      apply Ev.pos rfl
      have k1 : (out (tv (v.f0 == 0), 0)).1 = 1 := by cases (v.f0 == 0) <;> rfl
      apply Ev.pos k1
      have k2 : (((out (tv (v.f0 == 0), 0)).2.1 == 1) != (v.f0 == 0)) = false := by cases (v.f0 == 0) <;> rfl
      rw [k2]
      apply Ev.succ
      simp only [corollarylaw10_ExprPlain.j2]
      apply Ev.neg (by decide)
      refine Ev.bind e3 ?_
      have j3 : Ev (fun k => corollarylaw10_ExprPlain.j3 k row n (out (if n < 0 ∨ n ≥ (row.length : Int) then (zv, 1) else (rd_T31 row n, 0))).2.2.2 (decide (n < 0 ∨ n ≥ (row.length : Int))) (out (if n < 0 ∨ n ≥ (row.length : Int) then (zv, 1) else (rd_T31 row n, 0))).1 (out (if n < 0 ∨ n ≥ (row.length : Int) then (zv, 1) else (rd_T31 row n, 0))).2.1 (out (if n < 0 ∨ n ≥ (row.length : Int) then (zv, 1) else (rd_T31 row n, 0))).2.2.1) true := by
        apply Ev.succ
        simp only [corollarylaw10_ExprPlain.j3]
        by_cases hN : n < 0 ∨ n ≥ (row.length : Int)
        · simp only [if_pos hN, decide_eq_true hN]
          exact Ev.pos trivial (Ev.pos rfl (Ev.bind awake_ev (Ev.pure _)))
        · simp only [if_neg hN, decide_eq_false hN]
          apply Ev.neg (by decide)
          apply Ev.pos (by omega)
          apply Ev.pos (by omega)
          refine Ev.pos ((same_eq (rd_T31 row n) (rd_T31 row n)).trans (decide_eq_true rfl)) ?_
          exact Ev.pos rfl (Ev.bind awake_ev (Ev.pure _))
      by_cases c : n < 0
      · apply Ev.pos c
        rw [show decide (n < 0 ∨ n ≥ (row.length : Int)) = true by simp [c]] at j3
        exact j3
      · apply Ev.neg c
        rw [show decide (n < 0 ∨ n ≥ (row.length : Int)) = decide (n ≥ (row.length : Int)) by simp [c]] at j3
        exact j3
    · exact Ev.pos (by simp [h2]) (Ev.bind awake_ev (Ev.pure _))
end Go.Proofs.YtiamgfpeffjcjaaDoor.Pure
