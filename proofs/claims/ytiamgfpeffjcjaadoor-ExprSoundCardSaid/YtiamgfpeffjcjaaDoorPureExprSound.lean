-- Plain laws of the printed functions (wip/l10).
import Derived.Test.YtiamgfpeffjcjaaDoorPureRef
import Derived.Test.YtiamgfpeffjcjaaDoorStatExprSound
namespace Go.Proofs.YtiamgfpeffjcjaaDoor.Pure
open Go.ChangeShapes Go.WideShapes Go.ChangeAt Go.RowKit Go.Proofs.YtiamgfpeffjcjaaDoorW.PrintWords Go.Proofs.YtiamgfpeffjcjaaDoorW.PrintLast Go.Proofs.YtiamgfpeffjcjaaDoor.P Go.Proofs.YtiamgfpeffjcjaaDoor.Open
set_option linter.unusedVariables false
set_option linter.unusedSimpArgs false
/-! ExprSound: the kind of an expression -/
def typeS (kinds : List Int) : List S39 → List Int → Int × Int
  | [], st => (rd st 0, 0)
  | i :: is, st =>
    if i.f0 = 1 then typeS kinds is (st ++ [rd kinds i.f1])
    else if i.f0 = 2 then typeS kinds is (st ++ [i.f2.f0])
    else if fitsS i.f0 (rd st ((st.length : Int) - takesS i.f0)) (rd st ((st.length : Int) - 1)) = true then typeS kinds is (st.take ((st.length : Int) - takesS i.f0).toNat ++ [(asksS i.f0).2])
    else (0, 10)
theorem type_ev (kinds : List Int) (hrow : (kinds.length : Int) ≤ 9223372036854775807) (code : List S39) (hc : (code.length : Int) ≤ 32) : ∀ (is pre : List S39) (st : List Int) (e : Int), code = pre ++ is → st.length ≤ pre.length → formedS (kinds.length : Int) is (st.length : Int) = some e → 0 < e →
    Ev (fun k => expr_Type.l0 k kinds st code (code.length : Int) (pre.length : Int)) (typeS kinds is st)
  | [], pre, st, e, ec, hd, hf, he => by
    simp only [formedS, Option.some.injEq] at hf
    apply Ev.succ
    simp only [expr_Type.l0, typeS]
    apply Ev.neg (by rw [ec]; simp)
    exact Ev.pos (by omega) (Ev.pure _)
  | i :: is, pre, st, e, ec, hd, hf, he => by
    have hl : code.length = pre.length + (is.length + 1) := by rw [ec]; simp
    have hr : rd_T39 code (pre.length : Int) = i := by rw [ec]; exact rd39 pre i is
    have e2 : wrap64 ((pre.length : Int) + 1) = ((pre ++ [i]).length : Int) := by rw [w64 (by omega) (by omega)]; simp
    have ec' : code = (pre ++ [i]) ++ is := by rw [ec]; simp
    simp only [formedS] at hf
    have hb : ¬ badI (kinds.length : Int) i = true := by intro hb; rw [if_pos hb] at hf; cases hf
    rw [if_neg hb] at hf
    have ht : ¬ (st.length : Int) < takesS i.f0 := by intro ht; rw [if_pos ht] at hf; cases hf
    rw [if_neg ht] at hf
    have tr := takes_range i.f0
    apply Ev.succ
    simp only [expr_Type.l0]
    rw [hr]
    apply Ev.pos (by omega)
    apply Ev.pos (by omega)
    apply Ev.pos (by omega)
    simp only [typeS]
    by_cases h1 : i.f0 = 1
    · have hn : 0 ≤ i.f1 ∧ i.f1 < (kinds.length : Int) := by
        simp [badI, h1] at hb
        omega
      rw [if_pos h1]
      apply Ev.pos h1
      apply Ev.pos hn.1
      apply Ev.pos hn.2
      apply Ev.pos (by omega)
      rw [e2]
      have ht1 : takesS i.f0 = 0 := by simp [takesS, h1]
      exact type_ev kinds hrow code hc is (pre ++ [i]) (st ++ [rd kinds i.f1]) e ec' (by simp; omega) (by rw [← hf, ht1]; simp) he
    · rw [if_neg h1]
      apply Ev.neg h1
      by_cases h2 : i.f0 = 2
      · rw [if_pos h2]
        apply Ev.pos h2
        apply Ev.pos (by omega)
        rw [e2]
        have ht1 : takesS i.f0 = 0 := by simp [takesS, h2]
        exact type_ev kinds hrow code hc is (pre ++ [i]) (st ++ [i.f2.f0]) e ec' (by simp; omega) (by rw [← hf, ht1]; simp) he
      · rw [if_neg h2]
        apply Ev.neg h2
        have tp := takes_pos i.f0 h1 h2
        apply Ev.bind (takes_ev i.f0)
        rw [show wrap64 ((st.length : Int) - takesS i.f0) = (st.length : Int) - takesS i.f0 from w64 (by omega) (by omega), show wrap64 ((st.length : Int) - 1) = (st.length : Int) - 1 from w64 (by omega) (by omega), fits_eq]
        simp only [Option.bind_some]
        apply Ev.pos (by omega)
        apply Ev.pos (by omega)
        apply Ev.pos (by omega)
        apply Ev.pos (by omega)
        by_cases hfit : fitsS i.f0 (rd st ((st.length : Int) - takesS i.f0)) (rd st ((st.length : Int) - 1)) = true
        · rw [if_pos hfit]
          apply Ev.pos hfit
          rw [asks_eq]
          simp only [Option.bind_some]
          apply Ev.pos (by omega)
          have hlen : (st.take ((st.length : Int) - takesS i.f0).toNat).length = st.length - (takesS i.f0).toNat := by rw [List.length_take]; omega
          apply Ev.pos (by omega)
          rw [e2]
          refine type_ev kinds hrow code hc is (pre ++ [i]) _ e ec' ?_ ?_ he
          · rw [List.length_append, List.length_append, hlen]; simp; omega
          · rw [← hf, List.length_append, hlen]; congr 1; simp; omega
        · rw [if_neg hfit]
          apply Ev.neg hfit
          exact Ev.pure _
theorem rdi (pre : List Int) (i : Int) (is : List Int) : rd (pre ++ i :: is) (pre.length : Int) = i := by
  unfold rd
  simp
def kindBad (k : Int) : Bool := decide (k < 1) || decide (k > 4)
theorem kinds_ev (kinds : List Int) (hrow : (kinds.length : Int) ≤ 9223372036854775807) : ∀ (is pre : List Int), kinds = pre ++ is →
    Ev (fun k => slices_IndexFunc_int_int_at_expr_Type_1.l0 k kinds (kinds.length : Int) (pre.length : Int)) (if is.any kindBad = true then ((pre.length : Int) + is.findIdx kindBad) else (-1))
  | [], pre, e => by
    apply Ev.succ
    simp only [slices_IndexFunc_int_int_at_expr_Type_1.l0]
    apply Ev.neg (by rw [e]; simp)
    exact Ev.of (by simp)
  | i :: is, pre, e => by
    have hl : kinds.length = pre.length + (is.length + 1) := by rw [e]; simp
    have hr : rd kinds (pre.length : Int) = i := by rw [e]; exact rdi pre i is
    have e1 : expr_Type_1.f i = some (kindBad i) := by
      unfold expr_Type_1.f kindBad
      by_cases h : i < 1
      · simp [h]
      · simp [h]
    apply Ev.succ
    simp only [slices_IndexFunc_int_int_at_expr_Type_1.l0]
    apply Ev.pos (by omega)
    apply Ev.pos (by omega)
    apply Ev.pos (by omega)
    rw [hr, e1]
    simp only [Option.bind_some]
    by_cases hv : kindBad i = true
    · apply Ev.pos hv
      exact Ev.of (by simp [hv, List.findIdx_cons])
    · apply Ev.neg hv
      rw [show wrap64 ((pre.length : Int) + 1) = ((pre ++ [i]).length : Int) by rw [w64 (by omega) (by omega)]; simp]
      have ih := kinds_ev kinds hrow is (pre ++ [i]) (by rw [e]; simp)
      have : (if (i :: is).any kindBad = true then ((pre.length : Int) + (i :: is).findIdx kindBad) else (-1 : Int)) = (if is.any kindBad = true then (((pre ++ [i]).length : Int) + is.findIdx kindBad) else (-1 : Int)) := by
        by_cases ha : is.any kindBad = true
        · rw [if_pos (by rw [List.any_cons, ha, Bool.or_true]), if_pos ha, List.findIdx_cons]
          simp [hv]
          omega
        · rw [if_neg (by rw [List.any_cons]; simp [hv]; simpa using ha), if_neg ha]
      rw [this]
      exact ih
def typeTop (code : List S39) (kinds : List Int) : Int × Int := if (!kinds.any kindBad && formedB (kinds.length : Int) code) = true then typeS kinds code [] else (0, 1)
theorem Type_ev (code : List S39) (kinds : List Int) (hc : (code.length : Int) ≤ 9223372036854775807) (hrow : (kinds.length : Int) ≤ 9223372036854775807) : Ev (fun k => expr_Type.f k code kinds) (typeTop code kinds) := by
  unfold expr_Type.f typeTop
  have h1 : Ev (fun k => slices_ContainsFunc_int_int_at_expr_Type_1.f k kinds) (kinds.any kindBad) := by
    unfold slices_ContainsFunc_int_int_at_expr_Type_1.f slices_IndexFunc_int_int_at_expr_Type_1.f
    refine Ev.bind (kinds_ev kinds hrow kinds [] (by simp)) ?_
    by_cases ha : kinds.any kindBad = true
    · rw [if_pos ha, ha]
      exact Ev.of (by rw [decide_eq_true (by first | omega | (simp; done) | (simp; omega))])
    · rw [if_neg ha]
      rw [Bool.not_eq_true] at ha
      rw [ha]
      exact Ev.of rfl
  refine Ev.bind h1 ?_
  by_cases ha : kinds.any kindBad = true
  · apply Ev.pos ha
    apply Ev.succ
    simp only [expr_Type.j0]
    rw [if_neg (by simp [ha])]
    exact Ev.pos trivial (Ev.pure _)
  · apply Ev.neg ha
    rw [Bool.not_eq_true] at ha
    apply Ev.bind (formed_f (kinds.length : Int) code hc)
    apply Ev.succ
    simp only [expr_Type.j0]
    rw [ha]
    by_cases hf : formedB (kinds.length : Int) code = true
    · rw [if_pos (by simp [hf])]
      apply Ev.neg (by simp [hf])
      have hS := formedB_some hf
      exact type_ev kinds hrow code (by omega) code [] [] 1 (by simp) (by simp) hS.1 (by omega)
    · rw [if_neg (by simp [hf])]
      apply Ev.pos (by simpa using hf)
      exact Ev.pure _
/-- A value is null or of the kind. -/
def Of (v : S31) (k : Int) : Prop := v.f0 = 0 ∨ v.f0 = k
theorem of_zv (k : Int) : Of zv k := .inl rfl
theorem of_tv (b : Bool) : Of (tv b) 1 := by cases b <;> exact .inr rfl
theorem of_ofS (n : Int) (b : Bool) : (ofS n b).2 = 14 ∨ ((ofS n b).2 = 0 ∧ Of (ofS n b).1 2) := by
  cases b
  · exact .inr ⟨rfl, .inr rfl⟩
  · exact .inl rfl
theorem ints_fit {a b : S31} (ha : vR a = true) (hb : vR b = true) (h1 : Of a 2) (h2 : Of b 2) : intsS a b = (true, 0) ∨ intsS a b = (false, 0) := by
  unfold intsS Of at *
  rw [ha, hb, if_neg (by decide)]
  by_cases h : a.f0 = 0 ∨ b.f0 = 0
  · rw [if_pos h]; exact .inl rfl
  · rw [if_neg h, if_pos (by omega)]; exact .inr rfl
theorem do_kind {op : Int} (a b : S31) (ha : vR a = true) (hb : vR b = true) (hop : 3 ≤ op ∧ op ≤ 16) (hf : fitsS op a.f0 b.f0 = true) :
    (doS op a b).2 = 14 ∨ ((doS op a b).2 = 0 ∧ Of (doS op a b).1 (asksS op).2) := by
  by_cases h6 : op ≤ 6
  · have asE : asksS op = (2, 2) := by unfold asksS; rw [if_pos h6]
    rw [asE]
    unfold fitsS at hf
    rw [asE, if_neg (by omega), if_neg (by decide)] at hf
    simp only [Bool.and_eq_true, Bool.or_eq_true, decide_eq_true_eq] at hf
    have o1 : Of a 2 := by unfold Of; omega
    have o2 : Of b 2 := by unfold Of; omega
    have r0 : vR ⟨2, 0, ⟨#[]⟩⟩ = true := vR_int 0
    have o0 : Of ⟨2, 0, ⟨#[]⟩⟩ 2 := .inr rfl
    have sub : ∀ x y : S31, vR x = true → vR y = true → Of x 2 → Of y 2 → (subS x y).2 = 14 ∨ ((subS x y).2 = 0 ∧ Of (subS x y).1 2) := by
      intro x y rx ry ox oy
      unfold subS
      rcases ints_fit rx ry ox oy with e | e
      · rw [e, if_pos rfl]; exact .inr ⟨rfl, of_zv 2⟩
      · rw [e, if_neg (by decide)]
        split <;> exact of_ofS _ _
    unfold doS
    by_cases c3 : op = 3
    · rw [if_pos c3]
      unfold addS
      rcases ints_fit ha hb o1 o2 with e | e
      · rw [e, if_pos rfl]; exact .inr ⟨rfl, of_zv 2⟩
      · rw [e, if_neg (by decide)]
        split <;> exact of_ofS _ _
    · rw [if_neg c3]
      by_cases c4 : op = 4
      · rw [if_pos c4]; exact sub a b ha hb o1 o2
      · rw [if_neg c4]
        by_cases c5 : op = 5
        · rw [if_pos c5]
          unfold mulS
          rcases ints_fit ha hb o1 o2 with e | e
          · rw [e, if_pos rfl]; exact .inr ⟨rfl, of_zv 2⟩
          · rw [e, if_neg (by decide)]
            split
            · exact of_ofS _ _
            · split
              · split <;> exact of_ofS _ _
              · exact of_ofS _ _
        · rw [if_neg c5, if_pos (by omega)]
          exact sub _ a r0 ha o0 o1
  · have asE : (asksS op).2 = 1 := by
      unfold asksS
      rw [if_neg h6]
      split
      · rfl
      · split <;> rfl
    rw [asE]
    unfold doS
    rw [if_neg (by omega), if_neg (by omega), if_neg (by omega), if_neg (by omega)]
    refine .inr ?_
    split
    · refine ⟨rfl, ?_⟩
      show Of (logicS op a b) 1
      unfold logicS
      split
      · exact of_tv _
      · split
        · exact of_zv 1
        · exact of_tv _
    · split
      · exact ⟨rfl, of_tv _⟩
      · split
        · exact ⟨rfl, of_zv 1⟩
        · split
          · exact ⟨rfl, of_tv _⟩
          · exact ⟨rfl, of_tv _⟩
theorem fits_kind {op ka kb : Int} {a b : S31} (h : fitsS op ka kb = true) (ha : Of a ka) (hb : Of b kb) : fitsS op a.f0 b.f0 = true := by
  unfold fitsS at *
  unfold Of at *
  by_cases h16 : op = 16
  · rw [if_pos h16]
  · rw [if_neg h16] at h ⊢
    by_cases h0 : (asksS op).1 = 0
    · rw [if_pos h0] at h ⊢
      simp only [Bool.or_eq_true, decide_eq_true_eq] at h ⊢
      omega
    · rw [if_neg h0] at h ⊢
      simp only [Bool.and_eq_true, Bool.or_eq_true, decide_eq_true_eq] at h ⊢
      omega
/-- Values that have the kinds, place by place. -/
def Rel (vs : List S31) (ks : List Int) : Prop := vs.length = ks.length ∧ ∀ j : Int, Of (rd_T31 vs j) (rd ks j)
theorem rel_nil : Rel [] [] := ⟨rfl, fun _ => .inl rfl⟩
theorem rel_app {vs : List S31} {ks : List Int} {v : S31} {k : Int} (h : Rel vs ks) (hv : Of v k) : Rel (vs ++ [v]) (ks ++ [k]) := by
  refine ⟨by simp [h.1], fun j => ?_⟩
  have hj := h.2 j
  have hl := h.1
  unfold rd_T31 rd at *
  rw [List.getD_eq_getElem?_getD, List.getD_eq_getElem?_getD] at *
  rw [List.getElem?_append, List.getElem?_append]
  by_cases c : j.toNat < vs.length
  · rw [if_pos c, if_pos (by omega)]; exact hj
  · rw [if_neg c, if_neg (by omega), hl]
    by_cases c2 : j.toNat - ks.length = 0
    · rw [c2]; exact hv
    · rw [List.getElem?_eq_none (by simp; omega)]
      exact .inl rfl
theorem rel_take {vs : List S31} {ks : List Int} (h : Rel vs ks) (n : Nat) : Rel (vs.take n) (ks.take n) := by
  refine ⟨by simp [h.1], fun j => ?_⟩
  have hj := h.2 j
  unfold rd_T31 rd at *
  rw [List.getD_eq_getElem?_getD, List.getD_eq_getElem?_getD] at *
  rw [List.getElem?_take, List.getElem?_take]
  by_cases c : j.toNat < n
  · rw [if_pos c, if_pos c]; exact hj
  · rw [if_neg c, if_neg c]; exact .inl rfl
theorem sound (row : List S31) (kinds : List Int) (hR : ∀ v ∈ row, vR v = true) (hrel : Rel row kinds) (n : Int) : ∀ (is : List S39) (vs : List S31) (ks : List Int) (d e k : Int), (∀ v ∈ vs, vR v = true) → Rel vs ks → formedS n is d = some e → typeS kinds is ks = (k, 0) →
    (evalS row is vs).2 = 14 ∨ ((evalS row is vs).2 = 0 ∧ Of (evalS row is vs).1 k)
  | [], vs, ks, d, e, k, hv, hr, _, ht => by
    simp only [typeS, Prod.mk.injEq] at ht
    simp only [evalS]
    refine .inr ⟨trivial, ?_⟩
    rw [← ht.1]
    exact hr.2 0
  | i :: is, vs, ks, d, e, k, hv, hr, hf, ht => by
    simp only [formedS] at hf
    have hb : ¬ badI n i = true := by intro hb; rw [if_pos hb] at hf; cases hf
    rw [if_neg hb] at hf
    have hd : ¬ d < takesS i.f0 := by intro hd; rw [if_pos hd] at hf; cases hf
    rw [if_neg hd] at hf
    have hop := badI_op hb
    simp only [typeS] at ht
    simp only [evalS]
    by_cases h1 : i.f0 = 1
    · rw [if_pos h1] at ht ⊢
      refine sound row kinds hR hrel n is _ _ _ e k ?_ (rel_app hr (hrel.2 i.f1)) hf ht
      intro v hm
      rw [List.mem_append, List.mem_singleton] at hm
      rcases hm with hm | rfl
      · exact hv v hm
      · exact vR_rd hR _
    · rw [if_neg h1] at ht ⊢
      by_cases h2 : i.f0 = 2
      · rw [if_pos h2] at ht ⊢
        refine sound row kinds hR hrel n is _ _ _ e k ?_ (rel_app hr (.inr rfl)) hf ht
        intro v hm
        rw [List.mem_append, List.mem_singleton] at hm
        rcases hm with hm | rfl
        · exact hv v hm
        · exact badI_val hb h2
      · rw [if_neg h2] at ht ⊢
        by_cases h3 : fitsS i.f0 (rd ks ((ks.length : Int) - takesS i.f0)) (rd ks ((ks.length : Int) - 1)) = true
        · rw [if_pos h3] at ht
          have hl := hr.1
          rw [← hl] at h3 ht
          have hfit := fits_kind h3 (hr.2 ((vs.length : Int) - takesS i.f0)) (hr.2 ((vs.length : Int) - 1))
          rw [if_pos hfit]
          rcases do_kind (rd_T31 vs ((vs.length : Int) - takesS i.f0)) (rd_T31 vs ((vs.length : Int) - 1)) (vR_rd hv _) (vR_rd hv _) (by omega) hfit with e14 | ⟨e0, ek⟩
          · rw [if_neg (by omega)]
            exact .inl e14
          · rw [if_pos e0]
            refine sound row kinds hR hrel n is _ _ _ e k ?_ (rel_app (rel_take hr _) ek) hf ht
            intro v hm
            rw [List.mem_append, List.mem_singleton] at hm
            rcases hm with hm | rfl
            · exact hv v (List.mem_of_mem_take hm)
            · exact right_do _ _ _
        · rw [if_neg h3] at ht
          simp at ht
theorem typeTop_ok {code : List S39} {kinds : List Int} (h : (typeTop code kinds).2 = 0) : formedB (kinds.length : Int) code = true ∧ typeS kinds code [] = ((typeTop code kinds).1, 0) := by
  unfold typeTop at *
  split at h
  · rename_i h1
    rw [if_pos h1]
    rw [Bool.and_eq_true] at h1
    exact ⟨h1.2, by rw [← h]⟩
  · exact absurd h (by decide)
theorem sound_top (code : List S39) (kinds : List Int) (row : List S31) (h : (typeTop code kinds).2 = 0) (hR : ∀ v ∈ row, vR v = true) (hrel : Rel row kinds) :
    (evalTop code row).2 = 14 ∨ ((evalTop code row).2 = 0 ∧ Of (evalTop code row).1 (typeTop code kinds).1) := by
  obtain ⟨h1, h2⟩ := typeTop_ok h
  unfold evalTop
  rw [hrel.1, h1, List.all_eq_true.mpr hR, if_pos (by decide)]
  exact sound row kinds hR hrel kinds.length code [] [] 0 1 _ (by simp) rel_nil (formedB_some h1).1 h2
theorem sound_l0 (code : List S39) (kinds : List Int) (row : List S31) (t : Int) (hl : (row.length : Int) ≤ 40) (hkl : kinds.length = row.length) (hw : ∀ x ∈ row, wf_T31 x)
    (last : (∀ v ∈ row, vR v = true) → Rel row kinds → Ev (fun k => corollarylaw10_ExprSound.l0 k code kinds row t row (row.length : Int) (row.length : Int)) true) : ∀ (is pre : List S31), row = pre ++ is → (∀ v ∈ pre, vR v = true) → (∀ j : Nat, j < pre.length → Of (rd_T31 row j) (rd kinds j)) →
    Ev (fun k => corollarylaw10_ExprSound.l0 k code kinds row t row (row.length : Int) (pre.length : Int)) true
  | [], pre, e, hp, hq => by
    have e' : row = pre := by rw [e]; simp
    have := last (by rw [e']; exact hp) ⟨hkl.symm, fun j => by
      by_cases c : j.toNat < pre.length
      · have := hq j.toNat c
        unfold rd_T31 rd at *
        rw [Int.toNat_natCast] at this
        exact this
      · left
        unfold rd_T31
        rw [List.getD_eq_getElem?_getD, List.getElem?_eq_none (by rw [e']; omega)]
        rfl⟩
    rw [← e']
    exact this
  | i :: is, pre, e, hp, hq => by
    have hlen : row.length = pre.length + (is.length + 1) := by rw [e]; simp
    have hr : rd_T31 row (pre.length : Int) = i := by rw [e]; exact rd31 pre i is
    apply Ev.succ
    simp only [corollarylaw10_ExprSound.l0]
    rw [hr]
    apply Ev.pos (by omega)
    apply Ev.pos (by omega)
    apply Ev.pos (by omega)
    refine Ev.bind (refRight_ev i (wfS (hw i (by rw [e]; simp)))) ?_
    have stop : Ev (fun k => corollarylaw10_ExprSound.j2 k code kinds row t row (row.length : Int) (pre.length : Int) true) true := by
      apply Ev.succ
      simp only [corollarylaw10_ExprSound.j2]
      exact Ev.pos trivial (Ev.bind awake_ev (Ev.pure _))
    by_cases hi : vR i = true
    · apply Ev.pos hi
      have more : Of i (rd kinds (pre.length : Int)) → Ev (fun k => corollarylaw10_ExprSound.j2 k code kinds row t row (row.length : Int) (pre.length : Int) false) true := by
        intro ho
        apply Ev.succ
        simp only [corollarylaw10_ExprSound.j2]
        apply Ev.neg (by decide)
        rw [show wrap64 ((pre.length : Int) + 1) = ((pre ++ [i]).length : Int) by rw [w64 (by omega) (by omega)]; simp]
        refine sound_l0 code kinds row t hl hkl hw last is (pre ++ [i]) (by rw [e]; simp) ?_ ?_
        · intro v hv
          rw [List.mem_append, List.mem_singleton] at hv
          rcases hv with hv | rfl
          · exact hp v hv
          · exact hi
        · intro j hj
          by_cases c : j < pre.length
          · exact hq j c
          · have : j = pre.length := by simp at hj; omega
            subst this
            rw [hr]
            exact ho
      by_cases h0 : i.f0 = 0
      · exact Ev.pos h0 (more (.inl h0))
      · apply Ev.neg h0
        apply Ev.pos (by omega)
        by_cases h1 : i.f0 = rd kinds (pre.length : Int)
        · rw [show (i.f0 != rd kinds (pre.length : Int)) = false by simp [h1]]
          exact more (.inr h1)
        · rw [show (i.f0 != rd kinds (pre.length : Int)) = true by simp [h1]]
          exact stop
    · exact Ev.neg hi stop
theorem size_small {v : S31} (h : vR v = true) : v.f2.size ≤ 9223372036854775807 := by
  have e0 : (v.f2.toList == ([] : List UInt8)) = true → v.f2.size ≤ 9223372036854775807 := by
    intro h
    rw [str_nil] at h
    rw [of_decide_eq_true h]
    decide
  unfold vR at h
  split at h
  · rw [Bool.and_eq_true] at h; exact e0 h.2
  · split at h
    · rw [Bool.and_eq_true] at h; exact e0 h.2
    · split at h
      · exact e0 h
      · split at h
        · rw [Bool.and_eq_true, Bool.and_eq_true] at h
          have := of_decide_eq_true h.1.2
          omega
        · split at h
          · rw [Bool.and_eq_true] at h
            have := of_decide_eq_true h.2
            omega
          · cases h
theorem ExprSound_pure : Stat.ExprSound := by
  intro code kinds row hc hk hr
  have hcl := hc.1
  have hkl := hk.1
  have hrl := hr.1
  unfold maxLen at hcl hkl hrl
  apply Ev.get
  unfold corollarylaw10_ExprSound.f
  have stop : Ev (fun k => corollarylaw10_ExprSound.j0 k code kinds row true) true := by
    apply Ev.succ
    simp only [corollarylaw10_ExprSound.j0]
    exact Ev.pos trivial (Ev.bind awake_ev (Ev.pure _))
  have efew : corollarylaw10_few.f code (row.length : Int) = some (decide ((code.length : Int) ≤ 60) && decide ((row.length : Int) ≤ 40)) := by
    unfold corollarylaw10_few.f
    by_cases h : (code.length : Int) ≤ 60
    · rw [if_pos h, decide_eq_true h, Bool.true_and]
    · rw [if_neg h, decide_eq_false h, Bool.false_and]
  rw [efew]
  simp only [Option.bind_some]
  by_cases hfew : (decide ((code.length : Int) ≤ 60) && decide ((row.length : Int) ≤ 40)) = true
  · apply Ev.pos hfew
    rw [Bool.and_eq_true] at hfew
    have h40 := of_decide_eq_true hfew.2
    by_cases hlen : (kinds.length : Int) = (row.length : Int)
    · rw [show ((kinds.length : Int) != (row.length : Int)) = false by simp [hlen]]
      apply Ev.succ
      simp only [corollarylaw10_ExprSound.j0]
      apply Ev.neg (by decide)
      refine Ev.bind (Type_ev code kinds (by omega) (by omega)) ?_
      by_cases ht : (typeTop code kinds).2 = 0
      · apply Ev.pos ht
        refine sound_l0 code kinds row _ (by omega) (by omega) hr.2 (fun hR hrel => ?_) row [] (by simp) (by simp) (by intro j hj; simp at hj)
        apply Ev.succ
        simp only [corollarylaw10_ExprSound.l0]
        apply Ev.neg (by omega)
        refine Ev.bind (Eval_ev code row (by omega) (by omega)) ?_
        have hv := evalTop_right code row
        rcases sound_top code kinds row ht hR hrel with h14 | ⟨h0, hk⟩
        · exact Ev.pos h14 (Ev.bind awake_ev (Ev.pure _))
        · have hz : (out (evalTop code row)).2.2.2 = 0 := h0
          refine Ev.neg (by rw [hz]; decide) ?_
          refine Ev.pos hz ?_
          have rr := refRight_ev (evalTop code row).1 (size_small hv)
          rw [hv] at rr
          have done : Ev (fun k => (corollaryref01_Right.f k (out (evalTop code row)).1 (out (evalTop code row)).2.1 (out (evalTop code row)).2.2.1).bind fun t321 => (if t321 = true then ((corollarylaw10_awake.f k).bind fun t322 => (some t322)) else (some false))) true :=
            Ev.bind rr (Ev.pos rfl (Ev.bind awake_ev (Ev.pure _)))
          by_cases z : (evalTop code row).1.f0 = 0
          · exact Ev.pos z done
          · refine Ev.neg z ?_
            have zk : (evalTop code row).1.f0 = (typeTop code kinds).1 := by
              rcases hk with hk | hk
              · exact absurd hk z
              · exact hk
            exact Ev.pos zk done
      · exact Ev.neg ht (Ev.bind awake_ev (Ev.pure _))
    · rw [show ((kinds.length : Int) != (row.length : Int)) = true by simp only [bne_iff_ne, ne_eq]; exact hlen]
      exact stop
  · exact Ev.neg hfew stop
end Go.Proofs.YtiamgfpeffjcjaaDoor.Pure
