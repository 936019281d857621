-- HALVED
import Derived.Test.YtchpbnabbjdfgaaDoorPureRef
import Derived.Test.YtchpbnabbjdfgaaDoorPx0
import Derived.Test.YtchpbnabbjdfgaaDoorPx107
namespace Go.Proofs.YtchpbnabbjdfgaaDoor.Pure
open Go.ChangeShapes Go.WideShapes Go.ChangeAt Go.RowKit Go.Proofs.YtchpbnabbjdfgaaDoorW.PrintWords Go.Proofs.YtchpbnabbjdfgaaDoorW.PrintLast Go.Proofs.YtchpbnabbjdfgaaDoor.P Go.Proofs.YtchpbnabbjdfgaaDoor.Open
set_option linter.unusedVariables false
set_option linter.unusedSimpArgs false
theorem refR_go (l : List S81) (hl : okL l) : ∀ (t : List S81) (i : Nat), l.drop i = t →
  Ev (fun k => zam.l0 k l (i : Int)) (t.all (fun c => decide (c.f1 ≠ 0) && zgk c) && rise ((l.take i).drop (i - 1) ++ t))
 | [], i, h => by
  apply Ev.succ
  simp only [zam.l0]
  have : rise ((l.take i).drop (i - 1) ++ []) = true := by
   rw [List.append_nil]
   have hlen : ((l.take i).drop (i - 1)).length ≤ 1 := by rw [List.length_drop, List.length_take]; omega
   match (l.take i).drop (i - 1), hlen with
   | [], _ => rfl
   | [_], _ => rfl
   | _ :: _ :: _, hh => simp at hh
  rw [this]
  exact Ev.neg (dn h) (Ev.pure _)
 | c :: t, i, h => by
  obtain ⟨h1, h2, h3, h4, h5⟩ := ds h
  have hm : c ∈ l := List.mem_of_getElem? h5
  have hc := hl.2 c hm
  have hll := hl.1
  have e : zal l (i : Int) = c := h2 _
  apply Ev.succ
  simp only [zam.l0]
  rw [e, ws (by omega), rfits_eq]
  apply Ev.pos h1
  apply Ev.pos (nn i)
  rw [List.all_cons]
  by_cases hz : c.f1 = 0
  ·rw [decide_eq_false (by simp [hz]), Bool.false_and, Bool.false_and, Bool.false_and]
   exact Ev.pos hz (Ev.pure _)
  ·apply Ev.neg hz
   rw [decide_eq_true hz, Bool.true_and]
   refine Ev.bind (Ev.of rfl) ?_
   by_cases hf : fit c.f1 = true
   ·apply Ev.pos hf
    unfold zgk
    rw [hf, Bool.true_and]
    refine Ev.bind (refright_ev c.f0 hc.1) ?_
    by_cases hr : rowR c.f0 = true
    ·apply Ev.pos hr
     rw [hr, Bool.true_and]
     have ih := refR_go l hl t (i + 1) h3
     have htk : (l.take (i + 1)).drop (i + 1 - 1) = [c] := by
      rw [Nat.add_sub_cancel, List.take_succ_eq_append_getElem h4, List.drop_left' (by rw [List.length_take]; omega)]
      have := List.getElem?_eq_getElem h4
      rw [h5] at this
      rw [Option.some.inj this]
     rw [htk] at ih
     by_cases hi0 : i = 0
     ·subst hi0
      apply Ev.neg (by omega)
      exact ih
     ·apply Ev.pos (by omega)
      obtain ⟨p, hp⟩ : ∃ p, l[i - 1]? = some p := ⟨l[i - 1]'(by omega), List.getElem?_eq_getElem _⟩
      have hpd : (l.take i).drop (i - 1) = [p] := by
       obtain ⟨j, rfl⟩ : ∃ j, i = j + 1 := ⟨i - 1, by omega⟩
       rw [Nat.add_sub_cancel] at hp ⊢
       rw [List.take_succ_eq_append_getElem (by omega), List.drop_left' (by rw [List.length_take]; omega)]
       rw [List.getElem?_eq_getElem (by omega)] at hp
       rw [Option.some.inj hp]
      have hw : wrap64 ((i : Int) - 1) = ((i - 1 : Nat) : Int) := by rw [w64 (by omega) (by omega)]; omega
      have ep : zal l ((i - 1 : Nat) : Int) = p := by
       unfold zal
       rw [Int.toNat_natCast, List.getD_eq_getElem?_getD, hp]
       rfl
      have hpo := hl.2 p (List.mem_of_getElem? hp)
      rw [hw, ep, hpd]
      apply Ev.pos (nn _)
      apply Ev.pos (by omega)
      refine Ev.bind (refrows_ev p.f0 c.f0 hpo.1 hc.1) ?_
      by_cases hlt : LtR p.f0 c.f0
      ·apply Ev.pos (rowsS_m1.2 hlt)
       have : rise ([p] ++ c :: t) = rise ([c] ++ t) := by
        show (decide (LtR p.f0 c.f0) && rise (c :: t)) = rise (c :: t)
        rw [decide_eq_true hlt, Bool.true_and]
       rw [this]
       exact ih
      ·have : rise ([p] ++ c :: t) = false := by
        show (decide (LtR p.f0 c.f0) && rise (c :: t)) = false
        rw [decide_eq_false hlt, Bool.false_and]
       rw [this, Bool.and_false]
       exact Ev.neg (fun h => hlt (rowsS_m1.1 h)) (Ev.pure _)
    ·apply Ev.neg hr
     rw [Bool.eq_false_iff.2 hr, Bool.false_and, Bool.false_and]
     exact Ev.pure _
   ·apply Ev.neg hf
    unfold zgk
    rw [Bool.eq_false_iff.2 hf, Bool.false_and, Bool.false_and, Bool.false_and]
    exact Ev.pure _
theorem refR_ev (l : List S81) (hl : okL l) : Ev (fun k => zam.f k l) (bagR l) := refR_go l hl l 0 rfl
end Go.Proofs.YtchpbnabbjdfgaaDoor.Pure
