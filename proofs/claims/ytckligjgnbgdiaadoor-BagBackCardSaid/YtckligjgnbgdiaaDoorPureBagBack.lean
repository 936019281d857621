-- HALVED
-- Plain laws of the printed functions (wip/l13).
import Derived.Test.YtckligjgnbgdiaaDoorPureEq
import Derived.Test.YtckligjgnbgdiaaDoorStatBagBack
namespace Go.Proofs.YtckligjgnbgdiaaDoor.Pure
open Go.ChangeShapes Go.WideShapes Go.ChangeAt Go.RowKit Go.Proofs.YtckligjgnbgdiaaDoorW.PrintWords Go.Proofs.YtckligjgnbgdiaaDoorW.PrintLast Go.Proofs.YtckligjgnbgdiaaDoor.P Go.Proofs.YtckligjgnbgdiaaDoor.Open
set_option linter.unusedVariables false
set_option linter.unusedSimpArgs false
theorem rise_neg : ∀ l : List S27, rise (l.map negC) = rise l
 | [] => rfl
 | [a] => rfl
 | a :: b :: l => by
  have ih := rise_neg (b :: l)
  show (decide (LtR (negC a).f0 (negC b).f0) && rise ((b :: l).map negC)) = (decide (LtR a.f0 b.f0) && rise (b :: l))
  rw [ih]
  rfl
theorem bagR_neg (l : List S27) : bagR (l.map negC) = bagR l := by
 unfold bagR
 rw [rise_neg, List.all_map]
 congr 2
 funext c
 show (decide (-c.f1 ≠ 0) && cntOk (negC c)) = (decide (c.f1 ≠ 0) && cntOk c)
 unfold cntOk
 show (decide (-c.f1 ≠ 0) && (fit (-c.f1) && rowR c.f0)) = _
 rw [fit_neg]
 congr 1
 rw [decide_eq_decide]
 omega
/-- a bag and its Neg are nothing. -/
theorem outOf_zero {g : List S51 → Int} : ∀ {D : List (List S51)}, (∀ r ∈ D, g r = 0) → outOf g D = some []
 | [], _ => rfl
 | r :: D, h => by
  simp only [outOf]
  rw [h r List.mem_cons_self, if_pos (by decide), outOf_zero (fun x hx => h x (List.mem_cons_of_mem _ hx))]
  rfl
theorem sum_neg {l : List S27} (h : bagR l = true) : sumS [l, l.map negC] = ([], 0) := by
 unfold sumS
 rw [if_pos (by simp [h, bagR_neg])]
 simp only [List.flatten_cons, List.flatten_nil, List.append_nil]
 unfold sortS
 have ha : (l ++ l.map negC).all cntOk = true := by
  rw [List.all_eq_true]
  intro c hc
  rcases List.mem_append.1 hc with h1 | h1
  ·have := (bagR_all h).1 c h1
   unfold cntOk
   rw [this.1, this.2.2]; rfl
  ·rw [← bagR_neg] at h
   have := (bagR_all h).1 c h1
   unfold cntOk
   rw [this.1, this.2.2]; rfl
 rw [if_pos ha, outOf_zero]
 ·rfl
 ·intro r _
  rw [cnt_app, cnt_neg]
  omega
theorem BagBack_ev (a b c : List S27) (wa : wf_L27_T27 a) (wb : wf_L27_T27 b) (wc : wf_L27_T27 c) : Ev (fun k => corollarylaw13_BagBack.f k a b c) true := by
 unfold corollarylaw13_BagBack.f
 have stop : Ev (fun k => corollarylaw13_BagBack.j0 k a b c true) true := by
  apply Ev.succ
  simp only [corollarylaw13_BagBack.j0]
  exact Ev.pos trivial (Ev.bind awake_ev (Ev.pure _))
 refine Ev.bind (small_ev a) ?_
 by_cases ha : Small a
 case neg => rw [decide_eq_false ha]; exact Ev.neg (by decide) stop
 rw [decide_eq_true ha]
 refine Ev.pos rfl (Ev.bind (small_ev b) ?_)
 by_cases hb : Small b
 case neg => rw [decide_eq_false hb]; exact Ev.neg (by decide) stop
 rw [decide_eq_true hb]
 refine Ev.pos rfl (Ev.bind (small_ev c) ?_)
 by_cases hc : Small c
 case neg => rw [decide_eq_false hc]; exact stop
 rw [decide_eq_true hc]
 have oa := okL_of ha wa
 have ob := okL_of hb wb
 have oc := okL_of hc wc
 have la := ha.1
 have lb := hb.1
 have lc := hc.1
 have three : ∀ (x y z : List S27), okL x → okL y → okL z → x.length ≤ 60 → y.length ≤ 60 → z.length ≤ 60 → Ev (fun k => bag_Sum.f k [x, y, z]) (sumS [x, y, z]) := by
  intro x y z ox oy oz lx ly lz
  refine sum_ev _ (by show (3 : Nat) ≤ 1000000; decide) (fun u hu => ?_) ?_
  ·simp only [List.mem_cons, List.not_mem_nil, or_false] at hu
   rcases hu with rfl | rfl | rfl
   ·exact ox
   ·exact oy
   ·exact oz
  ·simp only [List.flatten_cons, List.flatten_nil, List.append_nil, List.length_append]
   omega
 have e1 := three a b c oa ob oc la lb lc
 have e2 := three c a b oc oa ob lc la lb
 have same : sumS [c, a, b] = sumS [a, b, c] := by
  unfold sumS
  have h1 : ([c, a, b].all bagR) = ([a, b, c].all bagR) := by
   simp only [List.all_cons, List.all_nil, Bool.and_true]
   cases bagR a <;> cases bagR b <;> cases bagR c <;> rfl
  rw [h1]
  split
  ·refine sortS_perm ?_
   simp only [List.flatten_cons, List.flatten_nil, List.append_nil]
   have : (c ++ (a ++ b)).Perm ((a ++ b) ++ c) := List.perm_append_comm
   rw [List.append_assoc] at this
   exact this
  ·rfl
 rw [same] at e2
 have oabc : okL (sumS [a, b, c]).1 := by
  unfold sumS
  split
  ·refine sortS_okL ⟨?_, fun x hx => ?_⟩
   ·simp only [List.flatten_cons, List.flatten_nil, List.append_nil, List.length_append]; omega
   ·simp only [List.flatten_cons, List.flatten_nil, List.append_nil, List.mem_append] at hx
    rcases hx with hx | hx | hx
    ·exact oa.2 x hx
    ·exact ob.2 x hx
    ·exact oc.2 x hx
  ·exact ⟨Nat.zero_le _, fun x hx => by cases hx⟩
 have rabc : bagR (sumS [a, b, c]).1 = true := by
  unfold sumS
  split
  ·exact sortS_right
  ·rfl
 apply Ev.succ
 simp only [corollarylaw13_BagBack.j0]
 refine Ev.neg (by decide) (Ev.bind e1 (Ev.bind e2 (Ev.pos rfl (Ev.bind (eq_ev _ _ oabc) ?_))))
 rw [decide_eq_true rfl]
 refine Ev.pos rfl (Ev.bind (right_ev _ oabc) ?_)
 rw [rabc]
 apply Ev.succ
 simp only [corollarylaw13_BagBack.j1]
 refine Ev.neg (by decide) (Ev.bind (negs_ev a oa) ?_)
 unfold negS
 by_cases hra : bagR a = true
 ·rw [if_pos hra]
  refine Ev.pos rfl ?_
  have on : okL (a.map negC) := ⟨by rw [List.length_map]; omega, fun x hx => by
   obtain ⟨d, hd, rfl⟩ := List.mem_map.1 hx
   have hf := fit_rng ((bagR_all hra).1 d hd).1
   refine ⟨(oa.2 d hd).1, ?_, ?_⟩
   ·show (-9223372036854775808 : Int) ≤ -d.f1; omega
   ·show -d.f1 ≤ 9223372036854775807; omega⟩
  have e3 : Ev (fun k => bag_Sum.f k [a, a.map negC]) (sumS [a, a.map negC]) := by
   refine sum_ev _ (by show (2 : Nat) ≤ 1000000; decide) (fun u hu => ?_) ?_
   ·simp only [List.mem_cons, List.not_mem_nil, or_false] at hu
    rcases hu with rfl | rfl
    ·exact oa
    ·exact on
   ·simp only [List.flatten_cons, List.flatten_nil, List.append_nil, List.length_append, List.length_map]
    omega
  rw [sum_neg hra] at e3
  exact Ev.bind e3 (Ev.neg (by decide) (Ev.pos rfl (Ev.bind awake_ev (Ev.pure _))))
 ·rw [if_neg hra]
  exact Ev.neg (by decide) (Ev.bind awake_ev (Ev.pure _))
theorem BagBack_pure : Stat.BagBack := fun a b c wa wb wc => (BagBack_ev a b c wa wb wc).get
end Go.Proofs.YtckligjgnbgdiaaDoor.Pure
