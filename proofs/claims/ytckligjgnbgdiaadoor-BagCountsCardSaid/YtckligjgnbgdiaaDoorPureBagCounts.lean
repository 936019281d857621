-- HALVED
-- Plain laws of the printed functions (wip/l13).
import Derived.Test.YtckligjgnbgdiaaDoorPureB7
import Derived.Test.YtckligjgnbgdiaaDoorStatBagCounts
namespace Go.Proofs.YtckligjgnbgdiaaDoor.Pure
open Go.ChangeShapes Go.WideShapes Go.ChangeAt Go.RowKit Go.Proofs.YtckligjgnbgdiaaDoorW.PrintWords Go.Proofs.YtckligjgnbgdiaaDoorW.PrintLast Go.Proofs.YtckligjgnbgdiaaDoor.P Go.Proofs.YtckligjgnbgdiaaDoor.Open
set_option linter.unusedVariables false
set_option linter.unusedSimpArgs false
theorem bagR_sides {a b : List S27} (h : (sumS [a, b]).2 = 0) : bagR a = true ∧ bagR b = true := by
 unfold sumS at h
 split at h
 ·rename_i h1
  simp only [List.all_cons, List.all_nil, Bool.and_true, Bool.and_eq_true] at h1
  exact h1
 ·exact absurd h (by decide)
theorem BagCounts_ev (a b : List S27) (r : List S51) (wa : wf_L27_T27 a) (wb : wf_L27_T27 b) (hr : wf_L51_T51 r) : Ev (fun k => corollarylaw13_BagCounts.f k a b r) true := by
 unfold corollarylaw13_BagCounts.f
 have stop : Ev (fun k => corollarylaw13_BagCounts.j0 k a b r true) true := by
  apply Ev.succ
  simp only [corollarylaw13_BagCounts.j0]
  exact Ev.pos trivial (Ev.bind awake_ev (Ev.pure _))
 refine Ev.bind (small_ev a) ?_
 by_cases ha : Small a
 case neg => rw [decide_eq_false ha]; exact Ev.neg (by decide) stop
 rw [decide_eq_true ha]
 refine Ev.pos rfl (Ev.bind (small_ev b) ?_)
 by_cases hb : Small b
 case neg => rw [decide_eq_false hb]; exact Ev.neg (by decide) stop
 rw [decide_eq_true hb]
 refine Ev.pos rfl ?_
 by_cases h40 : (r.length : Int) > 40
 ·rw [decide_eq_true h40]; exact stop
 rw [decide_eq_false h40]
 have hrr : okR r := okR_of (by omega) hr
 have oa := okL_of ha wa
 have ob := okL_of hb wb
 have hsum := sum2 ha hb wa wb
 have hfl : okL [a, b].flatten := by
  simp only [List.flatten_cons, List.flatten_nil, List.append_nil]
  refine ⟨by rw [List.length_append]; have := ha.1; have := hb.1; omega, fun c hc => ?_⟩
  rcases List.mem_append.1 hc with h | h
  ·exact oa.2 c h
  ·exact ob.2 c h
 apply Ev.succ
 simp only [corollarylaw13_BagCounts.j0]
 refine Ev.neg (by decide) (Ev.bind hsum ?_)
 by_cases h0 : (sumS [a, b]).2 = 0
 ·obtain ⟨ra, rb⟩ := bagR_sides h0
  have es : sumS [a, b] = sortS (a ++ b) := by
   unfold sumS
   rw [if_pos (by simp [ra, rb])]
   simp
  refine Ev.pos h0 ?_
  rw [es] at h0 ⊢
  have hos : okL (sortS (a ++ b)).1 := by
   have := sortS_okL hfl
   simpa using this
  have n1 := n_ev _ hos r hrr
  have n2 := n_ev a oa r hrr
  have n3 := n_ev b ob r hrr
  rw [if_pos sortS_right, sortS_cnt h0, cnt_app] at n1
  rw [if_pos ra] at n2
  rw [if_pos rb] at n3
  have s1 := size_ev _ hos
  have s2 := size_ev a oa
  have s3 := size_ev b ob
  rw [if_pos sortS_right, sortS_total h0, total_app] at s1
  rw [if_pos ra] at s2
  rw [if_pos rb] at s3
  have c1 := cnt_rng r a (fun c hc => ((bagR_all ra).1 c hc).1)
  have c2 := cnt_rng r b (fun c hc => ((bagR_all rb).1 c hc).1)
  have t1 := total_rng a (fun c hc => ((bagR_all ra).1 c hc).1)
  have t2 := total_rng b (fun c hc => ((bagR_all rb).1 c hc).1)
  have la := ha.1
  have lb := hb.1
  refine Ev.bind n1 (Ev.bind n2 (Ev.bind n3 (Ev.pos ?_ (Ev.bind s1 (Ev.bind s2 (Ev.bind s3 (Ev.pos ?_ (Ev.bind awake_ev (Ev.pure _)))))))))
  ·rw [w64 (by omega) (by omega)]
  ·rw [w64 (by omega) (by omega)]
 ·refine Ev.neg h0 ?_
  have : (sumS [a, b]).1 = [] := by
   unfold sumS at h0 ⊢
   split
   ·rename_i h1
    rw [if_pos h1] at h0
    exact sortS_err h0
   ·rfl
  rw [this]
  exact Ev.pos rfl (Ev.bind awake_ev (Ev.pure _))
theorem BagCounts_pure : Stat.BagCounts := fun a b r wa wb hr => (BagCounts_ev a b r wa wb hr).get
end Go.Proofs.YtckligjgnbgdiaaDoor.Pure
