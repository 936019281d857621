-- HALVED
import Derived.Test.YtnggdcdiachkpaaDoorPureD
import Derived.Test.YtnggdcdiachkpaaDoorPx3
import Derived.Test.YtnggdcdiachkpaaDoorPx104
import Derived.Test.YtnggdcdiachkpaaDoorPureEq
namespace Go.Proofs.YtnggdcdiachkpaaDoor.Pure
open Go.ChangeShapes Go.WideShapes Go.ChangeAt Go.RowKit Go.Proofs.YtnggdcdiachkpaaDoorW.PrintWords Go.Proofs.YtnggdcdiachkpaaDoorW.PrintLast Go.Proofs.YtnggdcdiachkpaaDoor.P Go.Proofs.YtnggdcdiachkpaaDoor.Open
set_option linter.unusedVariables false
set_option linter.unusedSimpArgs false
structure Few (d : Df) (wide : Int) (bs : List (List S54)) : Prop where
 w0 : 0 ≤ wide
 w1 : wide ≤ 100
 on : d.on.length ≤ 5
 wh : d.wh.length ≤ 60
 cols : d.cols.length ≤ 20
 col : ∀ c ∈ d.cols, c.length ≤ 60
 place : ∀ n ∈ d.on, -1000 ≤ n ∧ n ≤ 1000
 bags : ∀ b ∈ bs, b.length ≤ 30 ∧ Small b
theorem few_l2 (bs : List (List S54)) (hb : bs.length ≤ 1000) : ∀ (t : List (List S54)) (i : Nat), bs.drop i = t → ∃ b, Ev (fun k => zac.l2 k bs (bs.length : Int) (i : Int)) b ∧ (b = true → ∀ x ∈ t, x.length ≤ 30 ∧ Small x)
 | [], i, h => by
  refine ⟨true, Ev.succ ?_, fun _ x hx => by cases hx⟩
  simp only [zac.l2]
  exact Ev.neg (dn h) (Ev.pure _)
 | x :: t, i, h => by
  obtain ⟨h1, h2, h3, h4, h5⟩ := ds h
  have e : zie bs (i : Int) = x := h2 _
  by_cases q1 : (x.length : Int) > 30
  ·refine ⟨false, Ev.succ ?_, fun h => by cases h⟩
   simp only [zac.l2]
   rw [e]
   exact Ev.pos h1 (Ev.pos (nn i) (Ev.pos h1 (Ev.pos q1 (Ev.pure _))))
  ·by_cases q2 : Small x
   ·obtain ⟨b, hb1, hb2⟩ := few_l2 bs hb t (i + 1) h3
    refine ⟨b, Ev.succ ?_, fun h y hy => ?_⟩
    ·simp only [zac.l2]
     rw [e, ws (by omega)]
     refine Ev.pos h1 (Ev.pos (nn i) (Ev.pos h1 (Ev.neg q1 (Ev.bind (small_ev x) ?_))))
     exact Ev.pos (decide_eq_true q2) hb1
    ·rcases List.mem_cons.1 hy with rfl | hy
     ·exact ⟨by omega, q2⟩
     ·exact hb2 h y hy
   ·refine ⟨false, Ev.succ ?_, fun h => by cases h⟩
    simp only [zac.l2]
    rw [e]
    exact Ev.pos h1 (Ev.pos (nn i) (Ev.pos h1 (Ev.neg q1 (Ev.bind (small_ev x) (Ev.neg (by simpa using q2) (Ev.pure _))))))
theorem few_l1 (d : Df) (hc : d.cols.length ≤ 20) (bs : List (List S54)) (hb : bs.length ≤ 1000) : ∀ (t : List (List S50)) (i : Nat), d.cols.drop i = t → ∃ b, Ev (fun k => zac.l1 k bs (d.cols.length : Int) (i : Int) d.x0 d.x1 d.on d.wh d.cols d.g d.ag) b ∧ (b = true → (∀ c ∈ t, c.length ≤ 60) ∧ ∀ x ∈ bs, x.length ≤ 30 ∧ Small x)
 | [], i, h => by
  obtain ⟨b, hb1, hb2⟩ := few_l2 bs hb bs 0 rfl
  refine ⟨b, Ev.succ ?_, fun h => ⟨fun c hc => (by cases hc), hb2 h⟩⟩
  simp only [zac.l1]
  exact Ev.neg (dn h) hb1
 | x :: t, i, h => by
  obtain ⟨h1, h2, h3, h4, h5⟩ := ds h
  have e : zje d.cols (i : Int) = x := h2 _
  by_cases q1 : (x.length : Int) > 60
  ·refine ⟨false, Ev.succ ?_, fun h => by cases h⟩
   simp only [zac.l1]
   rw [e]
   exact Ev.pos h1 (Ev.pos (nn i) (Ev.pos h1 (Ev.pos q1 (Ev.pure _))))
  ·obtain ⟨b, hb1, hb2⟩ := few_l1 d hc bs hb t (i + 1) h3
   refine ⟨b, Ev.succ ?_, fun h => ⟨fun y hy => ?_, (hb2 h).2⟩⟩
   ·simp only [zac.l1]
    rw [e, ws (by omega)]
    exact Ev.pos h1 (Ev.pos (nn i) (Ev.pos h1 (Ev.neg q1 hb1)))
   ·rcases List.mem_cons.1 hy with rfl | hy
    ·omega
    ·exact (hb2 h).1 y hy
theorem few_l0 (d : Df) (hc : d.cols.length ≤ 20) (ho : d.on.length ≤ 5) (bs : List (List S54)) (hb : bs.length ≤ 1000) : ∀ (t : List Int) (i : Nat), d.on.drop i = t → ∃ b, Ev (fun k => zac.l0 k bs (d.on.length : Int) (i : Int) d.x0 d.x1 d.on d.wh d.cols d.g d.ag) b ∧ (b = true → (∀ n ∈ t, -1000 ≤ n ∧ n ≤ 1000) ∧ (∀ c ∈ d.cols, c.length ≤ 60) ∧ ∀ x ∈ bs, x.length ≤ 30 ∧ Small x)
 | [], i, h => by
  obtain ⟨b, hb1, hb2⟩ := few_l1 d hc bs hb d.cols 0 rfl
  refine ⟨b, Ev.succ ?_, fun h => ⟨fun c hc => (by cases hc), hb2 h⟩⟩
  simp only [zac.l0]
  exact Ev.neg (dn h) hb1
 | x :: t, i, h => by
  obtain ⟨h1, h2, h3, h4, h5⟩ := ds h
  have e : rd d.on (i : Int) = x := h2 _
  by_cases q1 : x < -1000
  ·refine ⟨false, Ev.succ ?_, fun h => by cases h⟩
   simp only [zac.l0]
   rw [e]
   exact Ev.pos h1 (Ev.pos (nn i) (Ev.pos h1 (Ev.pos q1 (Ev.pure _))))
  by_cases q2 : x > 1000
  ·refine ⟨false, Ev.succ ?_, fun h => by cases h⟩
   simp only [zac.l0]
   rw [e]
   exact Ev.pos h1 (Ev.pos (nn i) (Ev.pos h1 (Ev.neg q1 (Ev.pos q2 (Ev.pure _)))))
  ·obtain ⟨b, hb1, hb2⟩ := few_l0 d hc ho bs hb t (i + 1) h3
   refine ⟨b, Ev.succ ?_, fun h => ⟨fun y hy => ?_, (hb2 h).2⟩⟩
   ·simp only [zac.l0]
    rw [e, ws (by omega)]
    exact Ev.pos h1 (Ev.pos (nn i) (Ev.pos h1 (Ev.neg q1 (Ev.neg q2 hb1))))
   ·rcases List.mem_cons.1 hy with rfl | hy
    ·omega
    ·exact (hb2 h).1 y hy
theorem few_ev (d : Df) (wide : Int) (bs : List (List S54)) (hb : bs.length ≤ 1000) : ∃ b, Ev (fun k => zac.f k d.x0 d.x1 d.on d.wh d.cols d.g d.ag wide bs) b ∧ (b = true → Few d wide bs) := by
 unfold zac.f
 have bad : Ev (fun k => zac.j0 k bs true d.x0 d.x1 d.on d.wh d.cols d.g d.ag) false := by
  apply Ev.succ
  simp only [zac.j0]
  exact Ev.pos trivial (Ev.pure _)
 by_cases q1 : wide < 0
 ·exact ⟨false, Ev.pos q1 bad, fun h => by cases h⟩
 by_cases q2 : wide > 100
 ·exact ⟨false, Ev.neg q1 (Ev.pos q2 bad), fun h => by cases h⟩
 by_cases q3 : (d.cols.length : Int) > 20
 ·exact ⟨false, Ev.neg q1 (Ev.neg q2 (Ev.pos q3 bad)), fun h => by cases h⟩
 by_cases q4 : (d.wh.length : Int) > 60
 ·exact ⟨false, Ev.neg q1 (Ev.neg q2 (Ev.neg q3 (Ev.pos q4 bad))), fun h => by cases h⟩
 by_cases q5 : (d.on.length : Int) > 5
 ·refine ⟨false, Ev.neg q1 (Ev.neg q2 (Ev.neg q3 (Ev.neg q4 ?_))), fun h => by cases h⟩
  rw [decide_eq_true q5]; exact bad
 obtain ⟨b, hb1, hb2⟩ := few_l0 d (by omega) (by omega) bs hb d.on 0 rfl
 refine ⟨b, Ev.neg q1 (Ev.neg q2 (Ev.neg q3 (Ev.neg q4 ?_))), fun h => ⟨by omega, by omega, by omega, by omega, by omega, (hb2 h).2.1, (hb2 h).1, (hb2 h).2.2⟩⟩
 rw [decide_eq_false q5]
 apply Ev.succ
 simp only [zac.j0]
 exact Ev.neg (by decide) hb1
theorem Few.okD {d : Df} {wide : Int} {bs : List (List S54)} (h : Few d wide bs) : okD d := ⟨by have := h.on; omega, by have := h.wh; omega, h.cols, fun c hc => by have := h.col c hc; omega⟩
theorem Few.okB {d : Df} {wide : Int} {bs : List (List S54)} (h : Few d wide bs) {b : List S54} (hb : b ∈ bs) (hw : zcr b) : okB b ∧ b.length ≤ 30 := by
 have hh := h.bags b hb
 exact ⟨⟨okL_of hh.2 hw, by omega, hh.2.2⟩, hh.1⟩
def numV (n : Int) : S48 := ⟨2, n, ⟨#[]⟩⟩
def awD : Df := ⟨⟨#[116]⟩, ⟨#[]⟩, [], [], [[⟨1, 1, ⟨0, 0, ⟨#[]⟩⟩⟩]], [], []⟩
theorem awake_rows : zcw awD 2 [⟨[numV 0, numV 5], 1⟩] [] = ([⟨[numV 5], 1⟩], 0) := by decide +kernel
theorem awake14_ev : Ev (fun k => zaf.f k) true := by
 unfold zaf.f
 refine Ev.bind (Ev.of rfl) ?_
 have e : ∀ n, zca.f n = some ((numV n).f0, (numV n).f1, (numV n).f2) := fun n => rfl
 simp only [e, Option.bind_some]
 have hB : okB [⟨[numV 0, numV 5], 1⟩] := by
  have hr : okR [numV 0, numV 5] := ⟨by decide, fun v hv => by
   rcases List.mem_cons.1 hv with rfl | hv
   ·show (0 : Nat) ≤ _; exact Nat.zero_le _
   ·rw [List.mem_singleton.1 hv]; show (0 : Nat) ≤ _; exact Nat.zero_le _⟩
  refine ⟨⟨by decide, fun c hc => ?_⟩, by decide, fun c hc => ?_⟩
  ·rw [List.mem_singleton.1 hc]; exact ⟨hr, by decide, by decide⟩
  ·rw [List.mem_singleton.1 hc]; show 2 ≤ 40; decide
 have h := zgv awD ⟨by decide, by decide, by decide, fun c hc => by rw [List.mem_singleton.1 hc]; decide⟩ 2 [] [] [⟨[numV 0, numV 5], 1⟩] [] zfa zfa hB zfa
 unfold zcn at h
 rw [if_pos (show awD.on.length = 0 from rfl), awake_rows] at h
 refine Ev.bind h (Ev.pos rfl (Ev.pos (by decide) (Ev.pos rfl (Ev.pos (by decide) (Ev.pos ?_ (Ev.pos rfl (Ev.of ?_)))))))
 ·decide +kernel
 ·decide +kernel
theorem aw1 : Ev (fun k => (zaf.f k).bind fun t => (some t : Option Bool)) true := Ev.bind awake14_ev (Ev.pure _)
theorem bne0 {n : Int} : (n != 0) = true ↔ n ≠ 0 := by simp
end Go.Proofs.YtnggdcdiachkpaaDoor.Pure
