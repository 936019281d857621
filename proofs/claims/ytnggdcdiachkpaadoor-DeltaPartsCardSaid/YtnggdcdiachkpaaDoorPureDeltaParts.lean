-- HALVED
import Derived.Test.YtnggdcdiachkpaaDoorPureFew
import Derived.Test.YtnggdcdiachkpaaDoorStatDeltaParts
namespace Go.Proofs.YtnggdcdiachkpaaDoor.Pure
open Go.ChangeShapes Go.WideShapes Go.ChangeAt Go.RowKit Go.Proofs.YtnggdcdiachkpaaDoorW.PrintWords Go.Proofs.YtnggdcdiachkpaaDoorW.PrintLast Go.Proofs.YtnggdcdiachkpaaDoor.P Go.Proofs.YtnggdcdiachkpaaDoor.Open
set_option linter.unusedVariables false
set_option linter.unusedSimpArgs false
theorem DeltaParts_ev (d : Df) (wide : Int) (l r a b : List S54) (wl : zcr l) (wr : zcr r) (wa : zcr a) (wb : zcr b) : Ev (fun k => zae.f k d.x0 d.x1 d.on d.wh d.cols d.g d.ag wide l r a b) true := by
 unfold zae.f
 obtain ⟨fb, hb1, hb2⟩ := few_ev d wide [l, r, a, b] (by show (4 : Nat) ≤ 1000; decide)
 refine Ev.bind hb1 ?_
 have out1 : Ev (fun k => zae.j0 k wide l r a b true d.x0 d.x1 d.on d.wh d.cols d.g d.ag) true := by
  apply Ev.succ
  simp only [zae.j0]
  exact Ev.pos trivial aw1
 cases fb with
 | false => exact Ev.neg (by decide) out1
 | true =>
  apply Ev.pos rfl
  have F := hb2 rfl
  have hd := F.okD
  have ol := F.okB (b := l) (by simp) wl
  have or_ := F.okB (b := r) (by simp) wr
  have oa := F.okB (b := a) (by simp) wa
  have ob := F.okB (b := b) (by simp) wb
  have main : ∀ c : Bool, Ev (fun k => zae.j0 k wide l r a b c d.x0 d.x1 d.on d.wh d.cols d.g d.ag) true := by
   intro c
   cases c with
   | true => exact out1
   | false =>
    apply Ev.succ
    simp only [zae.j0]
    apply Ev.neg (by decide)
    have om := sumS_okB ol.1 oa.1 (by have := ol.2; have := oa.2; omega)
    have ot := sumS_okB oa.1 ob.1 (by have := oa.2; have := ob.2; omega)
    refine Ev.bind (sum2 (F.bags l (by simp)).2 (F.bags a (by simp)).2 wl wa) ?_
    refine Ev.bind (sum2 (F.bags a (by simp)).2 (F.bags b (by simp)).2 wa wb) ?_
    refine Ev.bind (zgv d hd wide l r a [] ol.1 or_.1 oa.1 zfa) ?_
    refine Ev.bind (zgv d hd wide _ r b [] om or_.1 ob.1 zfa) ?_
    refine Ev.bind (zgv d hd wide l r _ [] ol.1 or_.1 ot zfa) ?_
    have j1t : ∀ x y z, Ev (fun k => zae.j1 k x y z true) true := fun x y z => by
     apply Ev.succ
     simp only [zae.j1]
     exact Ev.pos trivial aw1
    by_cases h1 : (sumS [l, a]).2 = 0
    ·apply Ev.pos h1
     by_cases h2 : (sumS [a, b]).2 = 0
     ·apply Ev.pos h2
      by_cases h3 : (zcn d wide l r a []).2 = 0
      ·apply Ev.pos h3
       by_cases h4 : (zcn d wide (sumS [l, a]).1 r b []).2 = 0
       ·apply Ev.pos h4
        by_cases h5 : (zcn d wide l r (sumS [a, b]).1 []).2 = 0
        ·rw [show ((zcn d wide l r (sumS [a, b]).1 []).2 != 0) = false by simp [h5]]
         apply Ev.succ
         simp only [zae.j1]
         apply Ev.neg (by decide)
         have ox := zhi hd (wide := wide) ol.1 or_.1 oa.1 zfa
         have oy := zhi hd (wide := wide) om or_.1 ob.1 zfa
         refine Ev.bind (sum_ev [(zcn d wide l r a []).1, (zcn d wide (sumS [l, a]).1 r b []).1] (show 2 ≤ 1000000 by decide) (fun b hb => ?_) (by
          have h8 := ox.2; have h9 := oy.2
          simp only [List.flatten_cons, List.flatten_nil, List.length_append, List.length_nil]; omega)) ?_
         ·rcases List.mem_cons.1 hb with rfl | hb
          ·exact ox.1
          ·rw [List.mem_singleton.1 hb]; exact oy.1
         by_cases h6 : (sumS [(zcn d wide l r a []).1, (zcn d wide (sumS [l, a]).1 r b []).1]).2 = 0
         ·apply Ev.pos h6
          rw [parts_eq h2 h3 h4 h5 h6]
          exact Ev.bind (eq_ev _ _ (zhi hd (wide := wide) ol.1 or_.1 ot zfa).1) (Ev.pos (by simp) aw1)
         ·exact Ev.neg h6 aw1
        ·rw [show ((zcn d wide l r (sumS [a, b]).1 []).2 != 0) = true from bne0.2 h5]
         exact j1t _ _ _
       ·exact Ev.neg h4 (j1t _ _ _)
      ·exact Ev.neg h3 (j1t _ _ _)
     ·exact Ev.neg h2 (j1t _ _ _)
    ·exact Ev.neg h1 (j1t _ _ _)
  by_cases q : (d.on.length : Int) = 0
  ·exact Ev.pos q (main _)
  ·exact Ev.neg q (main _)
theorem DeltaParts_pure : Stat.DeltaParts := fun a0 a1 on wh cols g ag wide l r a b _ _ wl wr wa wb => (DeltaParts_ev ⟨a0, a1, on, wh, cols, g, ag⟩ wide l r a b wl wr wa wb).get
end Go.Proofs.YtnggdcdiachkpaaDoor.Pure
