-- HALVED
import Derived.Test.YtnggdcdiachkpaaDoorPureFew
import Derived.Test.YtnggdcdiachkpaaDoorStatDeltaTrue
namespace Go.Proofs.YtnggdcdiachkpaaDoor.Pure
open Go.ChangeShapes Go.WideShapes Go.ChangeAt Go.RowKit Go.Proofs.YtnggdcdiachkpaaDoorW.PrintWords Go.Proofs.YtnggdcdiachkpaaDoorW.PrintLast Go.Proofs.YtnggdcdiachkpaaDoor.P Go.Proofs.YtnggdcdiachkpaaDoor.Open
set_option linter.unusedVariables false
set_option linter.unusedSimpArgs false
theorem DeltaTrue_ev (d : Df) (wide : Int) (l r dl dr : List S54) (wl : zcr l) (wr : zcr r) (wdl : zcr dl) (wdr : zcr dr) : Ev (fun k => zab.f k d.x0 d.x1 d.on d.wh d.cols d.g d.ag wide l r dl dr) true := by
 unfold zab.f
 obtain ⟨b, hb1, hb2⟩ := few_ev d wide [l, r, dl, dr] (by show (4 : Nat) ≤ 1000; decide)
 refine Ev.bind hb1 ?_
 have out1 : Ev (fun k => zab.j0 k wide l r dl dr true d.x0 d.x1 d.on d.wh d.cols d.g d.ag) true := by
  apply Ev.succ
  simp only [zab.j0]
  exact Ev.pos trivial aw1
 cases b with
 | false => exact Ev.neg (by decide) out1
 | true =>
  apply Ev.pos rfl
  have F := hb2 rfl
  have hd := F.okD
  have ol := F.okB (b := l) (by simp) wl
  have or_ := F.okB (b := r) (by simp) wr
  have odl := F.okB (b := dl) (by simp) wdl
  have odr := F.okB (b := dr) (by simp) wdr
  have main : ∀ c : Bool, Ev (fun k => zab.j0 k wide l r dl dr c d.x0 d.x1 d.on d.wh d.cols d.g d.ag) true := by
   intro c
   cases c with
   | true => exact out1
   | false =>
    apply Ev.succ
    simp only [zab.j0]
    apply Ev.neg (by decide)
    refine Ev.bind (zih d hd wide l r ol.1 or_.1) ?_
    refine Ev.bind (zgv d hd wide l r dl dr ol.1 or_.1 odl.1 odr.1) ?_
    refine Ev.bind (sum2 (F.bags l (by simp)).2 (F.bags dl (by simp)).2 wl wdl) ?_
    refine Ev.bind (sum2 (F.bags r (by simp)).2 (F.bags dr (by simp)).2 wr wdr) ?_
    have j1t : ∀ come was s t, Ev (fun k => zab.j1 k wide was come s t true d.x0 d.x1 d.on d.wh d.cols d.g d.ag) true := fun come was s t => by
     apply Ev.succ
     simp only [zab.j1]
     exact Ev.pos trivial aw1
    by_cases h1 : (zcw d wide l r).2 = 0
    ·apply Ev.pos h1
     by_cases h2 : (zcn d wide l r dl dr).2 = 0
     ·apply Ev.pos h2
      by_cases h3 : (sumS [l, dl]).2 = 0
      ·apply Ev.pos h3
       by_cases h4 : (sumS [r, dr]).2 = 0
       ·rw [show ((sumS [r, dr]).2 != 0) = false by simp [h4]]
        apply Ev.succ
        simp only [zab.j1]
        apply Ev.neg (by decide)
        have os := sumS_okB ol.1 odl.1 (by have := ol.2; have := odl.2; omega)
        have ot := sumS_okB or_.1 odr.1 (by have := or_.2; have := odr.2; omega)
        refine Ev.bind (zih d hd wide _ _ os ot) ?_
        have ow := zfr hd (wide := wide) ol.1 or_.1
        have oc := zhi hd (wide := wide) ol.1 or_.1 odl.1 odr.1
        refine Ev.bind (sum_ev [(zcw d wide l r).1, (zcn d wide l r dl dr).1] (show 2 ≤ 1000000 by decide) (fun b hb => ?_) (by
         have h8 := ow.2; have h9 := oc.2
         simp only [List.flatten_cons, List.flatten_nil, List.length_append, List.length_nil]; omega)) ?_
        ·rcases List.mem_cons.1 hb with rfl | hb
         ·exact ow.1
         ·rw [List.mem_singleton.1 hb]; exact oc.1
        have j2t : ∀ come now sum, Ev (fun k => zab.j2 k come now sum true) true := fun come now sum => by
         apply Ev.succ
         simp only [zab.j2]
         exact Ev.pos trivial aw1
        by_cases h5 : (zcw d wide (sumS [l, dl]).1 (sumS [r, dr]).1).2 = 0
        ·apply Ev.pos h5
         by_cases h6 : (sumS [(zcw d wide l r).1, (zcn d wide l r dl dr).1]).2 = 0
         ·rw [show ((sumS [(zcw d wide l r).1, (zcn d wide l r dl dr).1]).2 != 0) = false by simp [h6]]
          apply Ev.succ
          simp only [zab.j2]
          apply Ev.neg (by decide)
          rw [true_eq h1 h2 h3 h4 h5 h6]
          refine Ev.bind (eq_ev _ _ (zfr hd os ot).1) (Ev.pos (by simp) ?_)
          refine Ev.bind (zis _ oc.1) (Ev.pos (zgu _ _ _ _ _ _) aw1)
         ·rw [show ((sumS [(zcw d wide l r).1, (zcn d wide l r dl dr).1]).2 != 0) = true from bne0.2 h6]
          exact j2t _ _ _
        ·exact Ev.neg h5 (j2t _ _ _)
       ·rw [show ((sumS [r, dr]).2 != 0) = true from bne0.2 h4]
        exact j1t _ _ _ _
      ·exact Ev.neg h3 (j1t _ _ _ _)
     ·exact Ev.neg h2 (j1t _ _ _ _)
    ·exact Ev.neg h1 (j1t _ _ _ _)
  by_cases q : (d.on.length : Int) = 0
  ·exact Ev.pos q (main _)
  ·exact Ev.neg q (main _)
theorem DeltaTrue_pure : Stat.DeltaTrue := fun a0 a1 on wh cols g ag wide l r dl dr _ _ wl wr wdl wdr => (DeltaTrue_ev ⟨a0, a1, on, wh, cols, g, ag⟩ wide l r dl dr wl wr wdl wdr).get
end Go.Proofs.YtnggdcdiachkpaaDoor.Pure
