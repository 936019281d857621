-- HALVED
import Derived.Test.YtnggdcdiachkpaaDoorPureFew
import Derived.Test.YtnggdcdiachkpaaDoorStatDeltaNothing
namespace Go.Proofs.YtnggdcdiachkpaaDoor.Pure
open Go.ChangeShapes Go.WideShapes Go.ChangeAt Go.RowKit Go.Proofs.YtnggdcdiachkpaaDoorW.PrintWords Go.Proofs.YtnggdcdiachkpaaDoorW.PrintLast Go.Proofs.YtnggdcdiachkpaaDoor.P Go.Proofs.YtnggdcdiachkpaaDoor.Open
set_option linter.unusedVariables false
set_option linter.unusedSimpArgs false
theorem negs_fst (l : List S54) : (negS l).1 = if bagR l = true then l.map negC else [] := by unfold negS; split <;> rfl
theorem negS_okB {l : List S54} (ho : okB l) : okB (negS l).1 := by
 rw [negs_fst]
 split
 ·rename_i h
  refine ⟨⟨by rw [List.length_map]; exact ho.1.1, fun x hx => ?_⟩, by rw [List.length_map]; exact ho.2.1, fun x hx => ?_⟩
  ·obtain ⟨c, hc, rfl⟩ := List.mem_map.1 hx
   have := zji ((ziv h).1 c hc).1
   refine ⟨(ho.1.2 c hc).1, ?_⟩
   show -9223372036854775808 ≤ -c.f1 ∧ -c.f1 ≤ 9223372036854775807
   omega
  ·obtain ⟨c, hc, rfl⟩ := List.mem_map.1 hx
   exact ho.2.2 c hc
 ·exact zfa
theorem DeltaNothing_ev (d : Df) (wide : Int) (l r dl : List S54) (wl : zcr l) (wr : zcr r) (wdl : zcr dl) : Ev (fun k => zaa.f k d.x0 d.x1 d.on d.wh d.cols d.g d.ag wide l r dl) true := by
 unfold zaa.f
 obtain ⟨fb, hb1, hb2⟩ := few_ev d wide [l, r, dl] (by show (3 : Nat) ≤ 1000; decide)
 refine Ev.bind hb1 ?_
 have out1 : Ev (fun k => zaa.j0 k wide l r dl true d.x0 d.x1 d.on d.wh d.cols d.g d.ag) true := by
  apply Ev.succ
  simp only [zaa.j0]
  exact Ev.pos trivial aw1
 cases fb with
 | false => exact Ev.neg (by decide) out1
 | true =>
  apply Ev.pos rfl
  have F := hb2 rfl
  have hd := F.okD
  have ol := F.okB (b := l) (by simp) wl
  have or_ := F.okB (b := r) (by simp) wr
  have odl := F.okB (b := dl) (by simp) wdl
  have ona := negS_okB odl.1
  have main : ∀ c : Bool, Ev (fun k => zaa.j0 k wide l r dl c d.x0 d.x1 d.on d.wh d.cols d.g d.ag) true := by
   intro c
   cases c with
   | true => exact out1
   | false =>
    have os := sumS_okB ol.1 odl.1 (by have := ol.2; have := odl.2; omega)
    have j2t : ∀ x y, Ev (fun k => zaa.j2 k wide l r dl x y true d.x0 d.x1 d.on d.wh d.cols d.g d.ag) true := fun x y => by
     apply Ev.succ
     simp only [zaa.j2]
     exact Ev.pos trivial aw1
    have j1f : Ev (fun k => zaa.j1 k wide l r dl false d.x0 d.x1 d.on d.wh d.cols d.g d.ag) true := by
     apply Ev.succ
     simp only [zaa.j1]
     apply Ev.neg (by decide)
     refine Ev.bind (zgv d hd wide l r dl [] ol.1 or_.1 odl.1 zfa) ?_
     refine Ev.bind (negs_ev dl odl.1.1) ?_
     by_cases h1 : (zcn d wide l r dl []).2 = 0
     ·apply Ev.pos h1
      by_cases h2 : (negS dl).2 = 0
      ·rw [show ((negS dl).2 != 0) = false by simp [h2]]
       have hn : bagR dl = true := by
        unfold negS at h2
        split at h2
        ·assumption
        ·exact absurd h2 (by decide)
       have he : (negS dl).1 = dl.map negC := by rw [negs_fst, if_pos hn]
       apply Ev.succ
       simp only [zaa.j2]
       apply Ev.neg (by decide)
       refine Ev.bind (sum2 (F.bags l (by simp)).2 (F.bags dl (by simp)).2 wl wdl) ?_
       refine Ev.bind (zgv d hd wide _ r _ [] os or_.1 ona zfa) ?_
       have j3t : ∀ x y, Ev (fun k => zaa.j3 k x y true) true := fun x y => by
        apply Ev.succ
        simp only [zaa.j3]
        exact Ev.pos trivial aw1
       by_cases h3 : (sumS [l, dl]).2 = 0
       ·apply Ev.pos h3
        by_cases h4 : (zcn d wide (sumS [l, dl]).1 r (negS dl).1 []).2 = 0
        ·rw [show ((zcn d wide (sumS [l, dl]).1 r (negS dl).1 []).2 != 0) = false by simp [h4]]
         apply Ev.succ
         simp only [zaa.j3]
         apply Ev.neg (by decide)
         have ox := zhi hd (wide := wide) ol.1 or_.1 odl.1 zfa
         have oy := zhi hd (wide := wide) os or_.1 ona zfa
         have hs := sum_ev [(zcn d wide l r dl []).1, (zcn d wide (sumS [l, dl]).1 r (negS dl).1 []).1] (show 2 ≤ 1000000 by decide) (fun b hb => by
          rcases List.mem_cons.1 hb with rfl | hb
          ·exact ox.1
          ·rw [List.mem_singleton.1 hb]; exact oy.1) (by
          have h8 := ox.2; have h9 := oy.2
          simp only [List.flatten_cons, List.flatten_nil, List.length_append, List.length_nil]; omega)
         have hz : sumS [(zcn d wide l r dl []).1, (zcn d wide (sumS [l, dl]).1 r (negS dl).1 []).1] = ([], 0) := by
          rw [he] at h4 ⊢
          exact back_eq hn h1 h4
         rw [hz] at hs
         exact Ev.bind hs (Ev.pos rfl (Ev.pos rfl aw1))
        ·rw [show ((zcn d wide (sumS [l, dl]).1 r (negS dl).1 []).2 != 0) = true from bne0.2 h4]
         exact j3t _ _
       ·exact Ev.neg h3 (j3t _ _)
      ·rw [show ((negS dl).2 != 0) = true from bne0.2 h2]
       exact j2t _ _
     ·exact Ev.neg h1 (j2t _ _)
    apply Ev.succ
    simp only [zaa.j0]
    apply Ev.neg (by decide)
    refine Ev.bind (zgv d hd wide l r [] [] ol.1 or_.1 zfa zfa) ?_
    by_cases h0 : (zcn d wide l r [] []).2 = 0
    ·apply Ev.pos h0
     rw [none_eq h0]
     exact j1f
    ·exact Ev.neg h0 j1f
  have rights : Ev (fun k => (zbd.f k l).bind fun t856 => (if t856 = true then ((zbd.f k r).bind fun t857 => (zaa.j0 k wide l r dl (!t857) d.x0 d.x1 d.on d.wh d.cols d.g d.ag)) else (zaa.j0 k wide l r dl true d.x0 d.x1 d.on d.wh d.cols d.g d.ag))) true := by
   refine Ev.bind (zis l ol.1.1) ?_
   by_cases hq : bagR l = true
   ·exact Ev.pos hq (Ev.bind (zis r or_.1.1) (main _))
   ·exact Ev.neg hq out1
  by_cases q : (d.on.length : Int) = 0
  ·apply Ev.pos q
   by_cases q2 : (r.length : Int) > 0
   ·exact Ev.pos q2 out1
   ·exact Ev.neg q2 rights
  ·exact Ev.neg q rights
theorem DeltaNothing_pure : Stat.DeltaNothing := fun a0 a1 on wh cols g ag wide l r dl _ _ wl wr wdl => (DeltaNothing_ev ⟨a0, a1, on, wh, cols, g, ag⟩ wide l r dl wl wr wdl).get
end Go.Proofs.YtnggdcdiachkpaaDoor.Pure
