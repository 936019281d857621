-- HALVED
import Derived.Test.YtchpbnabbjdfgaaDoorPx0
import Derived.Test.YtchpbnabbjdfgaaDoorPx1
import Derived.Test.YtchpbnabbjdfgaaDoorPx114
import Derived.Test.YtchpbnabbjdfgaaDoorPx70
import Derived.Test.YtchpbnabbjdfgaaDoorPx97
namespace Go.Proofs.YtchpbnabbjdfgaaDoor.P
open Go.RowKit Go.Proofs.YtchpbnabbjdfgaaDoorW.PrintWords Go.Proofs.YtchpbnabbjdfgaaDoorW.PrintLast Go.Proofs.YtchpbnabbjdfgaaDoorW.PrintMore
attribute [local go_sem] zdo zfb zes zet zdb zdc zdp zdq   -- for this text's walks alone
set_option linter.unusedVariables false
set_option linter.unusedSimpArgs false
set_option maxHeartbeats 8000000
set_option maxRecDepth 100000
def zau.j0 : Nat → List (S56) → List (S56) → Bool → Option (Bool)
 | 0, _, _, _ => none
 | k + 1, x0, x1, x16 => if x16 = true then ((zaa.f k).bind fun t353 => (some t353)) else ((zce.f k x0 x1).bind fun bt354 => ((zak.f k x0 x1).bind fun bt358 => ((zaq.f k bt354.1 bt358.1).bind fun t362 => (if t362 = true then (if bt354.2 = bt358.2 then ((zaa.f k).bind fun t363 => (some t363)) else (some false)) else (some false)))))
def zau.f (k : Nat) (l0 : List (S56)) (l1 : List (S56)) : Option (Bool) := (zbd.f k l0).bind fun t351 => (if t351 = true then ((zbd.f k l1).bind fun t352 => (zau.j0 k l0 l1 (!t352))) else (zau.j0 k l0 l1 true))
theorem zau.zbt : ∀ k, (∀ y0 y1 y2, LeO (zau.j0 k y0 y1 y2) (zau.j0 (k + 1) y0 y1 y2))
 | 0 => fun _ _ _ r h => by simp [zau.j0] at h
 | k + 1 => by
  have ih0 := zau.zbt k
  ·intro y0 y1 y2
   unfold zau.j0
   with_reducible repeat' first
   | apply ih0
   | apply zaa.mono
   | apply zaq.mono
   | apply zbd.mono
   | apply zak.mono
   | apply zce.mono
   | apply LeO.refl
   | apply LeO.none
   | refine LeO.ite ?_ ?_
   | refine LeO.bind ?_ (fun _ => ?_)
theorem zau.mono : ∀ a0 a1 k, LeO (zau.f k a0 a1) (zau.f (k + 1) a0 a1) := by
 intro a0 a1 k
 have ih0 := zau.zbt k
 unfold zau.f
 with_reducible repeat' first
   | apply ih0
   | apply zaa.mono
   | apply zaq.mono
   | apply zbd.mono
   | apply zak.mono
   | apply zce.mono
   | apply LeO.refl
   | apply LeO.none
   | refine LeO.ite ?_ ?_
   | refine LeO.bind ?_ (fun _ => ?_)
theorem zau.calls (k : Nat) (A0 : Option Addr) (c0 : Nat) (l0 : List (S56)) (A1 : Option Addr) (c1 : Nat) (l1 : List (S56)) (r : Bool) (w : World) (hr0 : Kd.C k56 w A0 l0.length l0) (hc0 : l0.length ≤ c0) (hr1 : Kd.C k56 w A1 l1.length l1) (hc1 : l1.length ≤ c1) (h : zau.f k l0 l1 = some r) (hG : Glob w) :
  Calls Tryd.prog 3 #[.slice A0 l0.length c0, .slice A1 l1.length c1] w fun e w' => e = .returned (.bool r) ∧ Below w.heap.size w w' := by
 have HG := ak_ hG; clear hG; have HR0 := ak_ hr0; have HC0 := ak_ hc0; clear hr0 hc0; have HR1 := ak_ hr1; have HC1 := ak_ hc1; clear hr1 hc1; have HB := ak_ (Below.refl w.heap.size w); have H : ((zbd.f k l0).bind fun t351 => (if t351 = true then ((zbd.f k l1).bind fun t352 => (zau.j0 k l0 l1 (!t352))) else (zau.j0 k l0 l1 true))) = some r := h; clear h; have HC3 := ak_ H; clear H; go_enter Tryd.func3, Tryd.ntmps3; go_upto_region 1 with (fail)
 go_cut [16] (fun v16 wc => ∃ (kq : Nat) (x16_2 : Bool), v16 = .bool x16_2 ∧ zad (zau.j0 kq l0 l1 x16_2 = some r) ∧ zad (kq ≤ k) ∧ zad (Below w.heap.size w wc))
 case first =>
  have H := HC3.out; clear HC3; obtain ⟨t351, A4, H⟩ := bi_ H; try dsimp only at H
  by_cases c5 : t351 = true
  ·subst c5; replace H := ifT_ H; obtain ⟨t352, A6, H⟩ := bi_ H; replace H : (zau.j0 k l0 l1 (!t352)) = some r := H; have H' := ak_ H; clear H; go_wp2_with (first | ((with_reducible refine gc_ 8 rfl ?_); refine gl_ 10 Tryd.func8 #[.slice A0 l0.length c0] ?_; (with_reducible refine (zbd.calls k _ _ l0 true _ ?side1 HC0.out A4.out).mono ?_); (case side1 => exact cx_ (Kd.zch HR0.out HB.out)); rintro e w' ⟨rfl, ⟨nd, rfl⟩⟩; refine ⟨_, rfl, ?_⟩) | (go_at_call 8; (with_reducible refine (zbd.calls k _ _ l1 t352 _ ?side1 HC1.out A6.out).mono ?_); (case side1 => exact cx_ (Kd.zch HR1.out q0_)); rintro e w' ⟨rfl, ⟨nd, rfl⟩⟩)); go_meet
   case rel => exact ⟨_, (!t352), q5_, H', ⟨by first | omega | exact Nat.le_refl _⟩, ⟨q0_⟩⟩
  ·replace c5 := Bool.eq_false_iff.mpr c5; subst c5; replace H := ifF_ H; have H' := ak_ H; clear H; go_wp2_with (first | ((with_reducible refine gc_ 8 rfl ?_); refine gl_ 10 Tryd.func8 #[.slice A0 l0.length c0] ?_; (with_reducible refine (zbd.calls k _ _ l0 false _ ?side1 HC0.out A4.out).mono ?_); (case side1 => exact cx_ (Kd.zch HR0.out HB.out)); rintro e w' ⟨rfl, ⟨nd, rfl⟩⟩; refine ⟨_, rfl, ?_⟩)); go_meet
   case rel => exact ⟨_, (true), q5_, H', ⟨by first | omega | exact Nat.le_refl _⟩, ⟨q0_⟩⟩
 case rest =>
  clear HC3; obtain ⟨kq, x16_2, rfl, HA, HJ2, HB⟩ := hcut
  cases kq with
  | zero => exact absurd HA.out (by simp [zau.j0])
  | succ kj2 =>
   have H := HA.out; clear HA; simp only [zau.j0] at H
   by_cases c7 : x16_2 = true
   ·subst c7; replace H := ifT_ H; obtain ⟨t353, A8, H⟩ := bi_ H; replace H : (some t353) = some r := H; obtain rfl := Option.some.inj H; go_wp2_with (first | ((with_reducible refine gc_ 9 rfl ?_); refine gl_ 17 Tryd.func9 #[] ?_; (with_reducible refine ca_ (zaa.calls kj2  t353 _ A8.out q6_) ?_); intro w9 hb; replace HB := bs_ hb; clear hb)); go_ret; exact ⟨q4_, q0_⟩
   ·replace c7 := Bool.eq_false_iff.mpr c7; subst c7; replace H := ifF_ H; obtain ⟨⟨t354, t357⟩, A10, H⟩ := bi_ H; try dsimp only at H
    obtain ⟨⟨t358, t361⟩, A11, H⟩ := bi_ H; try dsimp only at H
    obtain ⟨t362, A12, H⟩ := bi_ H; try dsimp only at H
    by_cases c13 : t362 = true
    ·subst c13; replace H := ifT_ H
     by_cases c14 : t357 = t361
     ·rw [if_pos c14] at H; have c14b0 := bq_ c14; have c14b1 := bq0_ c14; clear c14; obtain ⟨t363, A15, H⟩ := bi_ H; replace H : (some t363) = some r := H; obtain rfl := Option.some.inj H; go_wp2_with (first | ((with_reducible refine gc_ 10 rfl ?_); refine gl_ 21 Tryd.func10 #[.slice A0 l0.length c0, .slice A1 l1.length c1] ?_; (with_reducible refine (zce.calls kj2 (fun k_ => k_ < w.heap.size) _ _ l0 (fun k_ => k_ < w.heap.size) _ _ l1 t354 t357 _ ?side1 ?side2 A10.out q6_).mono ?_); (case side1 => exact Kd.V_mk HC0.out (Kd.zdk (Kd.C_F zfp HR0.out) q0_)); (case side2 => exact Kd.V_mk HC1.out (Kd.zdk (Kd.C_F zfp HR1.out) q0_)); rintro e w16 ⟨v355, rfl, ho0, hb⟩; refine ⟨_, rfl, ?_⟩; have HO356 := ak_ (Kd.zij (Kd.zdm (ok' := fun k_ => True) ho0 (fun k_ hk_ => trivial)) (zcf q0_)); replace HB := bs_ hb; clear hb; (try clear ho0)) | ((with_reducible refine gc_ 11 rfl ?_); refine gl_ 27 Tryd.func11 #[.slice A0 l0.length c0, .slice A1 l1.length c1] ?_; (with_reducible refine (zak.calls kj2 (fun k_ => k_ < w.heap.size) _ _ l0 (fun k_ => k_ < w.heap.size) _ _ l1 t358 t361 _ ?side1 ?side2 A11.out).mono ?_); (case side1 => exact Kd.V_mk HC0.out (Kd.zdk (Kd.C_F zfp HR0.out) q0_)); (case side2 => exact Kd.V_mk HC1.out (Kd.zdk (Kd.C_F zfp HR1.out) q0_)); rintro e w17 ⟨v359, rfl, ho0, hb⟩; refine ⟨_, rfl, ?_⟩; have HO360 := ak_ (Kd.V_lower (Kd.zds (ok' := fun k_ => some k_ ≠ (v355 : Value).ownBlock) ho0 (fun k_ hk_ => Or.elim hk_ (fun hs_ => Or.elim hs_ (fun hs_ => fun e_ => Nat.not_le.2 hs_ (Kd.zha HO356.out k_ e_.symm)) (fun hs_ => fun e_ => Nat.not_le.2 hs_ (Kd.zha HO356.out k_ e_.symm))) (fun hn_ => (Kd.fresh' (Kd.N_lt q22_) k_ hn_)))) (zcf q0_)); replace HO356 := Nb_ q22_ hb; replace HB := bs_ hb; clear hb; (try clear ho0); obtain ⟨Ao18, co18, eo18⟩ := Kd.zdj HO356.out; subst eo18; obtain ⟨Ao19, co19, eo19⟩ := Kd.V_slice HO360.out; subst eo19) | ((with_reducible refine gc_ 12 rfl ?_); refine gl_ 32 Tryd.func12 #[.slice Ao18 t354.length co18, .slice Ao19 t358.length co19] ?_; (with_reducible refine (zaq.calls kj2 _ _ t354 _ _ t358 true _ ?side1 ?side2 ?side3 ?side4 A12.out).mono ?_); (case side1 => exact cx_ ((Kd.zcs HO356.out).2.2)); (case side2 => exact (Kd.zcs HO356.out).2.1); (case side3 => exact cx_ ((Kd.zbs HO360.out).2.2)); (case side4 => exact (Kd.zbs HO360.out).2.1); rintro e w' ⟨rfl, ⟨nd, rfl⟩⟩; refine ⟨_, rfl, ?_⟩) | (go_at_call 9; (with_reducible refine (zaa.calls kj2  t363 _ A15.out q6_).mono ?_); rintro e w20 ⟨rfl, hb⟩; replace HO356 := Nb_ q22_ hb; replace HO360 := Vb_ (by (with_reducible repeat (first | apply Kd.zex | apply Kd.zer | apply Kd.zfl)); exact HO360.out) hb; replace HB := bs_ hb; clear hb)); go_ret; exact ⟨q4_, q0_⟩
     ·rw [if_neg c14] at H; have c14b0 := bn_ c14; have c14b1 := bn1_ c14; obtain rfl := Option.some.inj H; go_wp2_with (first | ((with_reducible refine gc_ 10 rfl ?_); refine gl_ 21 Tryd.func10 #[.slice A0 l0.length c0, .slice A1 l1.length c1] ?_; (with_reducible refine (zce.calls kj2 (fun k_ => k_ < w.heap.size) _ _ l0 (fun k_ => k_ < w.heap.size) _ _ l1 t354 t357 _ ?side1 ?side2 A10.out q6_).mono ?_); (case side1 => exact Kd.V_mk HC0.out (Kd.zdk (Kd.C_F zfp HR0.out) q0_)); (case side2 => exact Kd.V_mk HC1.out (Kd.zdk (Kd.C_F zfp HR1.out) q0_)); rintro e w21 ⟨v355, rfl, ho0, hb⟩; refine ⟨_, rfl, ?_⟩; have HO356 := ak_ (Kd.zij (Kd.zdm (ok' := fun k_ => True) ho0 (fun k_ hk_ => trivial)) (zcf q0_)); replace HB := bs_ hb; clear hb; (try clear ho0)) | ((with_reducible refine gc_ 11 rfl ?_); refine gl_ 27 Tryd.func11 #[.slice A0 l0.length c0, .slice A1 l1.length c1] ?_; (with_reducible refine (zak.calls kj2 (fun k_ => k_ < w.heap.size) _ _ l0 (fun k_ => k_ < w.heap.size) _ _ l1 t358 t361 _ ?side1 ?side2 A11.out).mono ?_); (case side1 => exact Kd.V_mk HC0.out (Kd.zdk (Kd.C_F zfp HR0.out) q0_)); (case side2 => exact Kd.V_mk HC1.out (Kd.zdk (Kd.C_F zfp HR1.out) q0_)); rintro e w22 ⟨v359, rfl, ho0, hb⟩; refine ⟨_, rfl, ?_⟩; have HO360 := ak_ (Kd.V_lower (Kd.zds (ok' := fun k_ => some k_ ≠ (v355 : Value).ownBlock) ho0 (fun k_ hk_ => Or.elim hk_ (fun hs_ => Or.elim hs_ (fun hs_ => fun e_ => Nat.not_le.2 hs_ (Kd.zha HO356.out k_ e_.symm)) (fun hs_ => fun e_ => Nat.not_le.2 hs_ (Kd.zha HO356.out k_ e_.symm))) (fun hn_ => (Kd.fresh' (Kd.N_lt q22_) k_ hn_)))) (zcf q0_)); replace HO356 := Nb_ q22_ hb; replace HB := bs_ hb; clear hb; (try clear ho0); obtain ⟨Ao23, co23, eo23⟩ := Kd.zdj HO356.out; subst eo23; obtain ⟨Ao24, co24, eo24⟩ := Kd.V_slice HO360.out; subst eo24) | ((with_reducible refine gc_ 12 rfl ?_); refine gl_ 32 Tryd.func12 #[.slice Ao23 t354.length co23, .slice Ao24 t358.length co24] ?_; (with_reducible refine (zaq.calls kj2 _ _ t354 _ _ t358 true _ ?side1 ?side2 ?side3 ?side4 A12.out).mono ?_); (case side1 => exact cx_ ((Kd.zcs HO356.out).2.2)); (case side2 => exact (Kd.zcs HO356.out).2.1); (case side3 => exact cx_ ((Kd.zbs HO360.out).2.2)); (case side4 => exact (Kd.zbs HO360.out).2.1); rintro e w' ⟨rfl, ⟨nd, rfl⟩⟩; refine ⟨_, rfl, ?_⟩)); go_ret; exact ⟨q4_, q0_⟩
    ·replace c13 := Bool.eq_false_iff.mpr c13; subst c13; replace H := ifF_ H; obtain rfl := Option.some.inj H; go_wp2_with (first | ((with_reducible refine gc_ 10 rfl ?_); refine gl_ 21 Tryd.func10 #[.slice A0 l0.length c0, .slice A1 l1.length c1] ?_; (with_reducible refine (zce.calls kj2 (fun k_ => k_ < w.heap.size) _ _ l0 (fun k_ => k_ < w.heap.size) _ _ l1 t354 t357 _ ?side1 ?side2 A10.out q6_).mono ?_); (case side1 => exact Kd.V_mk HC0.out (Kd.zdk (Kd.C_F zfp HR0.out) q0_)); (case side2 => exact Kd.V_mk HC1.out (Kd.zdk (Kd.C_F zfp HR1.out) q0_)); rintro e w25 ⟨v355, rfl, ho0, hb⟩; refine ⟨_, rfl, ?_⟩; have HO356 := ak_ (Kd.zij (Kd.zdm (ok' := fun k_ => True) ho0 (fun k_ hk_ => trivial)) (zcf q0_)); replace HB := bs_ hb; clear hb; (try clear ho0)) | ((with_reducible refine gc_ 11 rfl ?_); refine gl_ 27 Tryd.func11 #[.slice A0 l0.length c0, .slice A1 l1.length c1] ?_; (with_reducible refine (zak.calls kj2 (fun k_ => k_ < w.heap.size) _ _ l0 (fun k_ => k_ < w.heap.size) _ _ l1 t358 t361 _ ?side1 ?side2 A11.out).mono ?_); (case side1 => exact Kd.V_mk HC0.out (Kd.zdk (Kd.C_F zfp HR0.out) q0_)); (case side2 => exact Kd.V_mk HC1.out (Kd.zdk (Kd.C_F zfp HR1.out) q0_)); rintro e w26 ⟨v359, rfl, ho0, hb⟩; refine ⟨_, rfl, ?_⟩; have HO360 := ak_ (Kd.V_lower (Kd.zds (ok' := fun k_ => some k_ ≠ (v355 : Value).ownBlock) ho0 (fun k_ hk_ => Or.elim hk_ (fun hs_ => Or.elim hs_ (fun hs_ => fun e_ => Nat.not_le.2 hs_ (Kd.zha HO356.out k_ e_.symm)) (fun hs_ => fun e_ => Nat.not_le.2 hs_ (Kd.zha HO356.out k_ e_.symm))) (fun hn_ => (Kd.fresh' (Kd.N_lt q22_) k_ hn_)))) (zcf q0_)); replace HO356 := Nb_ q22_ hb; replace HB := bs_ hb; clear hb; (try clear ho0); obtain ⟨Ao27, co27, eo27⟩ := Kd.zdj HO356.out; subst eo27; obtain ⟨Ao28, co28, eo28⟩ := Kd.V_slice HO360.out; subst eo28) | ((with_reducible refine gc_ 12 rfl ?_); refine gl_ 32 Tryd.func12 #[.slice Ao27 t354.length co27, .slice Ao28 t358.length co28] ?_; (with_reducible refine (zaq.calls kj2 _ _ t354 _ _ t358 false _ ?side1 ?side2 ?side3 ?side4 A12.out).mono ?_); (case side1 => exact cx_ ((Kd.zcs HO356.out).2.2)); (case side2 => exact (Kd.zcs HO356.out).2.1); (case side3 => exact cx_ ((Kd.zbs HO360.out).2.2)); (case side4 => exact (Kd.zbs HO360.out).2.1); rintro e w' ⟨rfl, ⟨nd, rfl⟩⟩; refine ⟨_, rfl, ?_⟩)); go_ret; exact ⟨q4_, q0_⟩

end Go.Proofs.YtchpbnabbjdfgaaDoor.P
