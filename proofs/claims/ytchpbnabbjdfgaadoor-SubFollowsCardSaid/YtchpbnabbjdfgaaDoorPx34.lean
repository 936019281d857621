-- HALVED
import Derived.Test.YtchpbnabbjdfgaaDoorPx0
import Derived.Test.YtchpbnabbjdfgaaDoorPx22
import Derived.Test.YtchpbnabbjdfgaaDoorPx23
namespace Go.Proofs.YtchpbnabbjdfgaaDoor.P
open Go.RowKit Go.Proofs.YtchpbnabbjdfgaaDoorW.PrintWords Go.Proofs.YtchpbnabbjdfgaaDoorW.PrintLast Go.Proofs.YtchpbnabbjdfgaaDoorW.PrintMore
attribute [local go_sem] zeb zfe zfa zfb zdl zdm zec zed   -- for this text's walks alone
set_option linter.unusedVariables false
set_option linter.unusedSimpArgs false
set_option maxHeartbeats 8000000
set_option maxRecDepth 100000
def zak.l0 : Nat → List (S81) → Int → Int → Option (Int)
 | 0, _, _, _ => none
 | k + 1, x0, x7, x8 => if x8 < x7 then (if 0 ≤ x8 then (if x8 < (x0.length : Int) then ((zft.f ((zax x0 x8).f0) ((zax x0 x8).f1)).bind fun t149 => (if t149 = true then (some x8) else (zak.l0 k x0 x7 (wrap64 (x8 + 1))))) else (none)) else (none)) else (some (-1))
def zak.f (k : Nat) (l0 : List (S81))  : Option (Int) := zak.l0 k l0 (l0.length : Int) 0
theorem zak.zby : ∀ k, (∀ y0 y1 y2, LeO (zak.l0 k y0 y1 y2) (zak.l0 (k + 1) y0 y1 y2))
 | 0 => fun _ _ _ r h => by simp [zak.l0] at h
 | k + 1 => by
  have ih0 := zak.zby k
  ·intro y0 y1 y2
   unfold zak.l0
   with_reducible repeat' first
   | apply ih0
   | apply LeO.refl
   | apply LeO.none
   | refine LeO.ite ?_ ?_
   | refine LeO.bind ?_ (fun _ => ?_)
theorem zak.mono : ∀ a0 k, LeO (zak.f k a0) (zak.f (k + 1) a0) := by
 intro a0 k
 have ih0 := zak.zby k
 unfold zak.f
 with_reducible repeat' first
   | apply ih0
   | apply LeO.refl
   | apply LeO.none
   | refine LeO.ite ?_ ?_
   | refine LeO.bind ?_ (fun _ => ?_)
theorem zak.calls (k : Nat) (A0 : Option Addr) (c0 : Nat) (l0 : List (S81))  (r : Int) (w : World) (hr0 : Kd.C k81 w A0 l0.length l0) (hc0 : l0.length ≤ c0) (h : zak.f k l0 = some r) :
  Calls Tryd.prog 89 #[.slice A0 l0.length c0, (.func (.func 69) #[] #[])] w fun e w' => e = .returned (.int .i64 r) ∧ Below w.heap.size w w' := by
 have hu81 := Tryd.underlying81; have HR0 := ak_ hr0; have HC0 := ak_ hc0; clear hr0 hc0; have HB := ak_ (Below.refl w.heap.size w); have H : (zak.l0 k l0 (l0.length : Int) 0) = some r := h; clear h; have H' := ak_ H; clear H; go_enter Tryd.func89, Tryd.ntmps89; go_wp2; go_loopg [8] k (fun kq v8 w' => ∃ (x8_1 : Int), v8 = .int .i64 x8_1 ∧ zab (zak.l0 kq l0 (l0.length : Int) x8_1 = some r) ∧ zab (kq ≤ k) ∧ zab (Below w.heap.size w w'))
 case atStart => exact ⟨(0), q6_, H', ⟨Nat.le_refl _⟩, ⟨q0_⟩⟩
 case round =>
  clear H'; obtain ⟨x8_1, rfl, HA, HK1, HB⟩ := hrel
  cases gk with
  | zero => exact absurd HA.out (by simp [zak.l0])
  | succ k1 =>
   have H := HA.out; clear HA; simp only [zak.l0] at H
   by_cases c3 : x8_1 < (l0.length : Int)
   ·rw [if_pos c3] at H; have c3b0 := decide_eq_true c3; clear c3
    by_cases c4 : 0 ≤ x8_1
    ·rw [if_pos c4] at H; have c4b0 := decide_eq_true c4; clear c4
     by_cases c5 : x8_1 < (l0.length : Int)
     ·rw [if_pos c5] at H; have c5b0 := decide_eq_true c5; clear c5; obtain ⟨t149, A6, H⟩ := bi_ H; try dsimp only at H
      have p148 : 0 ≤ (x8_1 : Int) := of_decide_eq_true q4_; have q148 : x8_1 < (l0.length : Int) := of_decide_eq_true q4_; obtain ⟨ad148, A148_0, c148_0, e148, hx148_0, hx148_1, hl148_0, hi148_0⟩ := zge HR0.out x8_1 p148 q148; cases e148; replace hx148_0 := hc_ HB.out hx148_0; replace hx148_1 := hc_ HB.out hx148_1; have HR148_0 := ak_ hi148_0; have HC148_0 := ak_ hl148_0; clear hi148_0 hl148_0; replace p148 := eq_true p148; replace q148 := eq_true q148
      by_cases c7 : t149 = true
      ·subst c7; replace H := ifT_ H; obtain rfl := Option.some.inj H; go_wp2_with (first | ((with_reducible refine zcg (t := 11) rfl ?_); refine zez (some 16) rfl rfl Tryd.func69 (by kernel_rfl) rfl #[.agg #[.slice A148_0 ((zax l0 x8_1).f0).length c148_0, .int .i64 ((zax l0 x8_1).f1)]] rfl (by rfl) q2_ ?_; (with_reducible refine ca_ (zft.calls _ _ ((zax l0 x8_1).f0) ((zax l0 x8_1).f1) true _ ?side1 HC148_0.out A6.out) ?_); (case side1 => exact cx_ (Kd.zcc HR148_0.out HB.out)); intro w8 hb; replace HB := bs_ hb; clear hb)); go_ret; exact ⟨q5_, q0_⟩
      ·replace c7 := Bool.eq_false_iff.mpr c7; subst c7; replace H := ifF_ H; have H' := ak_ H; clear H; go_wp2_with (first | ((with_reducible refine zcg (t := 11) rfl ?_); refine zez (some 16) rfl rfl Tryd.func69 (by kernel_rfl) rfl #[.agg #[.slice A148_0 ((zax l0 x8_1).f0).length c148_0, .int .i64 ((zax l0 x8_1).f1)]] rfl (by rfl) q2_ ?_; (with_reducible refine ca_ (zft.calls _ _ ((zax l0 x8_1).f0) ((zax l0 x8_1).f1) false _ ?side1 HC148_0.out A6.out) ?_); (case side1 => exact cx_ (Kd.zcc HR148_0.out HB.out)); intro w9 hb; replace HB := bs_ hb; clear hb)); go_roundg k1
       case measure => have := HK1.out; omega
       case rel => exact ⟨(wrap64 (x8_1 + 1)), q6_, H', ⟨kq_⟩, ⟨q0_⟩⟩
     ·rw [if_neg c5] at H; exact absurd H (by simp)
    ·rw [if_neg c4] at H; exact absurd H (by simp)
   ·rw [if_neg c3] at H; have c3b0 := decide_eq_false c3; clear c3; obtain rfl := Option.some.inj H; go_wp2; go_ret; exact ⟨q5_, q0_⟩
def zbp.f (k : Nat) (l0 : List (S81))  : Option (Bool) := (zak.f k l0).bind fun t150 => (some (decide (t150 ≥ 0)))
theorem zbp.mono : ∀ a0 k, LeO (zbp.f k a0) (zbp.f (k + 1) a0) := by
 intro a0 k
 unfold zbp.f
 with_reducible repeat' first
   | apply zak.mono
   | apply LeO.refl
   | apply LeO.none
   | refine LeO.ite ?_ ?_
   | refine LeO.bind ?_ (fun _ => ?_)
theorem zbp.calls (k : Nat) (A0 : Option Addr) (c0 : Nat) (l0 : List (S81))  (r : Bool) (w : World) (hr0 : Kd.C k81 w A0 l0.length l0) (hc0 : l0.length ≤ c0) (h : zbp.f k l0 = some r) :
  Calls Tryd.prog 68 #[.slice A0 l0.length c0, (.func (.func 69) #[] #[])] w fun e w' => e = .returned (.bool r) ∧ Below w.heap.size w w' := by
 have HR0 := ak_ hr0; have HC0 := ak_ hc0; clear hr0 hc0; have HB := ak_ (Below.refl w.heap.size w); have H : ((zak.f k l0).bind fun t150 => (some (decide (t150 ≥ 0)))) = some r := h; clear h; obtain ⟨t150, A3, H⟩ := bi_ H; replace H : (some (decide (t150 ≥ 0))) = some r := H; obtain rfl := Option.some.inj H; go_enter Tryd.func68, Tryd.ntmps68; go_wp2_with (first | ((with_reducible refine gc_ 89 rfl ?_); refine gl_ 7 Tryd.func89 #[.slice A0 l0.length c0, (.func (.func 69) #[] #[])] ?_; (with_reducible refine ca_ (zak.calls k _ _ l0  t150 _ ?side1 HC0.out A3.out) ?_); (case side1 => exact cx_ HR0.out); intro w4 hb; replace HB := bs_ hb; clear hb)); go_ret; exact ⟨q5_, q0_⟩
def zcz.f (k : Nat) (l0 : List (S81)) : Option (Bool) := (zbf.f k l0).bind fun t151 => (if t151 = true then ((zbp.f k l0).bind fun t152 => (some (!t152))) else (some false))
theorem zcz.mono : ∀ a0 k, LeO (zcz.f k a0) (zcz.f (k + 1) a0) := by
 intro a0 k
 unfold zcz.f
 with_reducible repeat' first
   | apply zbp.mono
   | apply zbf.mono
   | apply LeO.refl
   | apply LeO.none
   | refine LeO.ite ?_ ?_
   | refine LeO.bind ?_ (fun _ => ?_)
theorem zcz.calls (k : Nat) (A0 : Option Addr) (c0 : Nat) (l0 : List (S81)) (r : Bool) (w : World) (hr0 : Kd.C k81 w A0 l0.length l0) (hc0 : l0.length ≤ c0) (h : zcz.f k l0 = some r) (hG : Glob w) :
  Calls Tryd.prog 43 #[.slice A0 l0.length c0] w fun e w' => e = .returned (.bool r) ∧ Below w.heap.size w w' := by
 have HG := ak_ hG; clear hG; have HR0 := ak_ hr0; have HC0 := ak_ hc0; clear hr0 hc0; have HB := ak_ (Below.refl w.heap.size w); have H : ((zbf.f k l0).bind fun t151 => (if t151 = true then ((zbp.f k l0).bind fun t152 => (some (!t152))) else (some false))) = some r := h; clear h; obtain ⟨t151, A2, H⟩ := bi_ H; try dsimp only at H
 go_enter Tryd.func43, Tryd.ntmps43
 by_cases c3 : t151 = true
 ·subst c3; replace H := ifT_ H; obtain ⟨t152, A4, H⟩ := bi_ H; replace H : (some (!t152)) = some r := H; obtain rfl := Option.some.inj H; go_wp2_with (first | ((with_reducible refine gc_ 49 rfl ?_); refine gl_ 4 Tryd.func49 #[.slice A0 l0.length c0] ?_; (with_reducible refine ca_ (zbf.calls k _ _ l0 true _ ?side1 HC0.out A2.out q7_) ?_); (case side1 => exact cx_ HR0.out); intro w5 hb; replace HB := bs_ hb; clear hb) | (go_at_call 68; (with_reducible refine (zbp.calls k _ _ l0  t152 _ ?side1 HC0.out A4.out).mono ?_); (case side1 => exact cx_ (Kd.zcc HR0.out HB.out)); rintro e w6 ⟨rfl, hb⟩; replace HB := bs_ hb; clear hb)); go_ret; exact ⟨q5_, q0_⟩
 ·replace c3 := Bool.eq_false_iff.mpr c3; subst c3; replace H := ifF_ H; obtain rfl := Option.some.inj H; go_wp2_with (first | ((with_reducible refine gc_ 49 rfl ?_); refine gl_ 4 Tryd.func49 #[.slice A0 l0.length c0] ?_; (with_reducible refine ca_ (zbf.calls k _ _ l0 false _ ?side1 HC0.out A2.out q7_) ?_); (case side1 => exact cx_ HR0.out); intro w7 hb; replace HB := bs_ hb; clear hb)); go_ret; exact ⟨q5_, q0_⟩

end Go.Proofs.YtchpbnabbjdfgaaDoor.P
