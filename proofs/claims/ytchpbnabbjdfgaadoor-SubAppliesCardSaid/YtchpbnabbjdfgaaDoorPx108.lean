-- HALVED
import Derived.Test.YtchpbnabbjdfgaaDoorPx0
import Derived.Test.YtchpbnabbjdfgaaDoorPx1
import Derived.Test.YtchpbnabbjdfgaaDoorPx107
import Derived.Test.YtchpbnabbjdfgaaDoorPx98
namespace Go.Proofs.YtchpbnabbjdfgaaDoor.P
open Go.RowKit Go.Proofs.YtchpbnabbjdfgaaDoorW.PrintWords Go.Proofs.YtchpbnabbjdfgaaDoorW.PrintLast Go.Proofs.YtchpbnabbjdfgaaDoorW.PrintMore
attribute [local go_sem] zdo zfb zes zet zdb zdc zdp zdq   -- for this text's walks alone
set_option linter.unusedVariables false
set_option linter.unusedSimpArgs false
set_option maxHeartbeats 8000000
set_option maxRecDepth 100000
def zbc.l0 : Nat → List (S56) → Int → Option (Bool)
 | 0, _, _ => none
 | k + 1, x0, x3 => if x3 < (x0.length : Int) then (if 0 ≤ x3 then ((zaj.f k ((zbg x0 x3).f0)).bind fun t305 => (if t305 = true then (if (((zbg x0 x3).f1).length : Int) = 0 then (some false) else ((zam.f k ((zbg x0 x3).f1)).bind fun t308 => (if t308 = true then (zbc.l0 k x0 (wrap64 (x3 + 1))) else (some false)))) else (some false))) else (none)) else (some (decide ((x0.length : Int) < 17)))
def zbc.f (k : Nat) (l0 : List (S56)) : Option (Bool) := zbc.l0 k l0 0
theorem zbc.zbt : ∀ k, (∀ y0 y1, LeO (zbc.l0 k y0 y1) (zbc.l0 (k + 1) y0 y1))
 | 0 => fun _ _ r h => by simp [zbc.l0] at h
 | k + 1 => by
  have ih0 := zbc.zbt k
  ·intro y0 y1
   unfold zbc.l0
   with_reducible repeat' first
   | apply ih0
   | apply zaj.mono
   | apply zam.mono
   | apply LeO.refl
   | apply LeO.none
   | refine LeO.ite ?_ ?_
   | refine LeO.bind ?_ (fun _ => ?_)
theorem zbc.mono : ∀ a0 k, LeO (zbc.f k a0) (zbc.f (k + 1) a0) := by
 intro a0 k
 have ih0 := zbc.zbt k
 unfold zbc.f
 with_reducible repeat' first
   | apply ih0
   | apply zaj.mono
   | apply zam.mono
   | apply LeO.refl
   | apply LeO.none
   | refine LeO.ite ?_ ?_
   | refine LeO.bind ?_ (fun _ => ?_)
theorem zbc.calls (k : Nat) (A0 : Option Addr) (c0 : Nat) (l0 : List (S56)) (r : Bool) (w : World) (hr0 : Kd.C k56 w A0 l0.length l0) (hc0 : l0.length ≤ c0) (h : zbc.f k l0 = some r) :
  Calls Tryd.prog 33 #[.slice A0 l0.length c0] w fun e w' => e = .returned (.bool r) ∧ Below w.heap.size w w' := by
 have HR0 := ak_ hr0; have HC0 := ak_ hc0; clear hr0 hc0; have HB := ak_ (Below.refl w.heap.size w); have H : (zbc.l0 k l0 0) = some r := h; clear h; have H' := ak_ H; clear H; go_enter Tryd.func33, Tryd.ntmps33; go_wp2; go_loopg [3] k (fun kq v3 w' => ∃ (x3_1 : Int), v3 = .int .i64 x3_1 ∧ zad (zbc.l0 kq l0 x3_1 = some r) ∧ zad (kq ≤ k) ∧ zad (Below w.heap.size w w'))
 case atStart => exact ⟨(0), q5_, H', ⟨Nat.le_refl _⟩, ⟨q0_⟩⟩
 case round =>
  clear H'; obtain ⟨x3_1, rfl, HA, HK1, HB⟩ := hrel
  cases gk with
  | zero => exact absurd HA.out (by simp [zbc.l0])
  | succ k1 =>
   have H := HA.out; clear HA; simp only [zbc.l0] at H
   by_cases c2 : x3_1 < (l0.length : Int)
   ·rw [if_pos c2] at H; have c2b0 := decide_eq_true c2; clear c2
    by_cases c3 : 0 ≤ x3_1
    ·rw [if_pos c3] at H; have c3b0 := decide_eq_true c3; clear c3; obtain ⟨t305, A4, H⟩ := bi_ H; try dsimp only at H
     have p304 : 0 ≤ (x3_1 : Int) := of_decide_eq_true q3_; have q304 : x3_1 < (l0.length : Int) := of_decide_eq_true q3_; obtain ⟨ad304, A304_1, c304_1, e304, hx304_0, hx304_1, hl304_1, hi304_1⟩ := zfa HR0.out x3_1 p304 q304; cases e304; replace hx304_0 := hc_ HB.out hx304_0; replace hx304_1 := hc_ HB.out hx304_1; have HR304_1 := ak_ hi304_1; have HC304_1 := ak_ hl304_1; clear hi304_1 hl304_1
     by_cases c5 : t305 = true
     ·subst c5; replace H := ifT_ H; replace p304 := eq_true p304
      by_cases c6 : (((zbg l0 x3_1).f1).length : Int) = 0
      ·rw [if_pos c6] at H; have c6b0 := bq_ c6; have c6b1 := bq0_ c6; clear c6; obtain rfl := Option.some.inj H; replace q304 := eq_true q304; go_wp2_with (first | ((with_reducible refine gc_ 53 rfl ?_); refine gl_ 15 Tryd.func53 #[.string ((zbg l0 x3_1).f0)] ?_; (with_reducible refine ca_ (zaj.calls k1 ((zbg l0 x3_1).f0) true _ A4.out) ?_); intro w7 hb; replace HB := bs_ hb; clear hb; have p306 : 0 ≤ (x3_1 : Int) := of_decide_eq_true q3_; have q306 : x3_1 < (l0.length : Int) := of_decide_eq_true q3_; obtain ⟨ad306, A306_1, c306_1, e306, hx306_0, hx306_1, hl306_1, hi306_1⟩ := zfa HR0.out x3_1 p306 q306; obtain rfl : ad304 = ad306 := (by injection e306); replace hx306_0 := hc_ HB.out hx306_0; replace hx306_1 := hc_ HB.out hx306_1; have HR306_1 := ak_ hi306_1; have HC306_1 := ak_ hl306_1; clear hi306_1 hl306_1; replace p306 := eq_true p306; replace q306 := eq_true q306)); go_ret; exact ⟨q4_, q0_⟩
      ·rw [if_neg c6] at H; have c6b0 := bn_ c6; have c6b1 := bn1_ c6; have c6b2 : ¬ (((zbg l0 x3_1).f1) = []) := fun h_ => c6 (by rw [h_]; rfl); obtain ⟨t308, A8, H⟩ := bi_ H; replace H : (if t308 = true then (zbc.l0 k1 l0 (wrap64 (x3_1 + 1))) else (some false)) = some r := H; replace q304 := eq_true q304
       by_cases c9 : t308 = true
       ·subst c9; replace H := ifT_ H; have H' := ak_ H; clear H; go_wp2_with (first | ((with_reducible refine gc_ 53 rfl ?_); refine gl_ 15 Tryd.func53 #[.string ((zbg l0 x3_1).f0)] ?_; (with_reducible refine ca_ (zaj.calls k1 ((zbg l0 x3_1).f0) true _ A4.out) ?_); intro w10 hb; replace HB := bs_ hb; clear hb; have p306 : 0 ≤ (x3_1 : Int) := of_decide_eq_true q3_; have q306 : x3_1 < (l0.length : Int) := of_decide_eq_true q3_; obtain ⟨ad306, A306_1, c306_1, e306, hx306_0, hx306_1, hl306_1, hi306_1⟩ := zfa HR0.out x3_1 p306 q306; obtain rfl : ad304 = ad306 := (by injection e306); replace hx306_0 := hc_ HB.out hx306_0; replace hx306_1 := hc_ HB.out hx306_1; have HR306_1 := ak_ hi306_1; have HC306_1 := ak_ hl306_1; clear hi306_1 hl306_1; replace p306 := eq_true p306; replace q306 := eq_true q306; have p307 : 0 ≤ (x3_1 : Int) := of_decide_eq_true q3_; have q307 : x3_1 < (l0.length : Int) := of_decide_eq_true q3_; obtain ⟨ad307, A307_1, c307_1, e307, hx307_0, hx307_1, hl307_1, hi307_1⟩ := zfa HR0.out x3_1 p307 q307; obtain rfl : ad304 = ad307 := (by injection e307); replace hx307_0 := hc_ HB.out hx307_0; replace hx307_1 := hc_ HB.out hx307_1; have HR307_1 := ak_ hi307_1; have HC307_1 := ak_ hl307_1; clear hi307_1 hl307_1; replace p307 := eq_true p307; replace q307 := eq_true q307; have ea_ := Option.some.inj (hx306_1.symm.trans hx307_1); injection ea_ with ea_ en_ ec_; subst ea_; subst ec_; clear en_) | (go_at_call 54; (with_reducible refine (zam.calls k1 _ _ ((zbg l0 x3_1).f1) true _ ?side1 HC307_1.out A8.out).mono ?_); (case side1 => exact cx_ (Kd.zch HR307_1.out HB.out)); rintro e w11 ⟨rfl, hb⟩; replace HB := bs_ hb; clear hb)); go_roundg k1
        case measure => have := HK1.out; omega
        case rel => exact ⟨(wrap64 (x3_1 + 1)), q5_, H', ⟨kq_⟩, ⟨q0_⟩⟩
       ·replace c9 := Bool.eq_false_iff.mpr c9; subst c9; replace H := ifF_ H; obtain rfl := Option.some.inj H; go_wp2_with (first | ((with_reducible refine gc_ 53 rfl ?_); refine gl_ 15 Tryd.func53 #[.string ((zbg l0 x3_1).f0)] ?_; (with_reducible refine ca_ (zaj.calls k1 ((zbg l0 x3_1).f0) true _ A4.out) ?_); intro w12 hb; replace HB := bs_ hb; clear hb; have p306 : 0 ≤ (x3_1 : Int) := of_decide_eq_true q3_; have q306 : x3_1 < (l0.length : Int) := of_decide_eq_true q3_; obtain ⟨ad306, A306_1, c306_1, e306, hx306_0, hx306_1, hl306_1, hi306_1⟩ := zfa HR0.out x3_1 p306 q306; obtain rfl : ad304 = ad306 := (by injection e306); replace hx306_0 := hc_ HB.out hx306_0; replace hx306_1 := hc_ HB.out hx306_1; have HR306_1 := ak_ hi306_1; have HC306_1 := ak_ hl306_1; clear hi306_1 hl306_1; replace p306 := eq_true p306; replace q306 := eq_true q306; have p307 : 0 ≤ (x3_1 : Int) := of_decide_eq_true q3_; have q307 : x3_1 < (l0.length : Int) := of_decide_eq_true q3_; obtain ⟨ad307, A307_1, c307_1, e307, hx307_0, hx307_1, hl307_1, hi307_1⟩ := zfa HR0.out x3_1 p307 q307; obtain rfl : ad304 = ad307 := (by injection e307); replace hx307_0 := hc_ HB.out hx307_0; replace hx307_1 := hc_ HB.out hx307_1; have HR307_1 := ak_ hi307_1; have HC307_1 := ak_ hl307_1; clear hi307_1 hl307_1; replace p307 := eq_true p307; replace q307 := eq_true q307; have ea_ := Option.some.inj (hx306_1.symm.trans hx307_1); injection ea_ with ea_ en_ ec_; subst ea_; subst ec_; clear en_) | (go_at_call 54; (with_reducible refine (zam.calls k1 _ _ ((zbg l0 x3_1).f1) false _ ?side1 HC307_1.out A8.out).mono ?_); (case side1 => exact cx_ (Kd.zch HR307_1.out HB.out)); rintro e w13 ⟨rfl, hb⟩; replace HB := bs_ hb; clear hb)); go_ret; exact ⟨q4_, q0_⟩
     ·replace c5 := Bool.eq_false_iff.mpr c5; subst c5; replace H := ifF_ H; obtain rfl := Option.some.inj H; replace p304 := eq_true p304; replace q304 := eq_true q304; go_wp2_with (first | ((with_reducible refine gc_ 53 rfl ?_); refine gl_ 15 Tryd.func53 #[.string ((zbg l0 x3_1).f0)] ?_; (with_reducible refine ca_ (zaj.calls k1 ((zbg l0 x3_1).f0) false _ A4.out) ?_); intro w14 hb; replace HB := bs_ hb; clear hb)); go_ret; exact ⟨q4_, q0_⟩
    ·rw [if_neg c3] at H; exact absurd H (by simp)
   ·rw [if_neg c2] at H; have c2b0 := decide_eq_false c2; clear c2; obtain rfl := Option.some.inj H; go_wp2; go_ret; exact ⟨q4_, q0_⟩
mutual
def zah.l0 : Nat → List (S56) → Int → Option (Bool)
 | 0, _, _ => none
 | k + 1, x0, x3 => if x3 < (x0.length : Int) then (if x3 > 0 then (if 0 ≤ (wrap64 (x3 - 1)) then (if (wrap64 (x3 - 1)) < (x0.length : Int) then (if 0 ≤ x3 then (zah.j1 k x0 x3 (!(Op.bytesLess (((zbg x0 (wrap64 (x3 - 1))).f0).toList) (((zbg x0 x3).f0).toList)))) else (none)) else (none)) else (none)) else (zah.j1 k x0 x3 false)) else ((zbc.f k x0).bind fun t309 => (some t309))
def zah.j1 : Nat → List (S56) → Int → Bool → Option (Bool)
 | 0, _, _, _ => none
 | k + 1, x0, x3, x26 => if x26 = true then (some false) else (zah.l1 k x0 x3 0)
def zah.l1 : Nat → List (S56) → Int → Int → Option (Bool)
 | 0, _, _, _ => none
 | k + 1, x0, x3, x4 => if 0 ≤ x3 then (if x3 < (x0.length : Int) then (if x4 < (((zbg x0 x3).f1).length : Int) then (if 0 ≤ x4 then (if ((zal ((zbg x0 x3).f1) x4).f1) < 0 then (some false) else (zah.l1 k x0 x3 (wrap64 (x4 + 1)))) else (none)) else (zah.l0 k x0 (wrap64 (x3 + 1)))) else (none)) else (none)
end
def zah.f (k : Nat) (l0 : List (S56)) : Option (Bool) := zah.l0 k l0 0
theorem zah.zbt : ∀ k, (∀ y0 y1, LeO (zah.l0 k y0 y1) (zah.l0 (k + 1) y0 y1)) ∧ (∀ y0 y1 y2, LeO (zah.j1 k y0 y1 y2) (zah.j1 (k + 1) y0 y1 y2)) ∧ (∀ y0 y1 y2, LeO (zah.l1 k y0 y1 y2) (zah.l1 (k + 1) y0 y1 y2))
 | 0 => ⟨fun _ _ r h => by simp [zah.l0] at h, fun _ _ _ r h => by simp [zah.j1] at h, fun _ _ _ r h => by simp [zah.l1] at h⟩
 | k + 1 => by
  obtain ⟨ih0, ih1, ih2⟩ := zah.zbt k
  refine ⟨?_, ?_, ?_⟩
  all_goals intros
  all_goals first
   | unfold zah.l0
   | unfold zah.j1
   | unfold zah.l1
  all_goals with_reducible repeat' first
   | apply ih0
   | apply ih1
   | apply ih2
   | apply zbc.mono
   | apply LeO.refl
   | apply LeO.none
   | refine LeO.ite ?_ ?_
   | refine LeO.bind ?_ (fun _ => ?_)
theorem zah.mono : ∀ a0 k, LeO (zah.f k a0) (zah.f (k + 1) a0) := by
 intro a0 k
 obtain ⟨ih0, ih1, ih2⟩ := zah.zbt k
 unfold zah.f
 with_reducible repeat' first
   | apply ih0
   | apply ih1
   | apply ih2
   | apply zbc.mono
   | apply LeO.refl
   | apply LeO.none
   | refine LeO.ite ?_ ?_
   | refine LeO.bind ?_ (fun _ => ?_)
theorem zah.calls (k : Nat) (A0 : Option Addr) (c0 : Nat) (l0 : List (S56)) (r : Bool) (w : World) (hr0 : Kd.C k56 w A0 l0.length l0) (hc0 : l0.length ≤ c0) (h : zah.f k l0 = some r) :
  Calls Tryd.prog 32 #[.slice A0 l0.length c0] w fun e w' => e = .returned (.bool r) ∧ Below w.heap.size w w' := by
 have HR0 := ak_ hr0; have HC0 := ak_ hc0; clear hr0 hc0; have HB := ak_ (Below.refl w.heap.size w); have H : (zah.l0 k l0 0) = some r := h; clear h; have H' := ak_ H; clear H; go_enter Tryd.func32, Tryd.ntmps32; go_wp2
 repeat (go_quiet (fail); try go_wp2)
 go_loopg [3] k (fun kq v3 w' => ∃ (x3_1 : Int), v3 = .int .i64 x3_1 ∧ zad (zah.l0 kq l0 x3_1 = some r) ∧ zad (kq ≤ k) ∧ zad (Below w.heap.size w w'))
 case atStart => exact ⟨(0), q5_, H', ⟨Nat.le_refl _⟩, ⟨q0_⟩⟩
 case round =>
  clear H'; obtain ⟨x3_1, rfl, HA, HK1, HB⟩ := hrel
  cases gk with
  | zero => exact absurd HA.out (by simp [zah.l0])
  | succ k1 =>
   have H := HA.out; clear HA; simp only [zah.l0] at H
   by_cases c2 : x3_1 < (l0.length : Int)
   ·rw [if_pos c2] at H; have c2b0 := decide_eq_true c2; clear c2; have HC3 := ak_ H; clear H; go_upto_region 4 with (fail)
    repeat (go_quiet (fail); go_upto_region 4 with (fail))
    go_cut [26] (fun v26 wc => ∃ (kq : Nat) (x26_2 : Bool), v26 = .bool x26_2 ∧ zad (zah.j1 kq l0 x3_1 x26_2 = some r) ∧ zad (kq ≤ k1) ∧ zad (Below w.heap.size w wc))
    case first =>
     have H := HC3.out; clear HC3
     by_cases c4 : x3_1 > 0
     ·rw [if_pos c4] at H; have c4b0 : decide (0 < x3_1) = true := decide_eq_true c4; clear c4; (first | rw [c4b0] | (simp only [zfu, zgu]; rw [c4b0]) | skip); obtain ⟨ji5, hji5⟩ : ∃ j_ : Int, (wrap64 (x3_1 - 1)) = j_ := ⟨_, rfl⟩; replace H : (if 0 ≤ (ji5) then (if (ji5) < (l0.length : Int) then (if 0 ≤ x3_1 then (zah.j1 k1 l0 x3_1 (!(Op.bytesLess (((zbg l0 (ji5)).f0).toList) (((zbg l0 x3_1).f0).toList)))) else (none)) else (none)) else (none)) = some r := by first | (rw [hji5] at H; exact H) | (simp only [hji5] at H ⊢; exact H)
      have hji5w : (IntKind.i64.wrap (x3_1 - 1)) = ji5 := (zfu _).trans hji5
      by_cases c6 : 0 ≤ (ji5)
      ·rw [if_pos c6] at H; have c6b0 := decide_eq_true c6; clear c6
       by_cases c7 : (ji5) < (l0.length : Int)
       ·rw [if_pos c7] at H; have c7b0 := decide_eq_true c7; clear c7
        by_cases c8 : 0 ≤ x3_1
        ·rw [if_pos c8] at H; have c8b0 := decide_eq_true c8; clear c8; have H' := ak_ H; clear H; have p310 : 0 ≤ ((ji5) : Int) := of_decide_eq_true q3_; have q310 : (ji5) < (l0.length : Int) := of_decide_eq_true q3_; obtain ⟨ad310, A310_1, c310_1, e310, hx310_0, hx310_1, hl310_1, hi310_1⟩ := zfa HR0.out (ji5) p310 q310; cases e310; replace hx310_0 := hc_ HB.out hx310_0; replace hx310_1 := hc_ HB.out hx310_1; have HR310_1 := ak_ hi310_1; have HC310_1 := ak_ hl310_1; clear hi310_1 hl310_1; replace p310 := eq_true p310; replace q310 := eq_true q310; have p311 : 0 ≤ (x3_1 : Int) := of_decide_eq_true q3_; have q311 : x3_1 < (l0.length : Int) := of_decide_eq_true q3_; obtain ⟨ad311, A311_1, c311_1, e311, hx311_0, hx311_1, hl311_1, hi311_1⟩ := zfa HR0.out x3_1 p311 q311; obtain rfl : ad310 = ad311 := (by injection e311); replace hx311_0 := hc_ HB.out hx311_0; replace hx311_1 := hc_ HB.out hx311_1; have HR311_1 := ak_ hi311_1; have HC311_1 := ak_ hl311_1; clear hi311_1 hl311_1; replace p311 := eq_true p311; replace q311 := eq_true q311; go_wp2
         repeat (go_quiet (fail); try go_wp2)
         go_meet
         case rel => exact ⟨_, (!(Op.bytesLess (((zbg l0 (ji5)).f0).toList) (((zbg l0 x3_1).f0).toList))), (by first | rfl | (simp; done) | (simp only [← hji5] <;> (first | rfl | simp)) | (simp [*]; done)), H', ⟨q27_⟩, ⟨q0_⟩⟩
        ·rw [if_neg c8] at H; exact absurd H (by simp)
       ·rw [if_neg c7] at H; exact absurd H (by simp)
      ·rw [if_neg c6] at H; exact absurd H (by simp)
     ·rw [if_neg c4] at H; have c4b0 : decide (0 < x3_1) = false := decide_eq_false c4; clear c4; (first | rw [c4b0] | (simp only [zfu, zgu]; rw [c4b0]) | skip); have H' := ak_ H; clear H; go_wp2
      repeat (go_quiet (fail); try go_wp2)
      go_meet
      case rel => exact ⟨_, (false), q5_, H', ⟨q27_⟩, ⟨q0_⟩⟩
    case rest =>
     clear HC3; (try clear c2b0); obtain ⟨kq, x26_2, rfl, HA, HJ2, HB⟩ := hcut
     cases kq with
     | zero => exact absurd HA.out (by simp [zah.j1])
     | succ kj2 =>
      have H := HA.out; clear HA; simp only [zah.j1] at H
      by_cases c9 : x26_2 = true
      ·subst c9; replace H := ifT_ H; obtain rfl := Option.some.inj H; go_wp2
       repeat (go_quiet (fail); try go_wp2)
       go_ret; exact ⟨q4_, q0_⟩
      ·replace c9 := Bool.eq_false_iff.mpr c9; subst c9; replace H := ifF_ H; have H' := ak_ H; clear H; go_wp2
       repeat (go_quiet (fail); try go_wp2)
       go_loopg [4] kj2 (fun kq v4 w' => ∃ (x4_3 : Int), v4 = .int .i64 x4_3 ∧ zad (zah.l1 kq l0 x3_1 x4_3 = some r) ∧ zad (kq ≤ kj2) ∧ zad (Below w.heap.size w w'))
       case atStart => exact ⟨(0), q5_, H', ⟨Nat.le_refl _⟩, ⟨q0_⟩⟩
       case round =>
        clear H'; (try clear c9); obtain ⟨x4_3, rfl, HA, HK3, HB⟩ := hrel
        cases gk with
        | zero => exact absurd HA.out (by simp [zah.l1])
        | succ k3 =>
         have H := HA.out; clear HA; simp only [zah.l1] at H
         by_cases c10 : 0 ≤ x3_1
         ·rw [if_pos c10] at H; have c10b0 := decide_eq_true c10; clear c10
          by_cases c11 : x3_1 < (l0.length : Int)
          ·rw [if_pos c11] at H; have c11b0 := decide_eq_true c11; clear c11; have p312 : 0 ≤ (x3_1 : Int) := of_decide_eq_true q3_; have q312 : x3_1 < (l0.length : Int) := of_decide_eq_true q3_; obtain ⟨ad312, A312_1, c312_1, e312, hx312_0, hx312_1, hl312_1, hi312_1⟩ := zfa HR0.out x3_1 p312 q312; cases e312; replace hx312_0 := hc_ HB.out hx312_0; replace hx312_1 := hc_ HB.out hx312_1; have HR312_1 := ak_ hi312_1; have HC312_1 := ak_ hl312_1; clear hi312_1 hl312_1; replace p312 := eq_true p312; replace q312 := eq_true q312
           by_cases c12 : x4_3 < (((zbg l0 x3_1).f1).length : Int)
           ·rw [if_pos c12] at H; have c12b0 := decide_eq_true c12; clear c12
            by_cases c13 : 0 ≤ x4_3
            ·rw [if_pos c13] at H; have c13b0 := decide_eq_true c13; clear c13; have p313 : 0 ≤ (x3_1 : Int) := of_decide_eq_true q3_; have q313 : x3_1 < (l0.length : Int) := of_decide_eq_true q3_; obtain ⟨ad313, A313_1, c313_1, e313, hx313_0, hx313_1, hl313_1, hi313_1⟩ := zfa HR0.out x3_1 p313 q313; obtain rfl : ad312 = ad313 := (by injection e313); replace hx313_0 := hc_ HB.out hx313_0; replace hx313_1 := hc_ HB.out hx313_1; have HR313_1 := ak_ hi313_1; have HC313_1 := ak_ hl313_1; clear hi313_1 hl313_1; replace p313 := eq_true p313; replace q313 := eq_true q313; have ea_ := Option.some.inj (hx312_1.symm.trans hx313_1); injection ea_ with ea_ en_ ec_
             subst ea_; subst ec_; clear en_; have p314 : 0 ≤ (x4_3 : Int) := of_decide_eq_true q3_; have q314 : x4_3 < (((zbg l0 x3_1).f1).length : Int) := of_decide_eq_true q3_; obtain ⟨ad314, A314_0, c314_0, e314, hx314_0, hx314_1, hl314_0, hi314_0⟩ := zcq HR313_1.out x4_3 p314 q314; cases e314; replace hx314_0 := hc_ HB.out hx314_0; replace hx314_1 := hc_ HB.out hx314_1; have HR314_0 := ak_ hi314_0; have HC314_0 := ak_ hl314_0; clear hi314_0 hl314_0; replace p314 := eq_true p314; replace q314 := eq_true q314
             by_cases c14 : ((zal ((zbg l0 x3_1).f1) x4_3).f1) < 0
             ·rw [if_pos c14] at H; have c14b0 := decide_eq_true c14; clear c14; obtain rfl := Option.some.inj H; go_wp2
              repeat (go_quiet (fail); try go_wp2)
              go_ret; exact ⟨q4_, q0_⟩
             ·rw [if_neg c14] at H; have c14b0 := decide_eq_false c14; clear c14; have H' := ak_ H; clear H; go_wp2
              repeat (go_quiet (fail); try go_wp2)
              go_roundg k3
              case measure => have := HK1.out; have := HJ2.out; have := HK3.out; omega
              case rel => exact ⟨(wrap64 (x4_3 + 1)), q5_, H', ⟨by have := HK1.out; have := HJ2.out; have := HK3.out; omega⟩, ⟨q0_⟩⟩
            ·rw [if_neg c13] at H; exact absurd H (by simp)
           ·rw [if_neg c12] at H; have c12b0 := decide_eq_false c12; clear c12; have H' := ak_ H; clear H; go_wp2
            repeat (go_quiet (fail); try go_wp2)
            go_roundg k3
            case measure => have := HK1.out; have := HJ2.out; have := HK3.out; omega
            case rel => exact ⟨(wrap64 (x3_1 + 1)), q5_, H', ⟨by have := HK1.out; have := HJ2.out; have := HK3.out; omega⟩, ⟨q0_⟩⟩
          ·rw [if_neg c11] at H; exact absurd H (by simp)
         ·rw [if_neg c10] at H; exact absurd H (by simp)
   ·rw [if_neg c2] at H; have c2b0 := decide_eq_false c2; clear c2; obtain ⟨t309, A15, H⟩ := bi_ H; replace H : (some t309) = some r := H; obtain rfl := Option.some.inj H; go_wp2_with (first | (go_at_call 33; (with_reducible refine (zbc.calls k1 _ _ l0 t309 _ ?side1 HC0.out A15.out).mono ?_); (case side1 => exact cx_ (Kd.zch HR0.out HB.out)); rintro e w16 ⟨rfl, hb⟩; replace HB := bs_ hb; clear hb))
    repeat (go_quiet (first | (go_at_call 33; (with_reducible refine (zbc.calls k1 _ _ l0 t309 _ ?side1 HC0.out A15.out).mono ?_); (case side1 => exact cx_ (Kd.zch HR0.out HB.out)); rintro e w16 ⟨rfl, hb⟩; have n0_ := ak_ (zde q0_ hb); clear HB; have HB := n0_; clear n0_; clear hb; (try clear hb2); (try clear hk); (try clear hi))); try go_wp2_with (first | (go_at_call 33; (with_reducible refine (zbc.calls k1 _ _ l0 t309 _ ?side1 HC0.out A15.out).mono ?_); (case side1 => exact cx_ (Kd.zch HR0.out HB.out)); rintro e w16 ⟨rfl, hb⟩; have n0_ := ak_ (zde q0_ hb); clear HB; have HB := n0_; clear n0_; clear hb; (try clear hb2); (try clear hk); (try clear hi))))
    go_ret; exact ⟨q4_, q0_⟩

attribute [local go_sem high] eqA105
def zap.l0 : Nat → List (S105) → List (S105) → Int → Option (Bool)
 | 0, _, _, _ => none
 | k + 1, x0, x1, x5 => if x5 < (x0.length : Int) then (if 0 ≤ x5 then (if x5 < (x1.length : Int) then (if (!(((zbb x0 x5).f0) == ((zbb x1 x5).f0)) || (!(((zbb x0 x5).f1) == ((zbb x1 x5).f1)) || (!((((zbb x0 x5).f2).toList) == (((zbb x1 x5).f2).toList))))) = true then (some false) else (zap.l0 k x0 x1 (wrap64 (x5 + 1)))) else (none)) else (none)) else (some true)
def zap.f (k : Nat) (l0 : List (S105)) (l1 : List (S105)) : Option (Bool) := if (l0.length : Int) = (l1.length : Int) then (zap.l0 k l0 l1 0) else (some false)
theorem zap.zbt : ∀ k, (∀ y0 y1 y2, LeO (zap.l0 k y0 y1 y2) (zap.l0 (k + 1) y0 y1 y2))
 | 0 => fun _ _ _ r h => by simp [zap.l0] at h
 | k + 1 => by
  have ih0 := zap.zbt k
  ·intro y0 y1 y2
   unfold zap.l0
   with_reducible repeat' first
   | apply ih0
   | apply LeO.refl
   | apply LeO.none
   | refine LeO.ite ?_ ?_
   | refine LeO.bind ?_ (fun _ => ?_)
theorem zap.mono : ∀ a0 a1 k, LeO (zap.f k a0 a1) (zap.f (k + 1) a0 a1) := by
 intro a0 a1 k
 have ih0 := zap.zbt k
 unfold zap.f
 with_reducible repeat' first
   | apply ih0
   | apply LeO.refl
   | apply LeO.none
   | refine LeO.ite ?_ ?_
   | refine LeO.bind ?_ (fun _ => ?_)
theorem zap.calls (k : Nat) (A0 : Option Addr) (c0 : Nat) (l0 : List (S105)) (A1 : Option Addr) (c1 : Nat) (l1 : List (S105)) (r : Bool) (w : World) (hr0 : Kd.C k105 w A0 l0.length l0) (hc0 : l0.length ≤ c0) (hr1 : Kd.C k105 w A1 l1.length l1) (hc1 : l1.length ≤ c1) (h : zap.f k l0 l1 = some r) :
  Calls Tryd.prog 60 #[.slice A0 l0.length c0, .slice A1 l1.length c1] w fun e w' => e = .returned (.bool r) ∧ zcx w w' := by
 have hu105 := Tryd.underlying105; have HR0 := ak_ hr0; have HC0 := ak_ hc0; clear hr0 hc0; have HR1 := ak_ hr1; have HC1 := ak_ hc1; clear hr1 hc1; have H : (if (l0.length : Int) = (l1.length : Int) then (zap.l0 k l0 l1 0) else (some false)) = some r := h; clear h
 by_cases c3 : (l0.length : Int) = (l1.length : Int)
 ·rw [if_pos c3] at H; have c3b0 := bq_ c3; have c3b1 := bq0_ c3; have c3b2 : (l0.length == l1.length) = true := q44_; clear c3; have H' := ak_ H; clear H; go_enter Tryd.func60, Tryd.ntmps60; go_wp2
  repeat (go_quiet (fail); try go_wp2)
  go_loopg [5] k (fun kq v5 w' => ∃ (x5_1 : Int), v5 = .int .i64 x5_1 ∧ zad (zap.l0 kq l0 l1 x5_1 = some r) ∧ zad (kq ≤ k) ∧ zcx w w')
  case atStart => exact ⟨(0), q5_, H', ⟨Nat.le_refl _⟩, q7_⟩
  case round =>
   clear H'; (try clear c3b0 c3b1 c3b2); obtain ⟨x5_1, rfl, HA, HK1, ⟨m1, rfl⟩⟩ := hrel
   cases gk with
   | zero => exact absurd HA.out (by simp [zap.l0])
   | succ k1 =>
    have H := HA.out; clear HA; simp only [zap.l0] at H
    by_cases c4 : x5_1 < (l0.length : Int)
    ·rw [if_pos c4] at H; have c4b0 := decide_eq_true c4; clear c4
     by_cases c5 : 0 ≤ x5_1
     ·rw [if_pos c5] at H; have c5b0 := decide_eq_true c5; clear c5
      by_cases c6 : x5_1 < (l1.length : Int)
      ·rw [if_pos c6] at H; have c6b0 := decide_eq_true c6; clear c6; have p315 : 0 ≤ (x5_1 : Int) := of_decide_eq_true q3_; have q315 : x5_1 < (l0.length : Int) := of_decide_eq_true q3_; obtain ⟨ad315, e315, hx315_0, hx315_1, hx315_2⟩ := zhm HR0.out x5_1 p315 q315; cases e315; replace p315 := eq_true p315; replace q315 := eq_true q315; have p316 : 0 ≤ (x5_1 : Int) := of_decide_eq_true q3_; have q316 : x5_1 < (l1.length : Int) := of_decide_eq_true q3_; obtain ⟨ad316, e316, hx316_0, hx316_1, hx316_2⟩ := zhm HR1.out x5_1 p316 q316; cases e316; replace p316 := eq_true p316; replace q316 := eq_true q316
       by_cases c7 : (!(((zbb l0 x5_1).f0) == ((zbb l1 x5_1).f0)) || (!(((zbb l0 x5_1).f1) == ((zbb l1 x5_1).f1)) || (!((((zbb l0 x5_1).f2).toList) == (((zbb l1 x5_1).f2).toList))))) = true
       ·rw [if_pos c7] at H; have c7b0 : (!(((zbb l0 x5_1).f0) == ((zbb l1 x5_1).f0)) || (!(((zbb l0 x5_1).f1) == ((zbb l1 x5_1).f1)) || (!((((zbb l0 x5_1).f2).toList) == (((zbb l1 x5_1).f2).toList))))) = true := c7; clear c7; obtain rfl := Option.some.inj H; go_wp2
        repeat (go_quiet (fail); try go_wp2)
        go_ret; exact ⟨q5_, q7_⟩
       ·rw [if_neg c7] at H; have c7b0 : (!(((zbb l0 x5_1).f0) == ((zbb l1 x5_1).f0)) || (!(((zbb l0 x5_1).f1) == ((zbb l1 x5_1).f1)) || (!((((zbb l0 x5_1).f2).toList) == (((zbb l1 x5_1).f2).toList))))) = false := by simpa using c7
        clear c7; have H' := ak_ H; clear H; go_wp2
        repeat (go_quiet (fail); try go_wp2)
        go_roundg k1
        case measure => have := HK1.out; omega
        case rel => exact ⟨(wrap64 (x5_1 + 1)), q5_, H', ⟨kq_⟩, q7_⟩
      ·rw [if_neg c6] at H; exact absurd H (by simp)
     ·rw [if_neg c5] at H; exact absurd H (by simp)
    ·rw [if_neg c4] at H; have c4b0 := decide_eq_false c4; clear c4; obtain rfl := Option.some.inj H; go_wp2
     repeat (go_quiet (fail); try go_wp2)
     go_ret; exact ⟨q5_, q7_⟩
 ·rw [if_neg c3] at H; have c3b0 := bn_ c3; have c3b1 := bn1_ c3; have c3b2 : (l0.length == l1.length) = false := q44_; obtain rfl := Option.some.inj H; go_enter Tryd.func60, Tryd.ntmps60; go_wp2
  repeat (go_quiet (fail); try go_wp2)
  go_ret; exact ⟨q5_, q7_⟩
def zbi.l0 : Nat → List (S81) → List (S105) → Int → Int → Option (Int)
 | 0, _, _, _, _ => none
 | k + 1, x0, x1, x5, x6 => if x6 < (x0.length : Int) then (if 0 ≤ x6 then ((zap.f k ((zal x0 x6).f0) x1).bind fun t318 => (if t318 = true then (zbi.l0 k x0 x1 (wrap64 (x5 + ((zal x0 x6).f1))) (wrap64 (x6 + 1))) else (zbi.l0 k x0 x1 x5 (wrap64 (x6 + 1))))) else (none)) else (some x5)
def zbi.f (k : Nat) (l0 : List (S81)) (l1 : List (S105)) : Option (Int) := zbi.l0 k l0 l1 0 0
theorem zbi.zbt : ∀ k, (∀ y0 y1 y2 y3, LeO (zbi.l0 k y0 y1 y2 y3) (zbi.l0 (k + 1) y0 y1 y2 y3))
 | 0 => fun _ _ _ _ r h => by simp [zbi.l0] at h
 | k + 1 => by
  have ih0 := zbi.zbt k
  ·intro y0 y1 y2 y3
   unfold zbi.l0
   with_reducible repeat' first
   | apply ih0
   | apply zap.mono
   | apply LeO.refl
   | apply LeO.none
   | refine LeO.ite ?_ ?_
   | refine LeO.bind ?_ (fun _ => ?_)
theorem zbi.mono : ∀ a0 a1 k, LeO (zbi.f k a0 a1) (zbi.f (k + 1) a0 a1) := by
 intro a0 a1 k
 have ih0 := zbi.zbt k
 unfold zbi.f
 with_reducible repeat' first
   | apply ih0
   | apply zap.mono
   | apply LeO.refl
   | apply LeO.none
   | refine LeO.ite ?_ ?_
   | refine LeO.bind ?_ (fun _ => ?_)
theorem zbi.calls (k : Nat) (A0 : Option Addr) (c0 : Nat) (l0 : List (S81)) (A1 : Option Addr) (c1 : Nat) (l1 : List (S105)) (r : Int) (w : World) (hr0 : Kd.C k81 w A0 l0.length l0) (hc0 : l0.length ≤ c0) (hr1 : Kd.C k105 w A1 l1.length l1) (hc1 : l1.length ≤ c1) (h : zbi.f k l0 l1 = some r) :
  Calls Tryd.prog 58 #[.slice A0 l0.length c0, .slice A1 l1.length c1] w fun e w' => e = .returned (.int .i64 r) ∧ zcx w w' := by
 have HR0 := ak_ hr0; have HC0 := ak_ hc0; clear hr0 hc0; have HR1 := ak_ hr1; have HC1 := ak_ hc1; clear hr1 hc1; have H : (zbi.l0 k l0 l1 0 0) = some r := h; clear h; have H' := ak_ H; clear H; go_enter Tryd.func58, Tryd.ntmps58; go_wp2; go_loopg [5, 6] k (fun kq v5 v6 w' => ∃ (x5_1 : Int) (x6_1 : Int), v5 = .int .i64 x5_1 ∧ v6 = .int .i64 x6_1 ∧ zad (zbi.l0 kq l0 l1 x5_1 x6_1 = some r) ∧ zad (kq ≤ k) ∧ zcx w w')
 case atStart => exact ⟨(0), (0), q5_, q5_, H', ⟨Nat.le_refl _⟩, q7_⟩
 case round =>
  clear H'; obtain ⟨x5_1, x6_1, rfl, rfl, HA, HK1, ⟨m1, rfl⟩⟩ := hrel
  cases gk with
  | zero => exact absurd HA.out (by simp [zbi.l0])
  | succ k1 =>
   have H := HA.out; clear HA; simp only [zbi.l0] at H
   by_cases c3 : x6_1 < (l0.length : Int)
   ·rw [if_pos c3] at H; have c3b0 := decide_eq_true c3; clear c3
    by_cases c4 : 0 ≤ x6_1
    ·rw [if_pos c4] at H; have c4b0 := decide_eq_true c4; clear c4; obtain ⟨t318, A5, H⟩ := bi_ H; try dsimp only at H
     have p317 : 0 ≤ (x6_1 : Int) := of_decide_eq_true q3_; have q317 : x6_1 < (l0.length : Int) := of_decide_eq_true q3_; obtain ⟨ad317, A317_0, c317_0, e317, hx317_0, hx317_1, hl317_0, hi317_0⟩ := zcq HR0.out x6_1 p317 q317; cases e317; have HR317_0 := ak_ hi317_0; have HC317_0 := ak_ hl317_0; clear hi317_0 hl317_0; replace p317 := eq_true p317; replace q317 := eq_true q317
     by_cases c6 : t318 = true
     ·subst c6; replace H := ifT_ H; have H' := ak_ H; clear H; go_wp2_with (first | ((with_reducible refine gc_ 60 rfl ?_); refine gl_ 19 Tryd.func60 #[.slice A317_0 ((zal l0 x6_1).f0).length c317_0, .slice A1 l1.length c1] ?_; (with_reducible refine (zap.calls k1 _ _ ((zal l0 x6_1).f0) _ _ l1 true _ ?side1 HC317_0.out ?side3 HC1.out A5.out).mono ?_); (case side1 => exact cx_ HR317_0.out); (case side3 => exact cx_ HR1.out); rintro e w' ⟨rfl, ⟨nd, rfl⟩⟩; refine ⟨_, rfl, ?_⟩; have p319 : 0 ≤ (x6_1 : Int) := of_decide_eq_true q3_; have q319 : x6_1 < (l0.length : Int) := of_decide_eq_true q3_; obtain ⟨ad319, A319_0, c319_0, e319, hx319_0, hx319_1, hl319_0, hi319_0⟩ := zcq HR0.out x6_1 p319 q319; obtain rfl : ad317 = ad319 := (by injection e319); have HR319_0 := ak_ hi319_0; have HC319_0 := ak_ hl319_0; clear hi319_0 hl319_0; replace p319 := eq_true p319; replace q319 := eq_true q319; have ea_ := Option.some.inj (hx317_0.symm.trans hx319_0); injection ea_ with ea_ en_ ec_; subst ea_; subst ec_; clear en_)); go_roundg k1
      case measure => have := HK1.out; omega
      case rel => exact ⟨(wrap64 (x5_1 + ((zal l0 x6_1).f1))), (wrap64 (x6_1 + 1)), q5_, q5_, H', ⟨kq_⟩, q7_⟩
     ·replace c6 := Bool.eq_false_iff.mpr c6; subst c6; replace H := ifF_ H; have H' := ak_ H; clear H; go_wp2_with (first | ((with_reducible refine gc_ 60 rfl ?_); refine gl_ 19 Tryd.func60 #[.slice A317_0 ((zal l0 x6_1).f0).length c317_0, .slice A1 l1.length c1] ?_; (with_reducible refine (zap.calls k1 _ _ ((zal l0 x6_1).f0) _ _ l1 false _ ?side1 HC317_0.out ?side3 HC1.out A5.out).mono ?_); (case side1 => exact cx_ HR317_0.out); (case side3 => exact cx_ HR1.out); rintro e w' ⟨rfl, ⟨nd, rfl⟩⟩; refine ⟨_, rfl, ?_⟩)); go_roundg k1
      case measure => have := HK1.out; omega
      case rel => exact ⟨(x5_1), (wrap64 (x6_1 + 1)), q5_, q5_, H', ⟨kq_⟩, q7_⟩
    ·rw [if_neg c4] at H; exact absurd H (by simp)
   ·rw [if_neg c3] at H; have c3b0 := decide_eq_false c3; clear c3; obtain rfl := Option.some.inj H; go_wp2; go_ret; exact ⟨q5_, q7_⟩

end Go.Proofs.YtchpbnabbjdfgaaDoor.P
