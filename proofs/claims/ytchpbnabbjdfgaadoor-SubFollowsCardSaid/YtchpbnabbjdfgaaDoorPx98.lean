-- HALVED
import Derived.Test.YtchpbnabbjdfgaaDoorPx0
import Derived.Test.YtchpbnabbjdfgaaDoorPx1
import Derived.Test.YtchpbnabbjdfgaaDoorPx23
namespace Go.Proofs.YtchpbnabbjdfgaaDoor.P
open Go.RowKit Go.Proofs.YtchpbnabbjdfgaaDoorW.PrintWords Go.Proofs.YtchpbnabbjdfgaaDoorW.PrintLast Go.Proofs.YtchpbnabbjdfgaaDoorW.PrintMore
attribute [local go_sem] zeb zfe zfa zfb zdl zdm zec zed   -- for this text's walks alone
set_option linter.unusedVariables false
set_option linter.unusedSimpArgs false
set_option maxHeartbeats 8000000
set_option maxRecDepth 100000

attribute [local go_sem high] eqA105
def zal.l0 : Nat → List (S105) → List (S105) → Int → Option (Bool)
 | 0, _, _, _ => none
 | k + 1, x0, x1, x5 => if x5 < (x0.length : Int) then (if 0 ≤ x5 then (if x5 < (x1.length : Int) then (if (!(((zbj x0 x5).f0) == ((zbj x1 x5).f0)) || (!(((zbj x0 x5).f1) == ((zbj x1 x5).f1)) || (!((((zbj x0 x5).f2).toList) == (((zbj x1 x5).f2).toList))))) = true then (some false) else (zal.l0 k x0 x1 (wrap64 (x5 + 1)))) else (none)) else (none)) else (some true)
def zal.f (k : Nat) (l0 : List (S105)) (l1 : List (S105)) : Option (Bool) := if (l0.length : Int) = (l1.length : Int) then (zal.l0 k l0 l1 0) else (some false)
theorem zal.zby : ∀ k, (∀ y0 y1 y2, LeO (zal.l0 k y0 y1 y2) (zal.l0 (k + 1) y0 y1 y2))
 | 0 => fun _ _ _ r h => by simp [zal.l0] at h
 | k + 1 => by
  have ih0 := zal.zby k
  ·intro y0 y1 y2
   unfold zal.l0
   with_reducible repeat' first
   | apply ih0
   | apply LeO.refl
   | apply LeO.none
   | refine LeO.ite ?_ ?_
   | refine LeO.bind ?_ (fun _ => ?_)
theorem zal.mono : ∀ a0 a1 k, LeO (zal.f k a0 a1) (zal.f (k + 1) a0 a1) := by
 intro a0 a1 k
 have ih0 := zal.zby k
 unfold zal.f
 with_reducible repeat' first
   | apply ih0
   | apply LeO.refl
   | apply LeO.none
   | refine LeO.ite ?_ ?_
   | refine LeO.bind ?_ (fun _ => ?_)
theorem zal.calls (k : Nat) (A0 : Option Addr) (c0 : Nat) (l0 : List (S105)) (A1 : Option Addr) (c1 : Nat) (l1 : List (S105)) (r : Bool) (w : World) (hr0 : Kd.C k105 w A0 l0.length l0) (hc0 : l0.length ≤ c0) (hr1 : Kd.C k105 w A1 l1.length l1) (hc1 : l1.length ≤ c1) (h : zal.f k l0 l1 = some r) :
  Calls Tryd.prog 60 #[.slice A0 l0.length c0, .slice A1 l1.length c1] w fun e w' => e = .returned (.bool r) ∧ zdo w w' := by
 have hu105 := Tryd.underlying105; have HR0 := ak_ hr0; have HC0 := ak_ hc0; clear hr0 hc0; have HR1 := ak_ hr1; have HC1 := ak_ hc1; clear hr1 hc1; have H : (if (l0.length : Int) = (l1.length : Int) then (zal.l0 k l0 l1 0) else (some false)) = some r := h; clear h
 by_cases c3 : (l0.length : Int) = (l1.length : Int)
 ·rw [if_pos c3] at H; have c3b0 := bq_ c3; have c3b1 := bq0_ c3; have c3b2 : (l0.length == l1.length) = true := q50_; clear c3; have H' := ak_ H; clear H; go_enter Tryd.func60, Tryd.ntmps60; go_wp2
  repeat (go_quiet (fail); try go_wp2)
  go_loopg [5] k (fun kq v5 w' => ∃ (x5_1 : Int), v5 = .int .i64 x5_1 ∧ zab (zal.l0 kq l0 l1 x5_1 = some r) ∧ zab (kq ≤ k) ∧ zdo w w')
  case atStart => exact ⟨(0), q6_, H', ⟨Nat.le_refl _⟩, q9_⟩
  case round =>
   clear H'; (try clear c3b0 c3b1 c3b2); obtain ⟨x5_1, rfl, HA, HK1, ⟨m1, rfl⟩⟩ := hrel
   cases gk with
   | zero => exact absurd HA.out (by simp [zal.l0])
   | succ k1 =>
    have H := HA.out; clear HA; simp only [zal.l0] at H
    by_cases c4 : x5_1 < (l0.length : Int)
    ·rw [if_pos c4] at H; have c4b0 := decide_eq_true c4; clear c4
     by_cases c5 : 0 ≤ x5_1
     ·rw [if_pos c5] at H; have c5b0 := decide_eq_true c5; clear c5
      by_cases c6 : x5_1 < (l1.length : Int)
      ·rw [if_pos c6] at H; have c6b0 := decide_eq_true c6; clear c6; have p276 : 0 ≤ (x5_1 : Int) := of_decide_eq_true q4_; have q276 : x5_1 < (l0.length : Int) := of_decide_eq_true q4_; obtain ⟨ad276, e276, hx276_0, hx276_1, hx276_2⟩ := at_T105 HR0.out x5_1 p276 q276; cases e276; replace p276 := eq_true p276; replace q276 := eq_true q276; have p277 : 0 ≤ (x5_1 : Int) := of_decide_eq_true q4_; have q277 : x5_1 < (l1.length : Int) := of_decide_eq_true q4_; obtain ⟨ad277, e277, hx277_0, hx277_1, hx277_2⟩ := at_T105 HR1.out x5_1 p277 q277; cases e277; replace p277 := eq_true p277; replace q277 := eq_true q277
       by_cases c7 : (!(((zbj l0 x5_1).f0) == ((zbj l1 x5_1).f0)) || (!(((zbj l0 x5_1).f1) == ((zbj l1 x5_1).f1)) || (!((((zbj l0 x5_1).f2).toList) == (((zbj l1 x5_1).f2).toList))))) = true
       ·rw [if_pos c7] at H; have c7b0 : (!(((zbj l0 x5_1).f0) == ((zbj l1 x5_1).f0)) || (!(((zbj l0 x5_1).f1) == ((zbj l1 x5_1).f1)) || (!((((zbj l0 x5_1).f2).toList) == (((zbj l1 x5_1).f2).toList))))) = true := c7; clear c7; obtain rfl := Option.some.inj H; go_wp2
        repeat (go_quiet (fail); try go_wp2)
        go_ret; exact ⟨q6_, q9_⟩
       ·rw [if_neg c7] at H; have c7b0 : (!(((zbj l0 x5_1).f0) == ((zbj l1 x5_1).f0)) || (!(((zbj l0 x5_1).f1) == ((zbj l1 x5_1).f1)) || (!((((zbj l0 x5_1).f2).toList) == (((zbj l1 x5_1).f2).toList))))) = false := by simpa using c7
        clear c7; have H' := ak_ H; clear H; go_wp2
        repeat (go_quiet (fail); try go_wp2)
        go_roundg k1
        case measure => have := HK1.out; omega
        case rel => exact ⟨(wrap64 (x5_1 + 1)), q6_, H', ⟨kq_⟩, q9_⟩
      ·rw [if_neg c6] at H; exact absurd H (by simp)
     ·rw [if_neg c5] at H; exact absurd H (by simp)
    ·rw [if_neg c4] at H; have c4b0 := decide_eq_false c4; clear c4; obtain rfl := Option.some.inj H; go_wp2
     repeat (go_quiet (fail); try go_wp2)
     go_ret; exact ⟨q6_, q9_⟩
 ·rw [if_neg c3] at H; have c3b0 := bn_ c3; have c3b1 := bn1_ c3; have c3b2 : (l0.length == l1.length) = false := q50_; obtain rfl := Option.some.inj H; go_enter Tryd.func60, Tryd.ntmps60; go_wp2
  repeat (go_quiet (fail); try go_wp2)
  go_ret; exact ⟨q6_, q9_⟩
def zar.l0 : Nat → List (S81) → List (S81) → Int → Option (Bool)
 | 0, _, _, _ => none
 | k + 1, x0, x1, x5 => if x5 < (x0.length : Int) then (if 0 ≤ x5 then (if x5 < (x1.length : Int) then (if ((zax x0 x5).f1) = ((zax x1 x5).f1) then ((zal.f k ((zax x0 x5).f0) ((zax x1 x5).f0)).bind fun t282 => (if t282 = true then (zar.l0 k x0 x1 (wrap64 (x5 + 1))) else (some false))) else (some false)) else (none)) else (none)) else (some true)
def zar.f (k : Nat) (l0 : List (S81)) (l1 : List (S81)) : Option (Bool) := if (l0.length : Int) = (l1.length : Int) then (zar.l0 k l0 l1 0) else (some false)
theorem zar.zby : ∀ k, (∀ y0 y1 y2, LeO (zar.l0 k y0 y1 y2) (zar.l0 (k + 1) y0 y1 y2))
 | 0 => fun _ _ _ r h => by simp [zar.l0] at h
 | k + 1 => by
  have ih0 := zar.zby k
  ·intro y0 y1 y2
   unfold zar.l0
   with_reducible repeat' first
   | apply ih0
   | apply zal.mono
   | apply LeO.refl
   | apply LeO.none
   | refine LeO.ite ?_ ?_
   | refine LeO.bind ?_ (fun _ => ?_)
theorem zar.mono : ∀ a0 a1 k, LeO (zar.f k a0 a1) (zar.f (k + 1) a0 a1) := by
 intro a0 a1 k
 have ih0 := zar.zby k
 unfold zar.f
 with_reducible repeat' first
   | apply ih0
   | apply zal.mono
   | apply LeO.refl
   | apply LeO.none
   | refine LeO.ite ?_ ?_
   | refine LeO.bind ?_ (fun _ => ?_)
theorem zar.calls (k : Nat) (A0 : Option Addr) (c0 : Nat) (l0 : List (S81)) (A1 : Option Addr) (c1 : Nat) (l1 : List (S81)) (r : Bool) (w : World) (hr0 : Kd.C k81 w A0 l0.length l0) (hc0 : l0.length ≤ c0) (hr1 : Kd.C k81 w A1 l1.length l1) (hc1 : l1.length ≤ c1) (h : zar.f k l0 l1 = some r) :
  Calls Tryd.prog 36 #[.slice A0 l0.length c0, .slice A1 l1.length c1] w fun e w' => e = .returned (.bool r) ∧ zdo w w' := by
 have HR0 := ak_ hr0; have HC0 := ak_ hc0; clear hr0 hc0; have HR1 := ak_ hr1; have HC1 := ak_ hc1; clear hr1 hc1; have H : (if (l0.length : Int) = (l1.length : Int) then (zar.l0 k l0 l1 0) else (some false)) = some r := h; clear h
 by_cases c3 : (l0.length : Int) = (l1.length : Int)
 ·rw [if_pos c3] at H; have c3b0 := bq_ c3; have c3b1 := bq0_ c3; have c3b2 : (l0.length == l1.length) = true := q50_; clear c3; have H' := ak_ H; clear H; go_enter Tryd.func36, Tryd.ntmps36; go_wp2
  repeat (go_quiet (fail); try go_wp2)
  go_loopg [5] k (fun kq v5 w' => ∃ (x5_1 : Int), v5 = .int .i64 x5_1 ∧ zab (zar.l0 kq l0 l1 x5_1 = some r) ∧ zab (kq ≤ k) ∧ zdo w w')
  case atStart => exact ⟨(0), q6_, H', ⟨Nat.le_refl _⟩, q9_⟩
  case round =>
   clear H'; (try clear c3b0 c3b1 c3b2); obtain ⟨x5_1, rfl, HA, HK1, ⟨m1, rfl⟩⟩ := hrel
   cases gk with
   | zero => exact absurd HA.out (by simp [zar.l0])
   | succ k1 =>
    have H := HA.out; clear HA; simp only [zar.l0] at H
    by_cases c4 : x5_1 < (l0.length : Int)
    ·rw [if_pos c4] at H; have c4b0 := decide_eq_true c4; clear c4
     by_cases c5 : 0 ≤ x5_1
     ·rw [if_pos c5] at H; have c5b0 := decide_eq_true c5; clear c5
      by_cases c6 : x5_1 < (l1.length : Int)
      ·rw [if_pos c6] at H; have c6b0 := decide_eq_true c6; clear c6; have p278 : 0 ≤ (x5_1 : Int) := of_decide_eq_true q4_; have q278 : x5_1 < (l0.length : Int) := of_decide_eq_true q4_; obtain ⟨ad278, A278_0, c278_0, e278, hx278_0, hx278_1, hl278_0, hi278_0⟩ := zge HR0.out x5_1 p278 q278; cases e278; have HR278_0 := ak_ hi278_0; have HC278_0 := ak_ hl278_0; clear hi278_0 hl278_0; replace p278 := eq_true p278; replace q278 := eq_true q278; have p279 : 0 ≤ (x5_1 : Int) := of_decide_eq_true q4_; have q279 : x5_1 < (l1.length : Int) := of_decide_eq_true q4_; obtain ⟨ad279, A279_0, c279_0, e279, hx279_0, hx279_1, hl279_0, hi279_0⟩ := zge HR1.out x5_1 p279 q279; cases e279; have HR279_0 := ak_ hi279_0; have HC279_0 := ak_ hl279_0; clear hi279_0 hl279_0; replace p279 := eq_true p279; replace q279 := eq_true q279
       by_cases c7 : ((zax l0 x5_1).f1) = ((zax l1 x5_1).f1)
       ·rw [if_pos c7] at H; have c7b0 := bq_ c7; have c7b1 := bq0_ c7; clear c7; obtain ⟨t282, A8, H⟩ := bi_ H; replace H : (if t282 = true then (zar.l0 k1 l0 l1 (wrap64 (x5_1 + 1))) else (some false)) = some r := H; have p280 : 0 ≤ (x5_1 : Int) := of_decide_eq_true q4_; have q280 : x5_1 < (l0.length : Int) := of_decide_eq_true q4_; obtain ⟨ad280, A280_0, c280_0, e280, hx280_0, hx280_1, hl280_0, hi280_0⟩ := zge HR0.out x5_1 p280 q280; obtain rfl : ad278 = ad280 := (by injection e280); have HR280_0 := ak_ hi280_0; have HC280_0 := ak_ hl280_0; clear hi280_0 hl280_0; replace p280 := eq_true p280; replace q280 := eq_true q280; have ea_ := Option.some.inj (hx278_0.symm.trans hx280_0); injection ea_ with ea_ en_ ec_
        subst ea_; subst ec_; clear en_; have p281 : 0 ≤ (x5_1 : Int) := of_decide_eq_true q4_; have q281 : x5_1 < (l1.length : Int) := of_decide_eq_true q4_; obtain ⟨ad281, A281_0, c281_0, e281, hx281_0, hx281_1, hl281_0, hi281_0⟩ := zge HR1.out x5_1 p281 q281; obtain rfl : ad279 = ad281 := (by injection e281); have HR281_0 := ak_ hi281_0; have HC281_0 := ak_ hl281_0; clear hi281_0 hl281_0; replace p281 := eq_true p281; replace q281 := eq_true q281; have ea_ := Option.some.inj (hx279_0.symm.trans hx281_0); injection ea_ with ea_ en_ ec_
        subst ea_; subst ec_; clear en_
        by_cases c9 : t282 = true
        ·subst c9; replace H := ifT_ H; have H' := ak_ H; clear H; go_wp2_with (first | (go_at_call 60; (with_reducible refine (zal.calls k1 _ _ ((zax l0 x5_1).f0) _ _ ((zax l1 x5_1).f0) true _ ?side1 HC280_0.out ?side3 HC281_0.out A8.out).mono ?_); (case side1 => exact cx_ HR280_0.out); (case side3 => exact cx_ HR281_0.out); rintro e w' ⟨rfl, ⟨nd, rfl⟩⟩; (try first | exact ⟨rfl, _, World.drewN_drewN _ _ _⟩ | exact ⟨rfl, _, Eq.trans (World.drewN_drewN _ _ _) (congrArg (World.drewN _) (Nat.add_assoc _ _ _))⟩)))
         repeat (go_quiet (first | (go_at_call 60; (with_reducible refine (zal.calls k1 _ _ ((zax l0 x5_1).f0) _ _ ((zax l1 x5_1).f0) true _ ?side1 HC280_0.out ?side3 HC281_0.out A8.out).mono ?_); (case side1 => exact cx_ HR280_0.out); (case side3 => exact cx_ HR281_0.out); rintro e w' ⟨rfl, ⟨nd, rfl⟩⟩; (try first | exact ⟨rfl, _, World.drewN_drewN _ _ _⟩ | exact ⟨rfl, _, Eq.trans (World.drewN_drewN _ _ _) (congrArg (World.drewN _) (Nat.add_assoc _ _ _))⟩))); try go_wp2_with (first | (go_at_call 60; (with_reducible refine (zal.calls k1 _ _ ((zax l0 x5_1).f0) _ _ ((zax l1 x5_1).f0) true _ ?side1 HC280_0.out ?side3 HC281_0.out A8.out).mono ?_); (case side1 => exact cx_ HR280_0.out); (case side3 => exact cx_ HR281_0.out); rintro e w' ⟨rfl, ⟨nd, rfl⟩⟩; (try first | exact ⟨rfl, _, World.drewN_drewN _ _ _⟩ | exact ⟨rfl, _, Eq.trans (World.drewN_drewN _ _ _) (congrArg (World.drewN _) (Nat.add_assoc _ _ _))⟩))))
         go_roundg k1
         case measure => have := HK1.out; omega
         case rel => exact ⟨(wrap64 (x5_1 + 1)), q6_, H', ⟨kq_⟩, q9_⟩
        ·replace c9 := Bool.eq_false_iff.mpr c9; subst c9; replace H := ifF_ H; obtain rfl := Option.some.inj H; go_wp2_with (first | (go_at_call 60; (with_reducible refine (zal.calls k1 _ _ ((zax l0 x5_1).f0) _ _ ((zax l1 x5_1).f0) false _ ?side1 HC280_0.out ?side3 HC281_0.out A8.out).mono ?_); (case side1 => exact cx_ HR280_0.out); (case side3 => exact cx_ HR281_0.out); rintro e w' ⟨rfl, ⟨nd, rfl⟩⟩; (try first | exact ⟨rfl, _, World.drewN_drewN _ _ _⟩ | exact ⟨rfl, _, Eq.trans (World.drewN_drewN _ _ _) (congrArg (World.drewN _) (Nat.add_assoc _ _ _))⟩)))
         repeat (go_quiet (first | (go_at_call 60; (with_reducible refine (zal.calls k1 _ _ ((zax l0 x5_1).f0) _ _ ((zax l1 x5_1).f0) false _ ?side1 HC280_0.out ?side3 HC281_0.out A8.out).mono ?_); (case side1 => exact cx_ HR280_0.out); (case side3 => exact cx_ HR281_0.out); rintro e w' ⟨rfl, ⟨nd, rfl⟩⟩; (try first | exact ⟨rfl, _, World.drewN_drewN _ _ _⟩ | exact ⟨rfl, _, Eq.trans (World.drewN_drewN _ _ _) (congrArg (World.drewN _) (Nat.add_assoc _ _ _))⟩))); try go_wp2_with (first | (go_at_call 60; (with_reducible refine (zal.calls k1 _ _ ((zax l0 x5_1).f0) _ _ ((zax l1 x5_1).f0) false _ ?side1 HC280_0.out ?side3 HC281_0.out A8.out).mono ?_); (case side1 => exact cx_ HR280_0.out); (case side3 => exact cx_ HR281_0.out); rintro e w' ⟨rfl, ⟨nd, rfl⟩⟩; (try first | exact ⟨rfl, _, World.drewN_drewN _ _ _⟩ | exact ⟨rfl, _, Eq.trans (World.drewN_drewN _ _ _) (congrArg (World.drewN _) (Nat.add_assoc _ _ _))⟩))))
         go_ret; exact ⟨q6_, q9_⟩
       ·rw [if_neg c7] at H; have c7b0 := bn_ c7; have c7b1 := bn1_ c7; obtain rfl := Option.some.inj H; go_wp2
        repeat (go_quiet (fail); try go_wp2)
        go_ret; exact ⟨q6_, q9_⟩
      ·rw [if_neg c6] at H; exact absurd H (by simp)
     ·rw [if_neg c5] at H; exact absurd H (by simp)
    ·rw [if_neg c4] at H; have c4b0 := decide_eq_false c4; clear c4; obtain rfl := Option.some.inj H; go_wp2
     repeat (go_quiet (fail); try go_wp2)
     go_ret; exact ⟨q6_, q9_⟩
 ·rw [if_neg c3] at H; have c3b0 := bn_ c3; have c3b1 := bn1_ c3; have c3b2 : (l0.length == l1.length) = false := q50_; obtain rfl := Option.some.inj H; go_enter Tryd.func36, Tryd.ntmps36; go_wp2
  repeat (go_quiet (fail); try go_wp2)
  go_ret; exact ⟨q6_, q9_⟩
def zai.l0 : Nat → List (S56) → List (S56) → Int → Option (Bool)
 | 0, _, _, _ => none
 | k + 1, x0, x1, x5 => if x5 < (x0.length : Int) then (if 0 ≤ x5 then (if x5 < (x1.length : Int) then (if ((zbb x0 x5).f0).toList = ((zbb x1 x5).f0).toList then ((zar.f k ((zbb x0 x5).f1) ((zbb x1 x5).f1)).bind fun t287 => (if t287 = true then (zai.l0 k x0 x1 (wrap64 (x5 + 1))) else (some false))) else (some false)) else (none)) else (none)) else (some true)
def zai.f (k : Nat) (l0 : List (S56)) (l1 : List (S56)) : Option (Bool) := if (l0.length : Int) = (l1.length : Int) then (zai.l0 k l0 l1 0) else (some false)
theorem zai.zby : ∀ k, (∀ y0 y1 y2, LeO (zai.l0 k y0 y1 y2) (zai.l0 (k + 1) y0 y1 y2))
 | 0 => fun _ _ _ r h => by simp [zai.l0] at h
 | k + 1 => by
  have ih0 := zai.zby k
  ·intro y0 y1 y2
   unfold zai.l0
   with_reducible repeat' first
   | apply ih0
   | apply zar.mono
   | apply LeO.refl
   | apply LeO.none
   | refine LeO.ite ?_ ?_
   | refine LeO.bind ?_ (fun _ => ?_)
theorem zai.mono : ∀ a0 a1 k, LeO (zai.f k a0 a1) (zai.f (k + 1) a0 a1) := by
 intro a0 a1 k
 have ih0 := zai.zby k
 unfold zai.f
 with_reducible repeat' first
   | apply ih0
   | apply zar.mono
   | apply LeO.refl
   | apply LeO.none
   | refine LeO.ite ?_ ?_
   | refine LeO.bind ?_ (fun _ => ?_)
theorem zai.calls (k : Nat) (A0 : Option Addr) (c0 : Nat) (l0 : List (S56)) (A1 : Option Addr) (c1 : Nat) (l1 : List (S56)) (r : Bool) (w : World) (hr0 : Kd.C k56 w A0 l0.length l0) (hc0 : l0.length ≤ c0) (hr1 : Kd.C k56 w A1 l1.length l1) (hc1 : l1.length ≤ c1) (h : zai.f k l0 l1 = some r) :
  Calls Tryd.prog 12 #[.slice A0 l0.length c0, .slice A1 l1.length c1] w fun e w' => e = .returned (.bool r) ∧ zdo w w' := by
 have HR0 := ak_ hr0; have HC0 := ak_ hc0; clear hr0 hc0; have HR1 := ak_ hr1; have HC1 := ak_ hc1; clear hr1 hc1; have H : (if (l0.length : Int) = (l1.length : Int) then (zai.l0 k l0 l1 0) else (some false)) = some r := h; clear h
 by_cases c3 : (l0.length : Int) = (l1.length : Int)
 ·rw [if_pos c3] at H; have c3b0 := bq_ c3; have c3b1 := bq0_ c3; have c3b2 : (l0.length == l1.length) = true := q50_; clear c3; have H' := ak_ H; clear H; go_enter Tryd.func12, Tryd.ntmps12; go_wp2
  repeat (go_quiet (fail); try go_wp2)
  go_loopg [5] k (fun kq v5 w' => ∃ (x5_1 : Int), v5 = .int .i64 x5_1 ∧ zab (zai.l0 kq l0 l1 x5_1 = some r) ∧ zab (kq ≤ k) ∧ zdo w w')
  case atStart => exact ⟨(0), q6_, H', ⟨Nat.le_refl _⟩, q9_⟩
  case round =>
   clear H'; (try clear c3b0 c3b1 c3b2); obtain ⟨x5_1, rfl, HA, HK1, ⟨m1, rfl⟩⟩ := hrel
   cases gk with
   | zero => exact absurd HA.out (by simp [zai.l0])
   | succ k1 =>
    have H := HA.out; clear HA; simp only [zai.l0] at H
    by_cases c4 : x5_1 < (l0.length : Int)
    ·rw [if_pos c4] at H; have c4b0 := decide_eq_true c4; clear c4
     by_cases c5 : 0 ≤ x5_1
     ·rw [if_pos c5] at H; have c5b0 := decide_eq_true c5; clear c5
      by_cases c6 : x5_1 < (l1.length : Int)
      ·rw [if_pos c6] at H; have c6b0 := decide_eq_true c6; clear c6; have p283 : 0 ≤ (x5_1 : Int) := of_decide_eq_true q4_; have q283 : x5_1 < (l0.length : Int) := of_decide_eq_true q4_; obtain ⟨ad283, A283_1, c283_1, e283, hx283_0, hx283_1, hl283_1, hi283_1⟩ := zha HR0.out x5_1 p283 q283; cases e283; have HR283_1 := ak_ hi283_1; have HC283_1 := ak_ hl283_1; clear hi283_1 hl283_1; replace p283 := eq_true p283; replace q283 := eq_true q283; have p284 : 0 ≤ (x5_1 : Int) := of_decide_eq_true q4_; have q284 : x5_1 < (l1.length : Int) := of_decide_eq_true q4_; obtain ⟨ad284, A284_1, c284_1, e284, hx284_0, hx284_1, hl284_1, hi284_1⟩ := zha HR1.out x5_1 p284 q284; cases e284; have HR284_1 := ak_ hi284_1; have HC284_1 := ak_ hl284_1; clear hi284_1 hl284_1; replace p284 := eq_true p284; replace q284 := eq_true q284
       by_cases c7 : ((zbb l0 x5_1).f0).toList = ((zbb l1 x5_1).f0).toList
       ·rw [if_pos c7] at H; have c7b0 := bq_ c7; have c7b1 := bq0_ c7; clear c7; obtain ⟨t287, A8, H⟩ := bi_ H; replace H : (if t287 = true then (zai.l0 k1 l0 l1 (wrap64 (x5_1 + 1))) else (some false)) = some r := H; have p285 : 0 ≤ (x5_1 : Int) := of_decide_eq_true q4_; have q285 : x5_1 < (l0.length : Int) := of_decide_eq_true q4_; obtain ⟨ad285, A285_1, c285_1, e285, hx285_0, hx285_1, hl285_1, hi285_1⟩ := zha HR0.out x5_1 p285 q285; obtain rfl : ad283 = ad285 := (by injection e285); have HR285_1 := ak_ hi285_1; have HC285_1 := ak_ hl285_1; clear hi285_1 hl285_1; replace p285 := eq_true p285; replace q285 := eq_true q285; have ea_ := Option.some.inj (hx283_1.symm.trans hx285_1); injection ea_ with ea_ en_ ec_
        subst ea_; subst ec_; clear en_; have p286 : 0 ≤ (x5_1 : Int) := of_decide_eq_true q4_; have q286 : x5_1 < (l1.length : Int) := of_decide_eq_true q4_; obtain ⟨ad286, A286_1, c286_1, e286, hx286_0, hx286_1, hl286_1, hi286_1⟩ := zha HR1.out x5_1 p286 q286; obtain rfl : ad284 = ad286 := (by injection e286); have HR286_1 := ak_ hi286_1; have HC286_1 := ak_ hl286_1; clear hi286_1 hl286_1; replace p286 := eq_true p286; replace q286 := eq_true q286; have ea_ := Option.some.inj (hx284_1.symm.trans hx286_1); injection ea_ with ea_ en_ ec_
        subst ea_; subst ec_; clear en_
        by_cases c9 : t287 = true
        ·subst c9; replace H := ifT_ H; have H' := ak_ H; clear H; go_wp2_with (first | (go_at_call 36; (with_reducible refine (zar.calls k1 _ _ ((zbb l0 x5_1).f1) _ _ ((zbb l1 x5_1).f1) true _ ?side1 HC285_1.out ?side3 HC286_1.out A8.out).mono ?_); (case side1 => exact cx_ HR285_1.out); (case side3 => exact cx_ HR286_1.out); rintro e w' ⟨rfl, ⟨nd, rfl⟩⟩; (try first | exact ⟨rfl, _, World.drewN_drewN _ _ _⟩ | exact ⟨rfl, _, Eq.trans (World.drewN_drewN _ _ _) (congrArg (World.drewN _) (Nat.add_assoc _ _ _))⟩)))
         repeat (go_quiet (first | (go_at_call 36; (with_reducible refine (zar.calls k1 _ _ ((zbb l0 x5_1).f1) _ _ ((zbb l1 x5_1).f1) true _ ?side1 HC285_1.out ?side3 HC286_1.out A8.out).mono ?_); (case side1 => exact cx_ HR285_1.out); (case side3 => exact cx_ HR286_1.out); rintro e w' ⟨rfl, ⟨nd, rfl⟩⟩; (try first | exact ⟨rfl, _, World.drewN_drewN _ _ _⟩ | exact ⟨rfl, _, Eq.trans (World.drewN_drewN _ _ _) (congrArg (World.drewN _) (Nat.add_assoc _ _ _))⟩))); try go_wp2_with (first | (go_at_call 36; (with_reducible refine (zar.calls k1 _ _ ((zbb l0 x5_1).f1) _ _ ((zbb l1 x5_1).f1) true _ ?side1 HC285_1.out ?side3 HC286_1.out A8.out).mono ?_); (case side1 => exact cx_ HR285_1.out); (case side3 => exact cx_ HR286_1.out); rintro e w' ⟨rfl, ⟨nd, rfl⟩⟩; (try first | exact ⟨rfl, _, World.drewN_drewN _ _ _⟩ | exact ⟨rfl, _, Eq.trans (World.drewN_drewN _ _ _) (congrArg (World.drewN _) (Nat.add_assoc _ _ _))⟩))))
         go_roundg k1
         case measure => have := HK1.out; omega
         case rel => exact ⟨(wrap64 (x5_1 + 1)), q6_, H', ⟨kq_⟩, q9_⟩
        ·replace c9 := Bool.eq_false_iff.mpr c9; subst c9; replace H := ifF_ H; obtain rfl := Option.some.inj H; go_wp2_with (first | (go_at_call 36; (with_reducible refine (zar.calls k1 _ _ ((zbb l0 x5_1).f1) _ _ ((zbb l1 x5_1).f1) false _ ?side1 HC285_1.out ?side3 HC286_1.out A8.out).mono ?_); (case side1 => exact cx_ HR285_1.out); (case side3 => exact cx_ HR286_1.out); rintro e w' ⟨rfl, ⟨nd, rfl⟩⟩; (try first | exact ⟨rfl, _, World.drewN_drewN _ _ _⟩ | exact ⟨rfl, _, Eq.trans (World.drewN_drewN _ _ _) (congrArg (World.drewN _) (Nat.add_assoc _ _ _))⟩)))
         repeat (go_quiet (first | (go_at_call 36; (with_reducible refine (zar.calls k1 _ _ ((zbb l0 x5_1).f1) _ _ ((zbb l1 x5_1).f1) false _ ?side1 HC285_1.out ?side3 HC286_1.out A8.out).mono ?_); (case side1 => exact cx_ HR285_1.out); (case side3 => exact cx_ HR286_1.out); rintro e w' ⟨rfl, ⟨nd, rfl⟩⟩; (try first | exact ⟨rfl, _, World.drewN_drewN _ _ _⟩ | exact ⟨rfl, _, Eq.trans (World.drewN_drewN _ _ _) (congrArg (World.drewN _) (Nat.add_assoc _ _ _))⟩))); try go_wp2_with (first | (go_at_call 36; (with_reducible refine (zar.calls k1 _ _ ((zbb l0 x5_1).f1) _ _ ((zbb l1 x5_1).f1) false _ ?side1 HC285_1.out ?side3 HC286_1.out A8.out).mono ?_); (case side1 => exact cx_ HR285_1.out); (case side3 => exact cx_ HR286_1.out); rintro e w' ⟨rfl, ⟨nd, rfl⟩⟩; (try first | exact ⟨rfl, _, World.drewN_drewN _ _ _⟩ | exact ⟨rfl, _, Eq.trans (World.drewN_drewN _ _ _) (congrArg (World.drewN _) (Nat.add_assoc _ _ _))⟩))))
         go_ret; exact ⟨q6_, q9_⟩
       ·rw [if_neg c7] at H; have c7b0 := bn_ c7; have c7b1 := bn1_ c7; obtain rfl := Option.some.inj H; go_wp2
        repeat (go_quiet (fail); try go_wp2)
        go_ret; exact ⟨q6_, q9_⟩
      ·rw [if_neg c6] at H; exact absurd H (by simp)
     ·rw [if_neg c5] at H; exact absurd H (by simp)
    ·rw [if_neg c4] at H; have c4b0 := decide_eq_false c4; clear c4; obtain rfl := Option.some.inj H; go_wp2
     repeat (go_quiet (fail); try go_wp2)
     go_ret; exact ⟨q6_, q9_⟩
 ·rw [if_neg c3] at H; have c3b0 := bn_ c3; have c3b1 := bn1_ c3; have c3b2 : (l0.length == l1.length) = false := q50_; obtain rfl := Option.some.inj H; go_enter Tryd.func12, Tryd.ntmps12; go_wp2
  repeat (go_quiet (fail); try go_wp2)
  go_ret; exact ⟨q6_, q9_⟩
def zgu.f (a0 : Int) : Option (Bool) := if a0 ≥ 1 then (some (decide (a0 ≤ 4))) else (some false)
theorem zgu.calls (a0 : Int) (r : Bool) (w : World) (h : zgu.f a0 = some r) :
  Calls Tryd.prog 41 #[.int .i64 a0] w fun e w' => e = .returned (.bool r) ∧ zdo w w' := by
 have H : (if a0 ≥ 1 then (some (decide (a0 ≤ 4))) else (some false)) = some r := h; clear h
 by_cases c2 : a0 ≥ 1
 ·rw [if_pos c2] at H; have c2b0 : decide (1 ≤ a0) = true := decide_eq_true c2; clear c2; obtain rfl := Option.some.inj H; go_enter Tryd.func41, Tryd.ntmps41; go_wp2; go_ret; exact ⟨q6_, q9_⟩
 ·rw [if_neg c2] at H; have c2b0 : decide (1 ≤ a0) = false := decide_eq_false c2; clear c2; obtain rfl := Option.some.inj H; go_enter Tryd.func41, Tryd.ntmps41; go_wp2; go_ret; exact ⟨q6_, q9_⟩
mutual
def zbv.j0 : Nat → Int → Int → List (S56) → Bool → Option ((List (S41)))
 | 0, _, _, _, _ => none
 | k + 1, x0, x1, x2, x24 => if x24 = true then (some ([] : List (S41))) else (if (x2.length : Int) = 0 then (some (([(⟨2, x0, x1, 0, 1, ([] : List (S56))⟩ : S41)] : List (S41)))) else (zbv.l0 k x0 x1 x2 ([] : List (S41)) (x2.length : Int) 0))
def zbv.l0 : Nat → Int → Int → List (S56) → List (S41) → Int → Int → Option ((List (S41)))
 | 0, _, _, _, _, _, _ => none
 | k + 1, x0, x1, x2, x7, x33, x34 => if x34 < x33 then (if 0 ≤ x34 then (if x34 ≤ (wrap64 (x34 + 1)) then (if (wrap64 (x34 + 1)) ≤ (x2.length : Int) then (if x7.length < 2199023255552 then (zbv.l0 k x0 x1 x2 (x7 ++ [(⟨2, x0, x1, x34, (x2.length : Int), ((x2.take ((wrap64 (x34 + 1)) : Int).toNat).drop (x34 : Int).toNat)⟩ : S41)]) x33 (wrap64 (x34 + 1))) else (none)) else (none)) else (none)) else (none)) else (some x7)
end
def zbv.f (k : Nat) (a0 : Int) (a1 : Int) (l2 : List (S56)) : Option ((List (S41))) := (zgu.f a0).bind fun t288 => (if t288 = true then (if a1 < 0 then (zbv.j0 k a0 a1 l2 true) else (if a1 > 549755813888 then (zbv.j0 k a0 a1 l2 true) else ((zdk.f k l2).bind fun t289 => (zbv.j0 k a0 a1 l2 (!t289))))) else (zbv.j0 k a0 a1 l2 true))
theorem zbv.zby : ∀ k, (∀ y0 y1 y2 y3, LeO (zbv.j0 k y0 y1 y2 y3) (zbv.j0 (k + 1) y0 y1 y2 y3)) ∧ (∀ y0 y1 y2 y3 y4 y5, LeO (zbv.l0 k y0 y1 y2 y3 y4 y5) (zbv.l0 (k + 1) y0 y1 y2 y3 y4 y5))
 | 0 => ⟨fun _ _ _ _ r h => by simp [zbv.j0] at h, fun _ _ _ _ _ _ r h => by simp [zbv.l0] at h⟩
 | k + 1 => by
  obtain ⟨ih0, ih1⟩ := zbv.zby k
  refine ⟨?_, ?_⟩
  all_goals intros
  all_goals first
   | unfold zbv.j0
   | unfold zbv.l0
  all_goals with_reducible repeat' first
   | apply ih0
   | apply ih1
   | apply zdk.mono
   | apply LeO.refl
   | apply LeO.none
   | refine LeO.ite ?_ ?_
   | refine LeO.bind ?_ (fun _ => ?_)
theorem zbv.mono : ∀ a0 a1 a2 k, LeO (zbv.f k a0 a1 a2) (zbv.f (k + 1) a0 a1 a2) := by
 intro a0 a1 a2 k
 obtain ⟨ih0, ih1⟩ := zbv.zby k
 unfold zbv.f
 with_reducible repeat' first
   | apply ih0
   | apply ih1
   | apply zdk.mono
   | apply LeO.refl
   | apply LeO.none
   | refine LeO.ite ?_ ?_
   | refine LeO.bind ?_ (fun _ => ?_)
theorem zbv.calls (k : Nat) (a0 : Int) (a1 : Int) (P2_ : Nat → Prop) (A2 : Option Addr) (c2 : Nat) (l2 : List (S56)) (r : List (S41)) (w : World) (hs2 : Kd.V k56 56 w w.heap.size (fun k_ => P2_ k_) (.slice A2 l2.length c2) l2) (h : zbv.f k a0 a1 l2 = some r) (hG : Glob w) :
  Calls Tryd.prog 19 #[.int .i64 a0, .int .i64 a1, .slice A2 l2.length c2] w fun e w' => ∃ v0_ : Value, e = .returned (v0_) ∧ Kd.N k41 41 w' w.heap.size (fun k_ => (P2_ k_ ∨ w.heap.size ≤ k_)) v0_ r ∧ Below w.heap.size w w' := by
 have hu41 := Tryd.underlying41; have HG := ak_ hG; clear hG; have HO2 := ak_ (show Kd.V k56 56 w w.heap.size (fun k_ => (P2_ k_ ∨ w.heap.size ≤ k_)) (.slice A2 l2.length c2) l2 from Kd.zcf hs2 (fun k_ hk => .inl hk)); have HB := ak_ (Below.refl w.heap.size w); have H := h; unfold zbv.f at H; clear h; have HC4 := ak_ H; clear H; go_enter Tryd.func19, Tryd.ntmps19; go_upto_region 1 with (fail)
 go_cut [24] (fun v24 wc => ∃ (kq : Nat) (x24_3 : Bool), v24 = .bool x24_3 ∧ zab (zbv.j0 kq a0 a1 l2 x24_3 = some r) ∧ zab (kq ≤ k) ∧ zab (Kd.V k56 56 wc w.heap.size (fun k_ => (P2_ k_ ∨ w.heap.size ≤ k_)) (.slice A2 l2.length c2) l2) ∧ zab (Below w.heap.size w wc))
 case first =>
  have H := HC4.out; clear HC4; obtain ⟨t288, A5, H⟩ := bi_ H; try dsimp only at H
  by_cases c6 : t288 = true
  ·subst c6; replace H := ifT_ H
   by_cases c7 : a1 < 0
   ·rw [if_pos c7] at H; have c7b0 := decide_eq_true c7; clear c7; (first | rw [c7b0] | (simp only [zhm, i32_w]; rw [c7b0]) | skip); have H' := ak_ H; clear H; go_wp2_with (first | ((with_reducible refine gc_ 41 rfl ?_); refine gl_ 10 Tryd.func41 #[.int .i64 a0] ?_; (with_reducible refine (zgu.calls a0 true _ A5.out).mono ?_); rintro e w' ⟨rfl, ⟨nd, rfl⟩⟩; refine ⟨_, rfl, ?_⟩)); go_meet
    case rel => exact ⟨_, (true), q6_, H', ⟨by first | omega | exact Nat.le_refl _⟩, ⟨q36_⟩, ⟨q0_⟩⟩
   ·rw [if_neg c7] at H; have c7b0 := decide_eq_false c7; clear c7; (first | rw [c7b0] | (simp only [zhm, i32_w]; rw [c7b0]) | skip)
    by_cases c8 : a1 > 549755813888
    ·rw [if_pos c8] at H; have c8b0 : decide (549755813888 < a1) = true := decide_eq_true c8; clear c8; have H' := ak_ H; clear H; go_wp2_with (first | ((with_reducible refine gc_ 41 rfl ?_); refine gl_ 10 Tryd.func41 #[.int .i64 a0] ?_; (with_reducible refine (zgu.calls a0 true _ A5.out).mono ?_); rintro e w' ⟨rfl, ⟨nd, rfl⟩⟩; refine ⟨_, rfl, ?_⟩)); go_meet
     case rel => exact ⟨_, (true), q6_, H', ⟨by first | omega | exact Nat.le_refl _⟩, ⟨q36_⟩, ⟨q0_⟩⟩
    ·rw [if_neg c8] at H; have c8b0 : decide (549755813888 < a1) = false := decide_eq_false c8; clear c8; obtain ⟨t289, A9, H⟩ := bi_ H; replace H : (zbv.j0 k a0 a1 l2 (!t289)) = some r := H; have H' := ak_ H; clear H; go_wp2_with (first | ((with_reducible refine gc_ 41 rfl ?_); refine gl_ 10 Tryd.func41 #[.int .i64 a0] ?_; (with_reducible refine (zgu.calls a0 true _ A5.out).mono ?_); rintro e w' ⟨rfl, ⟨nd, rfl⟩⟩; refine ⟨_, rfl, ?_⟩) | (go_at_call 42; (with_reducible refine (zdk.calls k _ _ l2 t289 _ ?side1 ?side2 A9.out q7_).mono ?_); (case side1 => exact cx_ ((Kd.zbx HO2.out).2.2)); (case side2 => exact (Kd.zbx HO2.out).2.1); rintro e w10 ⟨rfl, hb⟩; replace HO2 := Vb_ q36_ hb; replace HB := bs_ hb; clear hb)); go_meet
     case rel => exact ⟨_, (!t289), q6_, H', ⟨by first | omega | exact Nat.le_refl _⟩, ⟨q36_⟩, ⟨q0_⟩⟩
  ·replace c6 := Bool.eq_false_iff.mpr c6; subst c6; replace H := ifF_ H; have H' := ak_ H; clear H; go_wp2_with (first | ((with_reducible refine gc_ 41 rfl ?_); refine gl_ 10 Tryd.func41 #[.int .i64 a0] ?_; (with_reducible refine (zgu.calls a0 false _ A5.out).mono ?_); rintro e w' ⟨rfl, ⟨nd, rfl⟩⟩; refine ⟨_, rfl, ?_⟩)); go_meet
   case rel => exact ⟨_, (true), q6_, H', ⟨by first | omega | exact Nat.le_refl _⟩, ⟨q36_⟩, ⟨q0_⟩⟩
 case rest =>
  clear HC4; obtain ⟨kq, x24_3, rfl, HA, HJ3, HO_2, HB⟩ := hcut
  cases kq with
  | zero => exact absurd HA.out (by simp [zbv.j0])
  | succ kj3 =>
   have H := HA.out; clear HA; simp only [zbv.j0] at H
   by_cases c11 : x24_3 = true
   ·subst c11; replace H := ifT_ H; obtain rfl := Option.some.inj H; go_wp2; go_ret; exact ⟨_, q5_, q45_, q0_⟩
   ·replace c11 := Bool.eq_false_iff.mpr c11; subst c11; replace H := ifF_ H
    by_cases c12 : (l2.length : Int) = 0
    ·rw [if_pos c12] at H; have c12b0 := bq_ c12; have c12b1 := bq0_ c12; clear c12; obtain ⟨y290, hy290⟩ : ∃ y_ : List (S41), y_ = (([(⟨2, a0, a1, 0, 1, ([] : List (S56))⟩ : S41)] : List (S41))) := ⟨_, rfl⟩; replace H : (some y290) = some r := by first | (rw [hy290]; with_reducible exact H) | (have H2_ := (Option.bind_some _ _).symm.trans H; rw [hy290]; with_reducible exact H2_) | (have H2_ := (Option.bind_some _ _).symm.trans H; with_reducible exact H2_) | with_reducible exact H | (rw [hy290]; exact H) | exact H
     have Ny290 := ak_ hy290; clear hy290; obtain rfl := Option.some.inj H; go_wp2_with (first | ((with_reducible refine gd_ 31 rfl ?_); refine Kd.N_lit k41 _ 41 ?hg (N' := 31) ?hd (xs := ([(⟨2, a0, a1, 0, 1, ([] : List (S56))⟩ : S41)] : List (S41))) (inner := [.int .i64 2, .int .i64 a0, .int .i64 a1, .int .i64 0, .int .i64 1, .slice none 0 0]) (ok := (fun k_ => (P2_ k_ ∨ w.heap.size ≤ k_))) (okp := (fun k_ => (P2_ k_ ∨ w.heap.size ≤ k_))) ?hr ?hp (fun _ hk => hk) ((show ∀ k_, wc.heap.size ≤ k_ → (fun k_ => (P2_ k_ ∨ w.heap.size ≤ k_)) k_ from fun k_ hk => (.inr (Nat.le_trans (zcb q0_) hk))) _ (Nat.le_refl _)) (Below.refl _ _) (Nat.le_refl _) (by simp) ?_; (case hd => rfl); (case hg => rfl); (case hr => first | (go_simp; done) | (go_simp; rfl)); (case hp => exact (Reps.c6 (show Kd.FK k41 _ _ (⟨2, a0, a1, 0, 1, ([] : List (S56))⟩ : S41) [.int .i64 2, .int .i64 a0, .int .i64 a1, .int .i64 0, .int .i64 1, .slice none 0 0] from (k41_mkF _ _ (⟨2, a0, a1, 0, 1, ([] : List (S56))⟩ : S41) (Nat.le_refl _) (Kd.F_nil _ _ _))) (Reps.none _ _))); intro v291 w13 ho14 hb hg_ hnew_; clear hg_ hnew_; (first | rw [← Ny290.out] at ho14 | (simp only [Int.reduceToNat] at ho14; rw [← Ny290.out] at ho14)); have HO292 := ak_ (Kd.zhi ho14 (zcb q0_)); replace HO_2 := ak_ (Kd.zfj (by (with_reducible repeat (first | apply Kd.zcs | apply Kd.zcm | apply Kd.zdj)); exact HO_2.out) (Kd.zel ho14) hb); replace HB := bs_ hb; clear hb ho14)); go_ret; exact ⟨_, q5_, by (with_reducible repeat (first | apply Kd.zcj | apply Kd.zcx | apply Kd.zdc)); exact HO292.out, q0_⟩
    ·rw [if_neg c12] at H; have c12b0 := bn_ c12; have c12b1 := bn1_ c12; have c12b2 : ¬ (l2 = []) := fun h_ => c12 (by rw [h_]; rfl); have H' := ak_ H; clear H; go_wp2; go_loopg [7, 34] kj3 (fun kq v7 v34 w' => ∃ (x7_2 : List (S41)) (x34_2 : Int), v34 = .int .i64 x34_2 ∧ zab (zbv.l0 kq a0 a1 l2 x7_2 (l2.length : Int) x34_2 = some r) ∧ zab (kq ≤ kj3) ∧ zab (Kd.V k56 56 w' w.heap.size (fun k_ => (P2_ k_ ∨ w.heap.size ≤ k_) ∧ some k_ ≠ (v7 : Value).ownBlock) (.slice A2 l2.length c2) l2) ∧ zab (Kd.N k41 41 w' w.heap.size (fun k_ => (P2_ k_ ∨ w.heap.size ≤ k_)) v7 x7_2) ∧ zab (Below w.heap.size w w'))
     case atStart => exact ⟨(([] : List (S41))), (0), q6_, H', ⟨Nat.le_refl _⟩, ⟨by (with_reducible repeat (first | apply Kd.zcs | apply Kd.zcm | apply Kd.zdj)); exact Kd.zcf HO_2.out (fun _ hk => ⟨hk, (by simp [Value.ownBlock])⟩)⟩, ⟨q45_⟩, ⟨q0_⟩⟩
     case round =>
      clear H'; (try clear c11 c12b0 c12b1 c12b2); obtain ⟨x7_2, x34_2, rfl, HA, HK2, HO_2, HO_7, HB⟩ := hrel
      cases gk with
      | zero => exact absurd HA.out (by simp [zbv.l0])
      | succ k2 =>
       have H := HA.out; clear HA; simp only [zbv.l0] at H
       by_cases c15 : x34_2 < (l2.length : Int)
       ·rw [if_pos c15] at H; have c15b0 := decide_eq_true c15; clear c15
        by_cases c16 : 0 ≤ x34_2
        ·rw [if_pos c16] at H; have c16b0 := eq_true c16; have c16b1 := decide_eq_true c16; clear c16
         by_cases c17 : x34_2 ≤ (wrap64 (x34_2 + 1))
         ·rw [if_pos c17] at H; have c17b0 := eq_true c17; have c17b1 := decide_eq_true c17
          by_cases c18 : (wrap64 (x34_2 + 1)) ≤ (l2.length : Int)
          ·rw [if_pos c18] at H; have c18b0 := eq_true c18; have c18b1 := decide_eq_true c18; obtain ⟨y293, hy293⟩ : ∃ y_ : List (S56), y_ = ((l2.take ((wrap64 (x34_2 + 1)) : Int).toNat).drop (x34_2 : Int).toNat) := ⟨_, rfl⟩; replace H : (if x7_2.length < 2199023255552 then (zbv.l0 k2 a0 a1 l2 (x7_2 ++ [(⟨2, a0, a1, x34_2, (l2.length : Int), y293⟩ : S41)]) (l2.length : Int) (wrap64 (x34_2 + 1))) else (none)) = some r := by first | (rw [hy293]; with_reducible exact H) | (have H2_ := (Option.bind_some _ _).symm.trans H; rw [hy293]; with_reducible exact H2_) | (have H2_ := (Option.bind_some _ _).symm.trans H; with_reducible exact H2_) | with_reducible exact H | (rw [hy293]; exact H) | exact H
           have Ny293 := ak_ hy293; clear hy293
           by_cases c19 : x7_2.length < 2199023255552
           ·rw [if_pos c19] at H; have LMc19 := ak_ c19; clear c19; obtain ⟨y298, hy298⟩ : ∃ y_ : List (S41), y_ = (x7_2 ++ [(⟨2, a0, a1, x34_2, (l2.length : Int), y293⟩ : S41)]) := ⟨_, rfl⟩; replace H : (zbv.l0 k2 a0 a1 l2 y298 (l2.length : Int) (wrap64 (x34_2 + 1))) = some r := by first | (rw [hy298]; with_reducible exact H) | (have H2_ := (Option.bind_some _ _).symm.trans H; rw [hy298]; with_reducible exact H2_) | (have H2_ := (Option.bind_some _ _).symm.trans H; with_reducible exact H2_) | with_reducible exact H | (rw [hy298]; exact H) | exact H
            have Ny298 := ak_ hy298; clear hy298; have H' := ak_ H; clear H; have q20 : ((wrap64 (x34_2 + 1)) : Int) ≤ ((l2.length : Int) : Int) := of_decide_eq_true q4_; obtain ⟨i020, hi020, _, hsz20, _⟩ := info_parts info56; have hroom20 : l2.length ≤ c2 := (Kd.zbx HO_2.out).2.1; have hC20 : Kd.F k56 _ _ A2 l2.length l2 := (Kd.V_at (base := w.heap.size) HO_2.out).2.2; have ql20 : (x34_2 : Int) ≤ ((wrap64 (x34_2 + 1)) : Int) := of_decide_eq_true q4_; have q020 : (0 : Int) ≤ (x34_2 : Int) := of_decide_eq_true q4_; have hcut20 := cut_mid (P := Tryd.prog) 22 56 .i64 .i64 Tryd.underlying22 hi020 2 hsz20 A2 l2.length c2 x34_2 (wrap64 (x34_2 + 1)) q020 ql20 q20 hroom20; have hr20 := Kd.F_mid (lo := (x34_2 : Int).toNat) (hi := ((wrap64 (x34_2 + 1)) : Int).toNat) (c := c2) hC20 (by omega) (by omega) hroom20; obtain ⟨A20, hA20⟩ : ∃ A1, A1 = (if c2 = (x34_2 : Int).toNat then A2 else (A2 : Option Addr).map (·.add ((x34_2 : Int).toNat * 2))) := ⟨_, rfl⟩; obtain ⟨c20, hc20⟩ : ∃ c1, c1 = c2 - (x34_2 : Int).toNat := ⟨_, rfl⟩; have hy20 : y293.length = ((wrap64 (x34_2 + 1)) : Int).toNat - (x34_2 : Int).toNat := (by rw [Ny293.out, List.length_drop, List.length_take] <;> omega); rw [show ((l2).take ((wrap64 (x34_2 + 1)) : Int).toNat).drop (x34_2 : Int).toNat = y293 from Ny293.out.symm] at hr20; replace hr20 : Kd.F k56 _ _ A20 y293.length y293 := (by rw [hA20]; exact hr20); rw [← hy20, ← hA20, ← hc20] at hcut20; have HO297 := ak_ (show Kd.V k56 56 _ w.heap.size _ (.slice A20 y293.length c20) y293 from Kd.V_mk (by rw [hy20, hc20]; exact Nat.sub_le_sub_right (Nat.le_trans (by omega) hroom20) _) hr20); have HC297 := ak_ (show y293.length ≤ c20 from by rw [hy20, hc20]; exact Nat.sub_le_sub_right (Nat.le_trans (by omega) hroom20) _); clear hr20 hC20 hroom20 hi020 hsz20 hc20; have KY20 := ak_ hy20; have KA20 := ak_ hA20; clear hy20 hA20; replace q20 := eq_true q20
            go_wp2_with (first | ((with_reducible refine zfx (b := .append) (xs := #[.tmp 37, .tmp 49]) rfl ?_); at_builtin; refine Kd.N_append k41 (w0 := w) w.heap.size rfl (.tmp 37) (.tmp 49) 31 41 (.agg #[(.int .i64 0), (.int .i64 0), (.int .i64 0), (.int .i64 0), (.int .i64 0), (.slice none 0 0)]) 64 rfl Tryd.underlying31 info41 rfl (by decide) (by omega) u7 x7_2 (⟨2, a0, a1, x34_2, (l2.length : Int), y293⟩ : S41) [.int .i64 2, .int .i64 a0, .int .i64 a1, .int .i64 x34_2, .int .i64 (l2.length : Int), .slice A20 y293.length c20] (fun k_ => (P2_ k_ ∨ w.heap.size ≤ k_)) (fun k_ => ((fun k_ => (P2_ k_ ∨ w.heap.size ≤ k_))) k_ ∧ some k_ ≠ (u7 : Value).ownBlock) rfl rfl ?aP (fun _ hk => hk) ?aF ?aO ?aB ?aS ?aL ?_; (case aP => exact (k41_mkF _ _ (⟨2, a0, a1, x34_2, (l2.length : Int), y293⟩ : S41) (Kd.zbx (Kd.zcf (ok' := (fun k_ => ((fun k_ => (P2_ k_ ∨ w.heap.size ≤ k_))) k_ ∧ some k_ ≠ (u7 : Value).ownBlock)) (HO297.out) (fun k_ hk => ⟨hk.1, hk.2⟩))).2.1 (Kd.V_F (Kd.zcf (ok' := (fun k_ => ((fun k_ => (P2_ k_ ∨ w.heap.size ≤ k_))) k_ ∧ some k_ ≠ (u7 : Value).ownBlock)) (HO297.out) (fun k_ hk => ⟨hk.1, hk.2⟩))))); (case aB => exact q0_); (case aF => exact (fun k_ hk => (.inr (Nat.le_trans (zcb q0_) hk)))); (case aO => exact (by (with_reducible repeat (first | apply Kd.zcj | apply Kd.zcx | apply Kd.zdc)); exact HO_7.out)); (case aS => exact (zcb q0_)); (case aL => have := LMc19.out; omega); intro v299 w21 ho hb hg hat; rw [← Ny298.out] at ho; have HO300 := ak_ ho; replace HO_2 := ak_ (Kd.V_afterv (ok := (fun k_ => (P2_ k_ ∨ w.heap.size ≤ k_))) (by (with_reducible repeat (first | apply Kd.zcs | apply Kd.zcm | apply Kd.zdj)); exact HO_2.out) hg hat); replace HO297 := ak_ (Kd.V_afterv (ok := (fun k_ => (P2_ k_ ∨ w.heap.size ≤ k_))) (by (with_reducible repeat (first | apply Kd.zcs | apply Kd.zcm | apply Kd.zdj)); exact HO297.out) hg hat); replace HB := ak_ hb; clear HO_7 ho hb hg hat)); go_roundg k2
            case measure => have := HJ3.out; have := HK2.out; omega
            case rel => exact ⟨(y298), (wrap64 (x34_2 + 1)), q6_, H', ⟨by have := HJ3.out; have := HK2.out; omega⟩, ⟨by (with_reducible repeat (first | apply Kd.zcs | apply Kd.zcm | apply Kd.zdj)); exact HO_2.out⟩, ⟨by (with_reducible repeat (first | apply Kd.zcj | apply Kd.zcx | apply Kd.zdc)); exact HO300.out⟩, ⟨q0_⟩⟩
           ·rw [if_neg c19] at H; exact absurd H (by simp)
          ·rw [if_neg c18] at H; exact absurd H (by simp)
         ·rw [if_neg c17] at H; exact absurd H (by simp)
        ·rw [if_neg c16] at H; exact absurd H (by simp)
       ·rw [if_neg c15] at H; have c15b0 := decide_eq_false c15; clear c15; obtain rfl := Option.some.inj H; go_wp2; go_ret; exact ⟨_, q5_, by (with_reducible repeat (first | apply Kd.zcj | apply Kd.zcx | apply Kd.zdc)); exact HO_7.out, q0_⟩

end Go.Proofs.YtchpbnabbjdfgaaDoor.P
