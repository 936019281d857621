-- HALVED
import Derived.Test.YtchpbnabbjdfgaaDoorPx0
import Derived.Test.YtchpbnabbjdfgaaDoorPx1
namespace Go.Proofs.YtchpbnabbjdfgaaDoor.P
open Go.RowKit Go.Proofs.YtchpbnabbjdfgaaDoorW.PrintWords Go.Proofs.YtchpbnabbjdfgaaDoorW.PrintLast Go.Proofs.YtchpbnabbjdfgaaDoorW.PrintMore
attribute [local go_sem] zea zes zel zem zdi zdj zeb zec   -- for this text's walks alone
set_option linter.unusedVariables false
set_option linter.unusedSimpArgs false
set_option maxHeartbeats 8000000
set_option maxRecDepth 100000

attribute [local go_sem high] eqA105
def zat.l0 : Nat → List (S105) → List (S105) → Int → Option (Bool)
 | 0, _, _, _ => none
 | k + 1, x0, x1, x5 => if x5 < (x0.length : Int) then (if 0 ≤ x5 then (if x5 < (x1.length : Int) then (if (!(((zca x0 x5).f0) == ((zca x1 x5).f0)) || (!(((zca x0 x5).f1) == ((zca x1 x5).f1)) || (!((((zca x0 x5).f2).toList) == (((zca x1 x5).f2).toList))))) = true then (some false) else (zat.l0 k x0 x1 (wrap64 (x5 + 1)))) else (none)) else (none)) else (some true)
def zat.f (k : Nat) (l0 : List (S105)) (l1 : List (S105)) : Option (Bool) := if (l0.length : Int) = (l1.length : Int) then (zat.l0 k l0 l1 0) else (some false)
theorem zat.zcj : ∀ k, (∀ y0 y1 y2, LeO (zat.l0 k y0 y1 y2) (zat.l0 (k + 1) y0 y1 y2))
 | 0 => fun _ _ _ r h => by simp [zat.l0] at h
 | k + 1 => by
  have ih0 := zat.zcj k
  ·intro y0 y1 y2
   unfold zat.l0
   with_reducible repeat' first
   | apply ih0
   | apply LeO.refl
   | apply LeO.none
   | refine LeO.ite ?_ ?_
   | refine LeO.bind ?_ (fun _ => ?_)
theorem zat.mono : ∀ a0 a1 k, LeO (zat.f k a0 a1) (zat.f (k + 1) a0 a1) := by
 intro a0 a1 k
 have ih0 := zat.zcj k
 unfold zat.f
 with_reducible repeat' first
   | apply ih0
   | apply LeO.refl
   | apply LeO.none
   | refine LeO.ite ?_ ?_
   | refine LeO.bind ?_ (fun _ => ?_)
theorem zat.calls (k : Nat) (A0 : Option Addr) (c0 : Nat) (l0 : List (S105)) (A1 : Option Addr) (c1 : Nat) (l1 : List (S105)) (r : Bool) (w : World) (hr0 : Kd.C k105 w A0 l0.length l0) (hc0 : l0.length ≤ c0) (hr1 : Kd.C k105 w A1 l1.length l1) (hc1 : l1.length ≤ c1) (h : zat.f k l0 l1 = some r) :
  Calls Tryd.prog 60 #[.slice A0 l0.length c0, .slice A1 l1.length c1] w fun e w' => e = .returned (.bool r) ∧ zek w w' := by
 have hu105 := Tryd.underlying105; have HR0 := ak_ hr0; have HC0 := ak_ hc0; clear hr0 hc0; have HR1 := ak_ hr1; have HC1 := ak_ hc1; clear hr1 hc1; have H : (if (l0.length : Int) = (l1.length : Int) then (zat.l0 k l0 l1 0) else (some false)) = some r := h; clear h
 by_cases c3 : (l0.length : Int) = (l1.length : Int)
 ·rw [if_pos c3] at H; have c3b0 := bq_ c3; have c3b1 := bq0_ c3; have c3b2 : (l0.length == l1.length) = true := q138_; clear c3; have H' := ak_ H; clear H; go_enter Tryd.func60, Tryd.ntmps60; go_wp2
  repeat (go_quiet (fail); try go_wp2)
  go_loopg [5] k (fun kq v5 w' => ∃ (x5_1 : Int), v5 = .int .i64 x5_1 ∧ zab (zat.l0 kq l0 l1 x5_1 = some r) ∧ zab (kq ≤ k) ∧ zek w w')
  case atStart => exact ⟨(0), q8_, H', ⟨Nat.le_refl _⟩, q14_⟩
  case round =>
   clear H'; (try clear c3b0 c3b1 c3b2); obtain ⟨x5_1, rfl, HA, HK1, ⟨m1, rfl⟩⟩ := hrel
   cases gk with
   | zero => exact absurd HA.out (by simp [zat.l0])
   | succ k1 =>
    have H := HA.out; clear HA; simp only [zat.l0] at H
    by_cases c4 : x5_1 < (l0.length : Int)
    ·rw [if_pos c4] at H; have c4b0 := decide_eq_true c4; clear c4
     by_cases c5 : 0 ≤ x5_1
     ·rw [if_pos c5] at H; have c5b0 := decide_eq_true c5; clear c5
      by_cases c6 : x5_1 < (l1.length : Int)
      ·rw [if_pos c6] at H; have c6b0 := decide_eq_true c6; clear c6; have p361 : 0 ≤ (x5_1 : Int) := of_decide_eq_true q4_; have q361 : x5_1 < (l0.length : Int) := of_decide_eq_true q4_; obtain ⟨ad361, e361, hx361_0, hx361_1, hx361_2⟩ := at_T105 HR0.out x5_1 p361 q361; cases e361; replace p361 := eq_true p361; replace q361 := eq_true q361; have p362 : 0 ≤ (x5_1 : Int) := of_decide_eq_true q4_; have q362 : x5_1 < (l1.length : Int) := of_decide_eq_true q4_; obtain ⟨ad362, e362, hx362_0, hx362_1, hx362_2⟩ := at_T105 HR1.out x5_1 p362 q362; cases e362; replace p362 := eq_true p362; replace q362 := eq_true q362
       by_cases c7 : (!(((zca l0 x5_1).f0) == ((zca l1 x5_1).f0)) || (!(((zca l0 x5_1).f1) == ((zca l1 x5_1).f1)) || (!((((zca l0 x5_1).f2).toList) == (((zca l1 x5_1).f2).toList))))) = true
       ·rw [if_pos c7] at H; have c7b0 : (!(((zca l0 x5_1).f0) == ((zca l1 x5_1).f0)) || (!(((zca l0 x5_1).f1) == ((zca l1 x5_1).f1)) || (!((((zca l0 x5_1).f2).toList) == (((zca l1 x5_1).f2).toList))))) = true := c7; clear c7; obtain rfl := Option.some.inj H; go_wp2
        repeat (go_quiet (fail); try go_wp2)
        go_ret; exact ⟨q8_, q14_⟩
       ·rw [if_neg c7] at H; have c7b0 : (!(((zca l0 x5_1).f0) == ((zca l1 x5_1).f0)) || (!(((zca l0 x5_1).f1) == ((zca l1 x5_1).f1)) || (!((((zca l0 x5_1).f2).toList) == (((zca l1 x5_1).f2).toList))))) = false := by simpa using c7
        clear c7; have H' := ak_ H; clear H; go_wp2
        repeat (go_quiet (fail); try go_wp2)
        go_roundg k1
        case measure => have := HK1.out; omega
        case rel => exact ⟨(wrap64 (x5_1 + 1)), q8_, H', ⟨kq_⟩, q14_⟩
      ·rw [if_neg c6] at H; exact absurd H (by simp)
     ·rw [if_neg c5] at H; exact absurd H (by simp)
    ·rw [if_neg c4] at H; have c4b0 := decide_eq_false c4; clear c4; obtain rfl := Option.some.inj H; go_wp2
     repeat (go_quiet (fail); try go_wp2)
     go_ret; exact ⟨q8_, q14_⟩
 ·rw [if_neg c3] at H; have c3b0 := bn_ c3; have c3b1 := bn1_ c3; have c3b2 : (l0.length == l1.length) = false := q138_; obtain rfl := Option.some.inj H; go_enter Tryd.func60, Tryd.ntmps60; go_wp2
  repeat (go_quiet (fail); try go_wp2)
  go_ret; exact ⟨q8_, q14_⟩
def zba.l0 : Nat → List (S81) → List (S81) → Int → Option (Bool)
 | 0, _, _, _ => none
 | k + 1, x0, x1, x5 => if x5 < (x0.length : Int) then (if 0 ≤ x5 then (if x5 < (x1.length : Int) then (if ((zbh x0 x5).f1) = ((zbh x1 x5).f1) then ((zat.f k ((zbh x0 x5).f0) ((zbh x1 x5).f0)).bind fun t367 => (if t367 = true then (zba.l0 k x0 x1 (wrap64 (x5 + 1))) else (some false))) else (some false)) else (none)) else (none)) else (some true)
def zba.f (k : Nat) (l0 : List (S81)) (l1 : List (S81)) : Option (Bool) := if (l0.length : Int) = (l1.length : Int) then (zba.l0 k l0 l1 0) else (some false)
theorem zba.zcj : ∀ k, (∀ y0 y1 y2, LeO (zba.l0 k y0 y1 y2) (zba.l0 (k + 1) y0 y1 y2))
 | 0 => fun _ _ _ r h => by simp [zba.l0] at h
 | k + 1 => by
  have ih0 := zba.zcj k
  ·intro y0 y1 y2
   unfold zba.l0
   with_reducible repeat' first
   | apply ih0
   | apply zat.mono
   | apply LeO.refl
   | apply LeO.none
   | refine LeO.ite ?_ ?_
   | refine LeO.bind ?_ (fun _ => ?_)
theorem zba.mono : ∀ a0 a1 k, LeO (zba.f k a0 a1) (zba.f (k + 1) a0 a1) := by
 intro a0 a1 k
 have ih0 := zba.zcj k
 unfold zba.f
 with_reducible repeat' first
   | apply ih0
   | apply zat.mono
   | apply LeO.refl
   | apply LeO.none
   | refine LeO.ite ?_ ?_
   | refine LeO.bind ?_ (fun _ => ?_)
theorem zba.calls (k : Nat) (A0 : Option Addr) (c0 : Nat) (l0 : List (S81)) (A1 : Option Addr) (c1 : Nat) (l1 : List (S81)) (r : Bool) (w : World) (hr0 : Kd.C k81 w A0 l0.length l0) (hc0 : l0.length ≤ c0) (hr1 : Kd.C k81 w A1 l1.length l1) (hc1 : l1.length ≤ c1) (h : zba.f k l0 l1 = some r) :
  Calls Tryd.prog 36 #[.slice A0 l0.length c0, .slice A1 l1.length c1] w fun e w' => e = .returned (.bool r) ∧ zek w w' := by
 have HR0 := ak_ hr0; have HC0 := ak_ hc0; clear hr0 hc0; have HR1 := ak_ hr1; have HC1 := ak_ hc1; clear hr1 hc1; have H : (if (l0.length : Int) = (l1.length : Int) then (zba.l0 k l0 l1 0) else (some false)) = some r := h; clear h
 by_cases c3 : (l0.length : Int) = (l1.length : Int)
 ·rw [if_pos c3] at H; have c3b0 := bq_ c3; have c3b1 := bq0_ c3; have c3b2 : (l0.length == l1.length) = true := q138_; clear c3; have H' := ak_ H; clear H; go_enter Tryd.func36, Tryd.ntmps36; go_wp2
  repeat (go_quiet (fail); try go_wp2)
  go_loopg [5] k (fun kq v5 w' => ∃ (x5_1 : Int), v5 = .int .i64 x5_1 ∧ zab (zba.l0 kq l0 l1 x5_1 = some r) ∧ zab (kq ≤ k) ∧ zek w w')
  case atStart => exact ⟨(0), q8_, H', ⟨Nat.le_refl _⟩, q14_⟩
  case round =>
   clear H'; (try clear c3b0 c3b1 c3b2); obtain ⟨x5_1, rfl, HA, HK1, ⟨m1, rfl⟩⟩ := hrel
   cases gk with
   | zero => exact absurd HA.out (by simp [zba.l0])
   | succ k1 =>
    have H := HA.out; clear HA; simp only [zba.l0] at H
    by_cases c4 : x5_1 < (l0.length : Int)
    ·rw [if_pos c4] at H; have c4b0 := decide_eq_true c4; clear c4
     by_cases c5 : 0 ≤ x5_1
     ·rw [if_pos c5] at H; have c5b0 := decide_eq_true c5; clear c5
      by_cases c6 : x5_1 < (l1.length : Int)
      ·rw [if_pos c6] at H; have c6b0 := decide_eq_true c6; clear c6; have p363 : 0 ≤ (x5_1 : Int) := of_decide_eq_true q4_; have q363 : x5_1 < (l0.length : Int) := of_decide_eq_true q4_; obtain ⟨ad363, A363_0, c363_0, e363, hx363_0, hx363_1, hl363_0, hi363_0⟩ := zhl HR0.out x5_1 p363 q363; cases e363; have HR363_0 := ak_ hi363_0; have HC363_0 := ak_ hl363_0; clear hi363_0 hl363_0; replace p363 := eq_true p363; replace q363 := eq_true q363; have p364 : 0 ≤ (x5_1 : Int) := of_decide_eq_true q4_; have q364 : x5_1 < (l1.length : Int) := of_decide_eq_true q4_; obtain ⟨ad364, A364_0, c364_0, e364, hx364_0, hx364_1, hl364_0, hi364_0⟩ := zhl HR1.out x5_1 p364 q364; cases e364; have HR364_0 := ak_ hi364_0; have HC364_0 := ak_ hl364_0; clear hi364_0 hl364_0; replace p364 := eq_true p364; replace q364 := eq_true q364
       by_cases c7 : ((zbh l0 x5_1).f1) = ((zbh l1 x5_1).f1)
       ·rw [if_pos c7] at H; have c7b0 := bq_ c7; have c7b1 := bq0_ c7; clear c7; obtain ⟨t367, A8, H⟩ := bi_ H; replace H : (if t367 = true then (zba.l0 k1 l0 l1 (wrap64 (x5_1 + 1))) else (some false)) = some r := H; have p365 : 0 ≤ (x5_1 : Int) := of_decide_eq_true q4_; have q365 : x5_1 < (l0.length : Int) := of_decide_eq_true q4_; obtain ⟨ad365, A365_0, c365_0, e365, hx365_0, hx365_1, hl365_0, hi365_0⟩ := zhl HR0.out x5_1 p365 q365; obtain rfl : ad363 = ad365 := (by injection e365); have HR365_0 := ak_ hi365_0; have HC365_0 := ak_ hl365_0; clear hi365_0 hl365_0; replace p365 := eq_true p365; replace q365 := eq_true q365; have ea_ := Option.some.inj (hx363_0.symm.trans hx365_0); injection ea_ with ea_ en_ ec_
        subst ea_; subst ec_; clear en_; have p366 : 0 ≤ (x5_1 : Int) := of_decide_eq_true q4_; have q366 : x5_1 < (l1.length : Int) := of_decide_eq_true q4_; obtain ⟨ad366, A366_0, c366_0, e366, hx366_0, hx366_1, hl366_0, hi366_0⟩ := zhl HR1.out x5_1 p366 q366; obtain rfl : ad364 = ad366 := (by injection e366); have HR366_0 := ak_ hi366_0; have HC366_0 := ak_ hl366_0; clear hi366_0 hl366_0; replace p366 := eq_true p366; replace q366 := eq_true q366; have ea_ := Option.some.inj (hx364_0.symm.trans hx366_0); injection ea_ with ea_ en_ ec_
        subst ea_; subst ec_; clear en_
        by_cases c9 : t367 = true
        ·subst c9; replace H := ifT_ H; have H' := ak_ H; clear H; go_wp2_with (first | (go_at_call 60; (with_reducible refine (zat.calls k1 _ _ ((zbh l0 x5_1).f0) _ _ ((zbh l1 x5_1).f0) true _ ?side1 HC365_0.out ?side3 HC366_0.out A8.out).mono ?_); (case side1 => exact cx_ HR365_0.out); (case side3 => exact cx_ HR366_0.out); rintro e w' ⟨rfl, ⟨nd, rfl⟩⟩; (try first | exact ⟨rfl, _, World.drewN_drewN _ _ _⟩ | exact ⟨rfl, _, Eq.trans (World.drewN_drewN _ _ _) (congrArg (World.drewN _) (Nat.add_assoc _ _ _))⟩)))
         repeat (go_quiet (first | (go_at_call 60; (with_reducible refine (zat.calls k1 _ _ ((zbh l0 x5_1).f0) _ _ ((zbh l1 x5_1).f0) true _ ?side1 HC365_0.out ?side3 HC366_0.out A8.out).mono ?_); (case side1 => exact cx_ HR365_0.out); (case side3 => exact cx_ HR366_0.out); rintro e w' ⟨rfl, ⟨nd, rfl⟩⟩; (try first | exact ⟨rfl, _, World.drewN_drewN _ _ _⟩ | exact ⟨rfl, _, Eq.trans (World.drewN_drewN _ _ _) (congrArg (World.drewN _) (Nat.add_assoc _ _ _))⟩))); try go_wp2_with (first | (go_at_call 60; (with_reducible refine (zat.calls k1 _ _ ((zbh l0 x5_1).f0) _ _ ((zbh l1 x5_1).f0) true _ ?side1 HC365_0.out ?side3 HC366_0.out A8.out).mono ?_); (case side1 => exact cx_ HR365_0.out); (case side3 => exact cx_ HR366_0.out); rintro e w' ⟨rfl, ⟨nd, rfl⟩⟩; (try first | exact ⟨rfl, _, World.drewN_drewN _ _ _⟩ | exact ⟨rfl, _, Eq.trans (World.drewN_drewN _ _ _) (congrArg (World.drewN _) (Nat.add_assoc _ _ _))⟩))))
         go_roundg k1
         case measure => have := HK1.out; omega
         case rel => exact ⟨(wrap64 (x5_1 + 1)), q8_, H', ⟨kq_⟩, q14_⟩
        ·replace c9 := Bool.eq_false_iff.mpr c9; subst c9; replace H := ifF_ H; obtain rfl := Option.some.inj H; go_wp2_with (first | (go_at_call 60; (with_reducible refine (zat.calls k1 _ _ ((zbh l0 x5_1).f0) _ _ ((zbh l1 x5_1).f0) false _ ?side1 HC365_0.out ?side3 HC366_0.out A8.out).mono ?_); (case side1 => exact cx_ HR365_0.out); (case side3 => exact cx_ HR366_0.out); rintro e w' ⟨rfl, ⟨nd, rfl⟩⟩; (try first | exact ⟨rfl, _, World.drewN_drewN _ _ _⟩ | exact ⟨rfl, _, Eq.trans (World.drewN_drewN _ _ _) (congrArg (World.drewN _) (Nat.add_assoc _ _ _))⟩)))
         repeat (go_quiet (first | (go_at_call 60; (with_reducible refine (zat.calls k1 _ _ ((zbh l0 x5_1).f0) _ _ ((zbh l1 x5_1).f0) false _ ?side1 HC365_0.out ?side3 HC366_0.out A8.out).mono ?_); (case side1 => exact cx_ HR365_0.out); (case side3 => exact cx_ HR366_0.out); rintro e w' ⟨rfl, ⟨nd, rfl⟩⟩; (try first | exact ⟨rfl, _, World.drewN_drewN _ _ _⟩ | exact ⟨rfl, _, Eq.trans (World.drewN_drewN _ _ _) (congrArg (World.drewN _) (Nat.add_assoc _ _ _))⟩))); try go_wp2_with (first | (go_at_call 60; (with_reducible refine (zat.calls k1 _ _ ((zbh l0 x5_1).f0) _ _ ((zbh l1 x5_1).f0) false _ ?side1 HC365_0.out ?side3 HC366_0.out A8.out).mono ?_); (case side1 => exact cx_ HR365_0.out); (case side3 => exact cx_ HR366_0.out); rintro e w' ⟨rfl, ⟨nd, rfl⟩⟩; (try first | exact ⟨rfl, _, World.drewN_drewN _ _ _⟩ | exact ⟨rfl, _, Eq.trans (World.drewN_drewN _ _ _) (congrArg (World.drewN _) (Nat.add_assoc _ _ _))⟩))))
         go_ret; exact ⟨q8_, q14_⟩
       ·rw [if_neg c7] at H; have c7b0 := bn_ c7; have c7b1 := bn1_ c7; obtain rfl := Option.some.inj H; go_wp2
        repeat (go_quiet (fail); try go_wp2)
        go_ret; exact ⟨q8_, q14_⟩
      ·rw [if_neg c6] at H; exact absurd H (by simp)
     ·rw [if_neg c5] at H; exact absurd H (by simp)
    ·rw [if_neg c4] at H; have c4b0 := decide_eq_false c4; clear c4; obtain rfl := Option.some.inj H; go_wp2
     repeat (go_quiet (fail); try go_wp2)
     go_ret; exact ⟨q8_, q14_⟩
 ·rw [if_neg c3] at H; have c3b0 := bn_ c3; have c3b1 := bn1_ c3; have c3b2 : (l0.length == l1.length) = false := q138_; obtain rfl := Option.some.inj H; go_enter Tryd.func36, Tryd.ntmps36; go_wp2
  repeat (go_quiet (fail); try go_wp2)
  go_ret; exact ⟨q8_, q14_⟩
def zag.l0 : Nat → List (S56) → List (S56) → Int → Option (Bool)
 | 0, _, _, _ => none
 | k + 1, x0, x1, x5 => if x5 < (x0.length : Int) then (if 0 ≤ x5 then (if x5 < (x1.length : Int) then (if ((zbl x0 x5).f0).toList = ((zbl x1 x5).f0).toList then ((zba.f k ((zbl x0 x5).f1) ((zbl x1 x5).f1)).bind fun t372 => (if t372 = true then (zag.l0 k x0 x1 (wrap64 (x5 + 1))) else (some false))) else (some false)) else (none)) else (none)) else (some true)
def zag.f (k : Nat) (l0 : List (S56)) (l1 : List (S56)) : Option (Bool) := if (l0.length : Int) = (l1.length : Int) then (zag.l0 k l0 l1 0) else (some false)
theorem zag.zcj : ∀ k, (∀ y0 y1 y2, LeO (zag.l0 k y0 y1 y2) (zag.l0 (k + 1) y0 y1 y2))
 | 0 => fun _ _ _ r h => by simp [zag.l0] at h
 | k + 1 => by
  have ih0 := zag.zcj k
  ·intro y0 y1 y2
   unfold zag.l0
   with_reducible repeat' first
   | apply ih0
   | apply zba.mono
   | apply LeO.refl
   | apply LeO.none
   | refine LeO.ite ?_ ?_
   | refine LeO.bind ?_ (fun _ => ?_)
theorem zag.mono : ∀ a0 a1 k, LeO (zag.f k a0 a1) (zag.f (k + 1) a0 a1) := by
 intro a0 a1 k
 have ih0 := zag.zcj k
 unfold zag.f
 with_reducible repeat' first
   | apply ih0
   | apply zba.mono
   | apply LeO.refl
   | apply LeO.none
   | refine LeO.ite ?_ ?_
   | refine LeO.bind ?_ (fun _ => ?_)
theorem zag.calls (k : Nat) (A0 : Option Addr) (c0 : Nat) (l0 : List (S56)) (A1 : Option Addr) (c1 : Nat) (l1 : List (S56)) (r : Bool) (w : World) (hr0 : Kd.C k56 w A0 l0.length l0) (hc0 : l0.length ≤ c0) (hr1 : Kd.C k56 w A1 l1.length l1) (hc1 : l1.length ≤ c1) (h : zag.f k l0 l1 = some r) :
  Calls Tryd.prog 12 #[.slice A0 l0.length c0, .slice A1 l1.length c1] w fun e w' => e = .returned (.bool r) ∧ zek w w' := by
 have HR0 := ak_ hr0; have HC0 := ak_ hc0; clear hr0 hc0; have HR1 := ak_ hr1; have HC1 := ak_ hc1; clear hr1 hc1; have H : (if (l0.length : Int) = (l1.length : Int) then (zag.l0 k l0 l1 0) else (some false)) = some r := h; clear h; go_enter Tryd.func12, Tryd.ntmps12
 by_cases c3 : (l0.length : Int) = (l1.length : Int)
 ·rw [if_pos c3] at H; have c3b0 := bq_ c3; have c3b1 := bq0_ c3; have c3b2 : (l0.length == l1.length) = true := q138_; clear c3; have H' := ak_ H; clear H; go_wp2
  repeat (go_quiet (fail); try go_wp2)
  go_loopg [5] k (fun kq v5 w' => ∃ (x5_1 : Int), v5 = .int .i64 x5_1 ∧ zab (zag.l0 kq l0 l1 x5_1 = some r) ∧ zab (kq ≤ k) ∧ zek w w')
  case atStart => exact ⟨(0), q8_, H', ⟨Nat.le_refl _⟩, q14_⟩
  case round =>
   clear H'; (try clear c3b0 c3b1 c3b2); obtain ⟨x5_1, rfl, HA, HK1, ⟨m1, rfl⟩⟩ := hrel
   cases gk with
   | zero => exact absurd HA.out (by simp [zag.l0])
   | succ k1 =>
    have H := HA.out; clear HA; simp only [zag.l0] at H
    by_cases c4 : x5_1 < (l0.length : Int)
    ·rw [if_pos c4] at H; have c4b0 := decide_eq_true c4; clear c4
     by_cases c5 : 0 ≤ x5_1
     ·rw [if_pos c5] at H; have c5b0 := decide_eq_true c5; clear c5
      by_cases c6 : x5_1 < (l1.length : Int)
      ·rw [if_pos c6] at H; have c6b0 := decide_eq_true c6; clear c6; have p368 : 0 ≤ (x5_1 : Int) := of_decide_eq_true q4_; have q368 : x5_1 < (l0.length : Int) := of_decide_eq_true q4_; obtain ⟨ad368, A368_1, c368_1, e368, hx368_0, hx368_1, hl368_1, hi368_1⟩ := zin HR0.out x5_1 p368 q368; cases e368; have HR368_1 := ak_ hi368_1; have HC368_1 := ak_ hl368_1; clear hi368_1 hl368_1; replace p368 := eq_true p368; replace q368 := eq_true q368; have p369 : 0 ≤ (x5_1 : Int) := of_decide_eq_true q4_; have q369 : x5_1 < (l1.length : Int) := of_decide_eq_true q4_; obtain ⟨ad369, A369_1, c369_1, e369, hx369_0, hx369_1, hl369_1, hi369_1⟩ := zin HR1.out x5_1 p369 q369; cases e369; have HR369_1 := ak_ hi369_1; have HC369_1 := ak_ hl369_1; clear hi369_1 hl369_1; replace p369 := eq_true p369; replace q369 := eq_true q369
       by_cases c7 : ((zbl l0 x5_1).f0).toList = ((zbl l1 x5_1).f0).toList
       ·rw [if_pos c7] at H; have c7b0 := bq_ c7; have c7b1 := bq0_ c7; clear c7; obtain ⟨t372, A8, H⟩ := bi_ H; replace H : (if t372 = true then (zag.l0 k1 l0 l1 (wrap64 (x5_1 + 1))) else (some false)) = some r := H; have p370 : 0 ≤ (x5_1 : Int) := of_decide_eq_true q4_; have q370 : x5_1 < (l0.length : Int) := of_decide_eq_true q4_; obtain ⟨ad370, A370_1, c370_1, e370, hx370_0, hx370_1, hl370_1, hi370_1⟩ := zin HR0.out x5_1 p370 q370; obtain rfl : ad368 = ad370 := (by injection e370); have HR370_1 := ak_ hi370_1; have HC370_1 := ak_ hl370_1; clear hi370_1 hl370_1; replace p370 := eq_true p370; replace q370 := eq_true q370; have ea_ := Option.some.inj (hx368_1.symm.trans hx370_1); injection ea_ with ea_ en_ ec_
        subst ea_; subst ec_; clear en_; have p371 : 0 ≤ (x5_1 : Int) := of_decide_eq_true q4_; have q371 : x5_1 < (l1.length : Int) := of_decide_eq_true q4_; obtain ⟨ad371, A371_1, c371_1, e371, hx371_0, hx371_1, hl371_1, hi371_1⟩ := zin HR1.out x5_1 p371 q371; obtain rfl : ad369 = ad371 := (by injection e371); have HR371_1 := ak_ hi371_1; have HC371_1 := ak_ hl371_1; clear hi371_1 hl371_1; replace p371 := eq_true p371; replace q371 := eq_true q371; have ea_ := Option.some.inj (hx369_1.symm.trans hx371_1); injection ea_ with ea_ en_ ec_
        subst ea_; subst ec_; clear en_
        by_cases c9 : t372 = true
        ·subst c9; replace H := ifT_ H; have H' := ak_ H; clear H; go_wp2_with (first | (go_at_call 36; (with_reducible refine (zba.calls k1 _ _ ((zbl l0 x5_1).f1) _ _ ((zbl l1 x5_1).f1) true _ ?side1 HC370_1.out ?side3 HC371_1.out A8.out).mono ?_); (case side1 => exact cx_ HR370_1.out); (case side3 => exact cx_ HR371_1.out); rintro e w' ⟨rfl, ⟨nd, rfl⟩⟩; (try first | exact ⟨rfl, _, World.drewN_drewN _ _ _⟩ | exact ⟨rfl, _, Eq.trans (World.drewN_drewN _ _ _) (congrArg (World.drewN _) (Nat.add_assoc _ _ _))⟩)))
         repeat (go_quiet (first | (go_at_call 36; (with_reducible refine (zba.calls k1 _ _ ((zbl l0 x5_1).f1) _ _ ((zbl l1 x5_1).f1) true _ ?side1 HC370_1.out ?side3 HC371_1.out A8.out).mono ?_); (case side1 => exact cx_ HR370_1.out); (case side3 => exact cx_ HR371_1.out); rintro e w' ⟨rfl, ⟨nd, rfl⟩⟩; (try first | exact ⟨rfl, _, World.drewN_drewN _ _ _⟩ | exact ⟨rfl, _, Eq.trans (World.drewN_drewN _ _ _) (congrArg (World.drewN _) (Nat.add_assoc _ _ _))⟩))); try go_wp2_with (first | (go_at_call 36; (with_reducible refine (zba.calls k1 _ _ ((zbl l0 x5_1).f1) _ _ ((zbl l1 x5_1).f1) true _ ?side1 HC370_1.out ?side3 HC371_1.out A8.out).mono ?_); (case side1 => exact cx_ HR370_1.out); (case side3 => exact cx_ HR371_1.out); rintro e w' ⟨rfl, ⟨nd, rfl⟩⟩; (try first | exact ⟨rfl, _, World.drewN_drewN _ _ _⟩ | exact ⟨rfl, _, Eq.trans (World.drewN_drewN _ _ _) (congrArg (World.drewN _) (Nat.add_assoc _ _ _))⟩))))
         go_roundg k1
         case measure => have := HK1.out; omega
         case rel => exact ⟨(wrap64 (x5_1 + 1)), q8_, H', ⟨kq_⟩, q14_⟩
        ·replace c9 := Bool.eq_false_iff.mpr c9; subst c9; replace H := ifF_ H; obtain rfl := Option.some.inj H; go_wp2_with (first | (go_at_call 36; (with_reducible refine (zba.calls k1 _ _ ((zbl l0 x5_1).f1) _ _ ((zbl l1 x5_1).f1) false _ ?side1 HC370_1.out ?side3 HC371_1.out A8.out).mono ?_); (case side1 => exact cx_ HR370_1.out); (case side3 => exact cx_ HR371_1.out); rintro e w' ⟨rfl, ⟨nd, rfl⟩⟩; (try first | exact ⟨rfl, _, World.drewN_drewN _ _ _⟩ | exact ⟨rfl, _, Eq.trans (World.drewN_drewN _ _ _) (congrArg (World.drewN _) (Nat.add_assoc _ _ _))⟩)))
         repeat (go_quiet (first | (go_at_call 36; (with_reducible refine (zba.calls k1 _ _ ((zbl l0 x5_1).f1) _ _ ((zbl l1 x5_1).f1) false _ ?side1 HC370_1.out ?side3 HC371_1.out A8.out).mono ?_); (case side1 => exact cx_ HR370_1.out); (case side3 => exact cx_ HR371_1.out); rintro e w' ⟨rfl, ⟨nd, rfl⟩⟩; (try first | exact ⟨rfl, _, World.drewN_drewN _ _ _⟩ | exact ⟨rfl, _, Eq.trans (World.drewN_drewN _ _ _) (congrArg (World.drewN _) (Nat.add_assoc _ _ _))⟩))); try go_wp2_with (first | (go_at_call 36; (with_reducible refine (zba.calls k1 _ _ ((zbl l0 x5_1).f1) _ _ ((zbl l1 x5_1).f1) false _ ?side1 HC370_1.out ?side3 HC371_1.out A8.out).mono ?_); (case side1 => exact cx_ HR370_1.out); (case side3 => exact cx_ HR371_1.out); rintro e w' ⟨rfl, ⟨nd, rfl⟩⟩; (try first | exact ⟨rfl, _, World.drewN_drewN _ _ _⟩ | exact ⟨rfl, _, Eq.trans (World.drewN_drewN _ _ _) (congrArg (World.drewN _) (Nat.add_assoc _ _ _))⟩))))
         go_ret; exact ⟨q8_, q14_⟩
       ·rw [if_neg c7] at H; have c7b0 := bn_ c7; have c7b1 := bn1_ c7; obtain rfl := Option.some.inj H; go_wp2
        repeat (go_quiet (fail); try go_wp2)
        go_ret; exact ⟨q8_, q14_⟩
      ·rw [if_neg c6] at H; exact absurd H (by simp)
     ·rw [if_neg c5] at H; exact absurd H (by simp)
    ·rw [if_neg c4] at H; have c4b0 := decide_eq_false c4; clear c4; obtain rfl := Option.some.inj H; go_wp2
     repeat (go_quiet (fail); try go_wp2)
     go_ret; exact ⟨q8_, q14_⟩
 ·rw [if_neg c3] at H; have c3b0 := bn_ c3; have c3b1 := bn1_ c3; have c3b2 : (l0.length == l1.length) = false := q138_; obtain rfl := Option.some.inj H; go_wp2
  repeat (go_quiet (fail); try go_wp2)
  go_ret; exact ⟨q8_, q14_⟩

end Go.Proofs.YtchpbnabbjdfgaaDoor.P
