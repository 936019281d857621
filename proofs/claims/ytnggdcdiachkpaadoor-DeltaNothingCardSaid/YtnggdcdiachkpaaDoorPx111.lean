-- HALVED
import Derived.Test.YtnggdcdiachkpaaDoorPx0
import Derived.Test.YtnggdcdiachkpaaDoorPx1
namespace Go.Proofs.YtnggdcdiachkpaaDoor.P
open Go.RowKit Go.Proofs.YtnggdcdiachkpaaDoorW.PrintWords Go.Proofs.YtnggdcdiachkpaaDoorW.PrintLast Go.Proofs.YtnggdcdiachkpaaDoorW.PrintMore
attribute [local go_sem] zdl zeh zee zed zdc zdb zdn zdk   -- for this text's walks alone
set_option linter.unusedVariables false
set_option linter.unusedSimpArgs false
set_option maxHeartbeats 8000000
set_option maxRecDepth 100000

attribute [local go_sem high] eqA48
def zar.l0 : Nat → List (S48) → List (S48) → Int → Option (Bool)
 | 0, _, _, _ => none
 | k + 1, x0, x1, x5 => if x5 < (x0.length : Int) then (if 0 ≤ x5 then (if x5 < (x1.length : Int) then (if (!(((zak x0 x5).f0) == ((zak x1 x5).f0)) || (!(((zak x0 x5).f1) == ((zak x1 x5).f1)) || (!((((zak x0 x5).f2).toList) == (((zak x1 x5).f2).toList))))) = true then (some false) else (zar.l0 k x0 x1 (wrap64 (x5 + 1)))) else (none)) else (none)) else (some true)
def zar.f (k : Nat) (l0 : List (S48)) (l1 : List (S48)) : Option (Bool) := if (l0.length : Int) = (l1.length : Int) then (zar.l0 k l0 l1 0) else (some false)
theorem zar.zci : ∀ k, (∀ y0 y1 y2, LeO (zar.l0 k y0 y1 y2) (zar.l0 (k + 1) y0 y1 y2))
 | 0 => fun _ _ _ r h => by simp [zar.l0] at h
 | k + 1 => by
  have ih0 := zar.zci k
  ·intro y0 y1 y2
   unfold zar.l0
   with_reducible repeat' first
   | apply ih0
   | apply LeO.refl
   | apply LeO.none
   | refine LeO.ite ?_ ?_
   | refine LeO.bind ?_ (fun _ => ?_)
theorem zar.mono : ∀ a0 a1 k, LeO (zar.f k a0 a1) (zar.f (k + 1) a0 a1) := by
 intro a0 a1 k
 have ih0 := zar.zci k
 unfold zar.f
 with_reducible repeat' first
   | apply ih0
   | apply LeO.refl
   | apply LeO.none
   | refine LeO.ite ?_ ?_
   | refine LeO.bind ?_ (fun _ => ?_)
theorem zar.calls (k : Nat) (A0 : Option Addr) (c0 : Nat) (l0 : List (S48)) (A1 : Option Addr) (c1 : Nat) (l1 : List (S48)) (r : Bool) (w : World) (hr0 : Kd.C k48 w A0 l0.length l0) (hc0 : l0.length ≤ c0) (hr1 : Kd.C k48 w A1 l1.length l1) (hc1 : l1.length ≤ c1) (h : zar.f k l0 l1 = some r) :
  Calls Tryd.prog 28 #[.slice A0 l0.length c0, .slice A1 l1.length c1] w fun e w' => e = .returned (.bool r) ∧ zeo w w' := by
 have hu48 := Tryd.underlying48; have HR0 := ak_ hr0; have HC0 := ak_ hc0; clear hr0 hc0; have HR1 := ak_ hr1; have HC1 := ak_ hc1; clear hr1 hc1; have H : (if (l0.length : Int) = (l1.length : Int) then (zar.l0 k l0 l1 0) else (some false)) = some r := h; clear h
 by_cases c3 : (l0.length : Int) = (l1.length : Int)
 ·rw [if_pos c3] at H; have c3b0 := bq_ c3; have c3b1 := bq0_ c3; have c3b2 : (l0.length == l1.length) = true := by first | simpa using c3 | (simp at c3 ⊢; omega)
  clear c3; have H' := ak_ H; clear H; go_enter Tryd.func28, Tryd.ntmps28; go_wp2
  repeat (go_quiet (fail); try go_wp2)
  go_loopg [5] k (fun kq v5 w' => ∃ (x5_1 : Int), v5 = .int .i64 x5_1 ∧ zag (zar.l0 kq l0 l1 x5_1 = some r) ∧ zag (kq ≤ k) ∧ zeo w w')
  case atStart => exact ⟨(0), q6_, H', ⟨Nat.le_refl _⟩, q18_⟩
  case round =>
   clear H'; (try clear c3b0 c3b1 c3b2); obtain ⟨x5_1, rfl, HA, HK1, ⟨m1, rfl⟩⟩ := hrel
   cases gk with
   | zero => exact absurd HA.out (by simp [zar.l0])
   | succ k1 =>
    have H := HA.out; clear HA; simp only [zar.l0] at H
    by_cases c4 : x5_1 < (l0.length : Int)
    ·rw [if_pos c4] at H; have c4b0 := decide_eq_true c4; clear c4
     by_cases c5 : 0 ≤ x5_1
     ·rw [if_pos c5] at H; have c5b0 := decide_eq_true c5; clear c5
      by_cases c6 : x5_1 < (l1.length : Int)
      ·rw [if_pos c6] at H; have c6b0 := decide_eq_true c6; clear c6; have p520 : 0 ≤ (x5_1 : Int) := of_decide_eq_true q5_; have q520 : x5_1 < (l0.length : Int) := of_decide_eq_true q5_; obtain ⟨ad520, e520, hx520_0, hx520_1, hx520_2⟩ := zhz HR0.out x5_1 p520 q520; cases e520; replace p520 := eq_true p520; replace q520 := eq_true q520; have p521 : 0 ≤ (x5_1 : Int) := of_decide_eq_true q5_; have q521 : x5_1 < (l1.length : Int) := of_decide_eq_true q5_; obtain ⟨ad521, e521, hx521_0, hx521_1, hx521_2⟩ := zhz HR1.out x5_1 p521 q521; cases e521; replace p521 := eq_true p521; replace q521 := eq_true q521
       by_cases c7 : (!(((zak l0 x5_1).f0) == ((zak l1 x5_1).f0)) || (!(((zak l0 x5_1).f1) == ((zak l1 x5_1).f1)) || (!((((zak l0 x5_1).f2).toList) == (((zak l1 x5_1).f2).toList))))) = true
       ·rw [if_pos c7] at H; have c7b0 : (!(((zak l0 x5_1).f0) == ((zak l1 x5_1).f0)) || (!(((zak l0 x5_1).f1) == ((zak l1 x5_1).f1)) || (!((((zak l0 x5_1).f2).toList) == (((zak l1 x5_1).f2).toList))))) = true := c7; clear c7; obtain rfl := Option.some.inj H; go_wp2
        repeat (go_quiet (fail); try go_wp2)
        go_ret; exact ⟨q6_, q18_⟩
       ·rw [if_neg c7] at H; have c7b0 : (!(((zak l0 x5_1).f0) == ((zak l1 x5_1).f0)) || (!(((zak l0 x5_1).f1) == ((zak l1 x5_1).f1)) || (!((((zak l0 x5_1).f2).toList) == (((zak l1 x5_1).f2).toList))))) = false := by simpa using c7
        clear c7; have H' := ak_ H; clear H; go_wp2
        repeat (go_quiet (fail); try go_wp2)
        go_roundg k1
        case measure => have := HK1.out; omega
        case rel => exact ⟨(wrap64 (x5_1 + 1)), q6_, H', ⟨kq_⟩, q18_⟩
      ·rw [if_neg c6] at H; exact absurd H (by simp)
     ·rw [if_neg c5] at H; exact absurd H (by simp)
    ·rw [if_neg c4] at H; have c4b0 := decide_eq_false c4; clear c4; obtain rfl := Option.some.inj H; go_wp2
     repeat (go_quiet (fail); try go_wp2)
     go_ret; exact ⟨q6_, q18_⟩
 ·rw [if_neg c3] at H; have c3b0 := bn_ c3; have c3b1 := bn1_ c3; have c3b2 : (l0.length == l1.length) = false := by first | simpa using c3 | (simp at c3 ⊢; omega)
  obtain rfl := Option.some.inj H; go_enter Tryd.func28, Tryd.ntmps28; go_wp2
  repeat (go_quiet (fail); try go_wp2)
  go_ret; exact ⟨q6_, q18_⟩
def zas.l0 : Nat → List (S54) → List (S54) → Int → Option (Bool)
 | 0, _, _, _ => none
 | k + 1, x0, x1, x5 => if x5 < (x0.length : Int) then (if 0 ≤ x5 then (if x5 < (x1.length : Int) then (if ((zah x0 x5).f1) = ((zah x1 x5).f1) then ((zar.f k ((zah x0 x5).f0) ((zah x1 x5).f0)).bind fun t734 => (if t734 = true then (zas.l0 k x0 x1 (wrap64 (x5 + 1))) else (some false))) else (some false)) else (none)) else (none)) else (some true)
def zas.f (k : Nat) (l0 : List (S54)) (l1 : List (S54)) : Option (Bool) := if (l0.length : Int) = (l1.length : Int) then (zas.l0 k l0 l1 0) else (some false)
theorem zas.zci : ∀ k, (∀ y0 y1 y2, LeO (zas.l0 k y0 y1 y2) (zas.l0 (k + 1) y0 y1 y2))
 | 0 => fun _ _ _ r h => by simp [zas.l0] at h
 | k + 1 => by
  have ih0 := zas.zci k
  ·intro y0 y1 y2
   unfold zas.l0
   with_reducible repeat' first
   | apply ih0
   | apply zar.mono
   | apply LeO.refl
   | apply LeO.none
   | refine LeO.ite ?_ ?_
   | refine LeO.bind ?_ (fun _ => ?_)
theorem zas.mono : ∀ a0 a1 k, LeO (zas.f k a0 a1) (zas.f (k + 1) a0 a1) := by
 intro a0 a1 k
 have ih0 := zas.zci k
 unfold zas.f
 with_reducible repeat' first
   | apply ih0
   | apply zar.mono
   | apply LeO.refl
   | apply LeO.none
   | refine LeO.ite ?_ ?_
   | refine LeO.bind ?_ (fun _ => ?_)
theorem zas.calls (k : Nat) (A0 : Option Addr) (c0 : Nat) (l0 : List (S54)) (A1 : Option Addr) (c1 : Nat) (l1 : List (S54)) (r : Bool) (w : World) (hr0 : Kd.C k54 w A0 l0.length l0) (hc0 : l0.length ≤ c0) (hr1 : Kd.C k54 w A1 l1.length l1) (hc1 : l1.length ≤ c1) (h : zas.f k l0 l1 = some r) :
  Calls Tryd.prog 12 #[.slice A0 l0.length c0, .slice A1 l1.length c1] w fun e w' => e = .returned (.bool r) ∧ zeo w w' := by
 have HR0 := ak_ hr0; have HC0 := ak_ hc0; clear hr0 hc0; have HR1 := ak_ hr1; have HC1 := ak_ hc1; clear hr1 hc1; have H : (if (l0.length : Int) = (l1.length : Int) then (zas.l0 k l0 l1 0) else (some false)) = some r := h; clear h; go_enter Tryd.func12, Tryd.ntmps12
 by_cases c3 : (l0.length : Int) = (l1.length : Int)
 ·rw [if_pos c3] at H; have c3b0 := bq_ c3; have c3b1 := bq0_ c3; have c3b2 : (l0.length == l1.length) = true := by first | simpa using c3 | (simp at c3 ⊢; omega)
  clear c3; have H' := ak_ H; clear H; go_wp2
  repeat (go_quiet (fail); try go_wp2)
  go_loopg [5] k (fun kq v5 w' => ∃ (x5_1 : Int), v5 = .int .i64 x5_1 ∧ zag (zas.l0 kq l0 l1 x5_1 = some r) ∧ zag (kq ≤ k) ∧ zeo w w')
  case atStart => exact ⟨(0), q6_, H', ⟨Nat.le_refl _⟩, q18_⟩
  case round =>
   clear H'; (try clear c3b0 c3b1 c3b2); obtain ⟨x5_1, rfl, HA, HK1, ⟨m1, rfl⟩⟩ := hrel
   cases gk with
   | zero => exact absurd HA.out (by simp [zas.l0])
   | succ k1 =>
    have H := HA.out; clear HA; simp only [zas.l0] at H
    by_cases c4 : x5_1 < (l0.length : Int)
    ·rw [if_pos c4] at H; have c4b0 := decide_eq_true c4; clear c4
     by_cases c5 : 0 ≤ x5_1
     ·rw [if_pos c5] at H; have c5b0 := decide_eq_true c5; clear c5
      by_cases c6 : x5_1 < (l1.length : Int)
      ·rw [if_pos c6] at H; have c6b0 := decide_eq_true c6; clear c6; have p730 : 0 ≤ (x5_1 : Int) := of_decide_eq_true q5_; have q730 : x5_1 < (l0.length : Int) := of_decide_eq_true q5_; obtain ⟨ad730, A730_0, c730_0, e730, hx730_0, hx730_1, hl730_0, hi730_0⟩ := zfw HR0.out x5_1 p730 q730; cases e730; have HR730_0 := ak_ hi730_0; have HC730_0 := ak_ hl730_0; clear hi730_0 hl730_0; replace p730 := eq_true p730; replace q730 := eq_true q730; have p731 : 0 ≤ (x5_1 : Int) := of_decide_eq_true q5_; have q731 : x5_1 < (l1.length : Int) := of_decide_eq_true q5_; obtain ⟨ad731, A731_0, c731_0, e731, hx731_0, hx731_1, hl731_0, hi731_0⟩ := zfw HR1.out x5_1 p731 q731; cases e731; have HR731_0 := ak_ hi731_0; have HC731_0 := ak_ hl731_0; clear hi731_0 hl731_0; replace p731 := eq_true p731; replace q731 := eq_true q731
       by_cases c7 : ((zah l0 x5_1).f1) = ((zah l1 x5_1).f1)
       ·rw [if_pos c7] at H; have c7b0 := bq_ c7; have c7b1 := bq0_ c7; clear c7; obtain ⟨t734, A8, H⟩ := bi_ H; replace H : (if t734 = true then (zas.l0 k1 l0 l1 (wrap64 (x5_1 + 1))) else (some false)) = some r := H; have p732 : 0 ≤ (x5_1 : Int) := of_decide_eq_true q5_; have q732 : x5_1 < (l0.length : Int) := of_decide_eq_true q5_; obtain ⟨ad732, A732_0, c732_0, e732, hx732_0, hx732_1, hl732_0, hi732_0⟩ := zfw HR0.out x5_1 p732 q732; obtain rfl : ad730 = ad732 := (by injection e732); have HR732_0 := ak_ hi732_0; have HC732_0 := ak_ hl732_0; clear hi732_0 hl732_0; replace p732 := eq_true p732; replace q732 := eq_true q732; have ea_ := Option.some.inj (hx730_0.symm.trans hx732_0); injection ea_ with ea_ en_ ec_
        subst ea_; subst ec_; clear en_; have p733 : 0 ≤ (x5_1 : Int) := of_decide_eq_true q5_; have q733 : x5_1 < (l1.length : Int) := of_decide_eq_true q5_; obtain ⟨ad733, A733_0, c733_0, e733, hx733_0, hx733_1, hl733_0, hi733_0⟩ := zfw HR1.out x5_1 p733 q733; obtain rfl : ad731 = ad733 := (by injection e733); have HR733_0 := ak_ hi733_0; have HC733_0 := ak_ hl733_0; clear hi733_0 hl733_0; replace p733 := eq_true p733; replace q733 := eq_true q733; have ea_ := Option.some.inj (hx731_0.symm.trans hx733_0); injection ea_ with ea_ en_ ec_
        subst ea_; subst ec_; clear en_
        by_cases c9 : t734 = true
        ·subst c9; replace H := ifT_ H; have H' := ak_ H; clear H; go_wp2_with (first | (go_at_call 28; (with_reducible refine (zar.calls k1 _ _ ((zah l0 x5_1).f0) _ _ ((zah l1 x5_1).f0) true _ ?side1 HC732_0.out ?side3 HC733_0.out A8.out).mono ?_); (case side1 => exact cx_ HR732_0.out); (case side3 => exact cx_ HR733_0.out); rintro e w' ⟨rfl, ⟨nd, rfl⟩⟩; (try first | exact ⟨rfl, _, World.drewN_drewN _ _ _⟩ | exact ⟨rfl, _, Eq.trans (World.drewN_drewN _ _ _) (congrArg (World.drewN _) (Nat.add_assoc _ _ _))⟩)))
         repeat (go_quiet (first | (go_at_call 28; (with_reducible refine (zar.calls k1 _ _ ((zah l0 x5_1).f0) _ _ ((zah l1 x5_1).f0) true _ ?side1 HC732_0.out ?side3 HC733_0.out A8.out).mono ?_); (case side1 => exact cx_ HR732_0.out); (case side3 => exact cx_ HR733_0.out); rintro e w' ⟨rfl, ⟨nd, rfl⟩⟩; (try first | exact ⟨rfl, _, World.drewN_drewN _ _ _⟩ | exact ⟨rfl, _, Eq.trans (World.drewN_drewN _ _ _) (congrArg (World.drewN _) (Nat.add_assoc _ _ _))⟩))); try go_wp2_with (first | (go_at_call 28; (with_reducible refine (zar.calls k1 _ _ ((zah l0 x5_1).f0) _ _ ((zah l1 x5_1).f0) true _ ?side1 HC732_0.out ?side3 HC733_0.out A8.out).mono ?_); (case side1 => exact cx_ HR732_0.out); (case side3 => exact cx_ HR733_0.out); rintro e w' ⟨rfl, ⟨nd, rfl⟩⟩; (try first | exact ⟨rfl, _, World.drewN_drewN _ _ _⟩ | exact ⟨rfl, _, Eq.trans (World.drewN_drewN _ _ _) (congrArg (World.drewN _) (Nat.add_assoc _ _ _))⟩))))
         go_roundg k1
         case measure => have := HK1.out; omega
         case rel => exact ⟨(wrap64 (x5_1 + 1)), q6_, H', ⟨kq_⟩, q18_⟩
        ·replace c9 := Bool.eq_false_iff.mpr c9; subst c9; replace H := ifF_ H; obtain rfl := Option.some.inj H; go_wp2_with (first | (go_at_call 28; (with_reducible refine (zar.calls k1 _ _ ((zah l0 x5_1).f0) _ _ ((zah l1 x5_1).f0) false _ ?side1 HC732_0.out ?side3 HC733_0.out A8.out).mono ?_); (case side1 => exact cx_ HR732_0.out); (case side3 => exact cx_ HR733_0.out); rintro e w' ⟨rfl, ⟨nd, rfl⟩⟩; (try first | exact ⟨rfl, _, World.drewN_drewN _ _ _⟩ | exact ⟨rfl, _, Eq.trans (World.drewN_drewN _ _ _) (congrArg (World.drewN _) (Nat.add_assoc _ _ _))⟩)))
         repeat (go_quiet (first | (go_at_call 28; (with_reducible refine (zar.calls k1 _ _ ((zah l0 x5_1).f0) _ _ ((zah l1 x5_1).f0) false _ ?side1 HC732_0.out ?side3 HC733_0.out A8.out).mono ?_); (case side1 => exact cx_ HR732_0.out); (case side3 => exact cx_ HR733_0.out); rintro e w' ⟨rfl, ⟨nd, rfl⟩⟩; (try first | exact ⟨rfl, _, World.drewN_drewN _ _ _⟩ | exact ⟨rfl, _, Eq.trans (World.drewN_drewN _ _ _) (congrArg (World.drewN _) (Nat.add_assoc _ _ _))⟩))); try go_wp2_with (first | (go_at_call 28; (with_reducible refine (zar.calls k1 _ _ ((zah l0 x5_1).f0) _ _ ((zah l1 x5_1).f0) false _ ?side1 HC732_0.out ?side3 HC733_0.out A8.out).mono ?_); (case side1 => exact cx_ HR732_0.out); (case side3 => exact cx_ HR733_0.out); rintro e w' ⟨rfl, ⟨nd, rfl⟩⟩; (try first | exact ⟨rfl, _, World.drewN_drewN _ _ _⟩ | exact ⟨rfl, _, Eq.trans (World.drewN_drewN _ _ _) (congrArg (World.drewN _) (Nat.add_assoc _ _ _))⟩))))
         go_ret; exact ⟨q6_, q18_⟩
       ·rw [if_neg c7] at H; have c7b0 := bn_ c7; have c7b1 := bn1_ c7; obtain rfl := Option.some.inj H; go_wp2
        repeat (go_quiet (fail); try go_wp2)
        go_ret; exact ⟨q6_, q18_⟩
      ·rw [if_neg c6] at H; exact absurd H (by simp)
     ·rw [if_neg c5] at H; exact absurd H (by simp)
    ·rw [if_neg c4] at H; have c4b0 := decide_eq_false c4; clear c4; obtain rfl := Option.some.inj H; go_wp2
     repeat (go_quiet (fail); try go_wp2)
     go_ret; exact ⟨q6_, q18_⟩
 ·rw [if_neg c3] at H; have c3b0 := bn_ c3; have c3b1 := bn1_ c3; have c3b2 : (l0.length == l1.length) = false := by first | simpa using c3 | (simp at c3 ⊢; omega)
  obtain rfl := Option.some.inj H; go_wp2
  repeat (go_quiet (fail); try go_wp2)
  go_ret; exact ⟨q6_, q18_⟩

end Go.Proofs.YtnggdcdiachkpaaDoor.P
