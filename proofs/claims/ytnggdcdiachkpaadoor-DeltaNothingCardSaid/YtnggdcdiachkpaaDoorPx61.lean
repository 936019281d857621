-- HALVED
import Derived.Test.YtnggdcdiachkpaaDoorPx0
import Derived.Test.YtnggdcdiachkpaaDoorPx4
namespace Go.Proofs.YtnggdcdiachkpaaDoor.P
open Go.RowKit Go.Proofs.YtnggdcdiachkpaaDoorW.PrintWords Go.Proofs.YtnggdcdiachkpaaDoorW.PrintLast Go.Proofs.YtnggdcdiachkpaaDoorW.PrintMore
attribute [local go_sem] zdl zeh zee zed zdc zdb zdn zdk   -- for this text's walks alone
set_option linter.unusedVariables false
set_option linter.unusedSimpArgs false
set_option maxHeartbeats 8000000
set_option maxRecDepth 100000
def zck.j0 : Nat → Int → Bool → Option (Int)
 | 0, _, _ => none
 | k + 1, x3, x4 => if x4 = true then (some 0) else (if x3 = 6 then (some 1) else (if x3 = 15 then (some 1) else (if x3 = 16 then (some 1) else (some 2))))
def zck.f (k : Nat) (a0 : Int) : Option (Int) := if a0 = 1 then (zck.j0 k a0 (a0 == 1)) else (zck.j0 k a0 (a0 == 2))
theorem zck.zci : ∀ k, (∀ y0 y1, LeO (zck.j0 k y0 y1) (zck.j0 (k + 1) y0 y1))
 | 0 => fun _ _ r h => by simp [zck.j0] at h
 | k + 1 => by
  have ih0 := zck.zci k
  ·intro y0 y1
   unfold zck.j0
   with_reducible repeat' first
   | apply ih0
   | apply LeO.refl
   | apply LeO.none
   | refine LeO.ite ?_ ?_
   | refine LeO.bind ?_ (fun _ => ?_)
theorem zck.mono : ∀ a0 k, LeO (zck.f k a0) (zck.f (k + 1) a0) := by
 intro a0 k
 have ih0 := zck.zci k
 unfold zck.f
 with_reducible repeat' first
   | apply ih0
   | apply LeO.refl
   | apply LeO.none
   | refine LeO.ite ?_ ?_
   | refine LeO.bind ?_ (fun _ => ?_)
theorem zck.calls (k : Nat) (a0 : Int) (r : Int) (w : World) (h : zck.f k a0 = some r) :
  Calls Tryd.prog 55 #[.int .i64 a0] w fun e w' => e = .returned (.int .i64 r) ∧ zeo w w' := by
 have H : (if a0 = 1 then (zck.j0 k a0 (a0 == 1)) else (zck.j0 k a0 (a0 == 2))) = some r := h; clear h; have HC2 := ak_ H; clear H; go_enter Tryd.func55, Tryd.ntmps55; go_upto_if 4 with (fail)
 go_cut [4] (fun v4 wc => ∃ (kq : Nat) (x4_1 : Bool), v4 = .bool x4_1 ∧ zag (zck.j0 kq a0 x4_1 = some r) ∧ zag (kq ≤ k) ∧ zeo w wc)
 case first =>
  have H := HC2.out; clear HC2
  by_cases c3 : a0 = 1
  ·rw [if_pos c3] at H; have c3b0 := bq_ c3; have c3b1 := bq0_ c3; clear c3; (first | rw [c3b0] | (simp only [zef, zen]; rw [c3b0]) | skip); have H' := ak_ H; clear H; go_wp2; go_meet
   case rel => exact ⟨_, ((a0 == 1)), q6_, H', ⟨by first | omega | exact Nat.le_refl _⟩, q18_⟩
  ·rw [if_neg c3] at H; have c3b0 := bn_ c3; have c3b1 := bn1_ c3; (first | rw [c3b0] | (simp only [zef, zen]; rw [c3b0]) | skip); have H' := ak_ H; clear H; go_wp2; go_meet
   case rel => exact ⟨_, ((a0 == 2)), q6_, H', ⟨by first | omega | exact Nat.le_refl _⟩, q18_⟩
 case rest =>
  clear HC2; obtain ⟨kq, x4_1, rfl, HA, HJ1, ⟨mc1, rfl⟩⟩ := hcut
  cases kq with
  | zero => exact absurd HA.out (by simp [zck.j0])
  | succ kj1 =>
   have H := HA.out; clear HA; simp only [zck.j0] at H
   by_cases c4 : x4_1 = true
   ·subst c4; replace H := ifT_ H; obtain rfl := Option.some.inj H; go_wp2; go_ret; exact ⟨q6_, q18_⟩
   ·replace c4 := Bool.eq_false_iff.mpr c4; subst c4; replace H := ifF_ H
    by_cases c5 : a0 = 6
    ·rw [if_pos c5] at H; have c5b0 := bq_ c5; have c5b1 := bq0_ c5; clear c5; obtain rfl := Option.some.inj H; go_wp2; go_ret; exact ⟨q6_, q18_⟩
    ·rw [if_neg c5] at H; have c5b0 := bn_ c5; have c5b1 := bn1_ c5
     by_cases c6 : a0 = 15
     ·rw [if_pos c6] at H; have c6b0 := bq_ c6; have c6b1 := bq0_ c6; clear c6; obtain rfl := Option.some.inj H; go_wp2; go_ret; exact ⟨q6_, q18_⟩
     ·rw [if_neg c6] at H; have c6b0 := bn_ c6; have c6b1 := bn1_ c6
      by_cases c7 : a0 = 16
      ·rw [if_pos c7] at H; have c7b0 := bq_ c7; have c7b1 := bq0_ c7; clear c7; obtain rfl := Option.some.inj H; go_wp2; go_ret; exact ⟨q6_, q18_⟩
      ·rw [if_neg c7] at H; have c7b0 := bn_ c7; have c7b1 := bn1_ c7; obtain rfl := Option.some.inj H; go_wp2; go_ret; exact ⟨q6_, q18_⟩
mutual
def zbn.l0 : Nat → List (S50) → Int → Int → List (S50) → Int → Int → Option (Bool)
 | 0, _, _, _, _, _, _ => none
 | k + 1, x0, x1, x5, x9, x10, x11 => if x11 < x10 then (if 0 ≤ x11 then (if x11 < (x9.length : Int) then (if ((zan x9 x11).f0) < 1 then (zbn.j1 k x0 x1 x5 x9 x10 x11 true ((zan x9 x11).f0) ((zan x9 x11).f1) ((zan x9 x11).f2.f0) ((zan x9 x11).f2.f1) ((zan x9 x11).f2.f2)) else (if ((zan x9 x11).f0) > 16 then (zbn.j1 k x0 x1 x5 x9 x10 x11 true ((zan x9 x11).f0) ((zan x9 x11).f1) ((zan x9 x11).f2.f0) ((zan x9 x11).f2.f1) ((zan x9 x11).f2.f2)) else (if ((zan x9 x11).f0) = 2 then ((zcu.f ((zan x9 x11).f2.f0) ((zan x9 x11).f2.f1) ((zan x9 x11).f2.f2)).bind fun t224 => (if t224 = true then (if ((zan x9 x11).f0) = 1 then (if ((zan x9 x11).f1) < 0 then (zbn.j1 k x0 x1 x5 x9 x10 x11 true ((zan x9 x11).f0) ((zan x9 x11).f1) ((zan x9 x11).f2.f0) ((zan x9 x11).f2.f1) ((zan x9 x11).f2.f2)) else (zbn.j1 k x0 x1 x5 x9 x10 x11 (decide (((zan x9 x11).f1) ≥ x1)) ((zan x9 x11).f0) ((zan x9 x11).f1) ((zan x9 x11).f2.f0) ((zan x9 x11).f2.f1) ((zan x9 x11).f2.f2))) else (zbn.j1 k x0 x1 x5 x9 x10 x11 false ((zan x9 x11).f0) ((zan x9 x11).f1) ((zan x9 x11).f2.f0) ((zan x9 x11).f2.f1) ((zan x9 x11).f2.f2))) else (zbn.j1 k x0 x1 x5 x9 x10 x11 true ((zan x9 x11).f0) ((zan x9 x11).f1) ((zan x9 x11).f2.f0) ((zan x9 x11).f2.f1) ((zan x9 x11).f2.f2)))) else (if ((zan x9 x11).f0) = 1 then (if ((zan x9 x11).f1) < 0 then (zbn.j1 k x0 x1 x5 x9 x10 x11 true ((zan x9 x11).f0) ((zan x9 x11).f1) ((zan x9 x11).f2.f0) ((zan x9 x11).f2.f1) ((zan x9 x11).f2.f2)) else (zbn.j1 k x0 x1 x5 x9 x10 x11 (decide (((zan x9 x11).f1) ≥ x1)) ((zan x9 x11).f0) ((zan x9 x11).f1) ((zan x9 x11).f2.f0) ((zan x9 x11).f2.f1) ((zan x9 x11).f2.f2))) else (zbn.j1 k x0 x1 x5 x9 x10 x11 false ((zan x9 x11).f0) ((zan x9 x11).f1) ((zan x9 x11).f2.f0) ((zan x9 x11).f2.f1) ((zan x9 x11).f2.f2)))))) else (none)) else (none)) else (if x5 = 1 then (some (decide ((x0.length : Int) ≤ 32))) else (some false))
def zbn.j1 : Nat → List (S50) → Int → Int → List (S50) → Int → Int → Bool → Int → Int → Int → Int → ByteArray → Option (Bool)
 | 0, _, _, _, _, _, _, _, _, _, _, _, _ => none
 | k + 1, x0, x1, x5, x9, x10, x11, x49, x224000, x224001, x224002, x224003, x224004 => if x49 = true then (some false) else ((zck.f k x224000).bind fun t225 => (if x5 < t225 then (some false) else (zbn.l0 k x0 x1 (wrap64 (x5 + (wrap64 (1 - t225)))) x9 x10 (wrap64 (x11 + 1)))))
end
def zbn.f (k : Nat) (l0 : List (S50)) (a1 : Int) : Option (Bool) := zbn.l0 k l0 a1 0 l0 (l0.length : Int) 0
theorem zbn.zci : ∀ k, (∀ y0 y1 y2 y3 y4 y5, LeO (zbn.l0 k y0 y1 y2 y3 y4 y5) (zbn.l0 (k + 1) y0 y1 y2 y3 y4 y5)) ∧ (∀ y0 y1 y2 y3 y4 y5 y6 y7 y8 y9 y10 y11, LeO (zbn.j1 k y0 y1 y2 y3 y4 y5 y6 y7 y8 y9 y10 y11) (zbn.j1 (k + 1) y0 y1 y2 y3 y4 y5 y6 y7 y8 y9 y10 y11))
 | 0 => ⟨fun _ _ _ _ _ _ r h => by simp [zbn.l0] at h, fun _ _ _ _ _ _ _ _ _ _ _ _ r h => by simp [zbn.j1] at h⟩
 | k + 1 => by
  obtain ⟨ih0, ih1⟩ := zbn.zci k
  refine ⟨?_, ?_⟩
  all_goals intros
  all_goals first
   | unfold zbn.l0
   | unfold zbn.j1
  all_goals with_reducible repeat' first
   | apply ih0
   | apply ih1
   | apply zck.mono
   | apply LeO.refl
   | apply LeO.none
   | refine LeO.ite ?_ ?_
   | refine LeO.bind ?_ (fun _ => ?_)
theorem zbn.mono : ∀ a0 a1 k, LeO (zbn.f k a0 a1) (zbn.f (k + 1) a0 a1) := by
 intro a0 a1 k
 obtain ⟨ih0, ih1⟩ := zbn.zci k
 unfold zbn.f
 with_reducible repeat' first
   | apply ih0
   | apply ih1
   | apply zck.mono
   | apply LeO.refl
   | apply LeO.none
   | refine LeO.ite ?_ ?_
   | refine LeO.bind ?_ (fun _ => ?_)
theorem zbn.calls (k : Nat) (A0 : Option Addr) (c0 : Nat) (l0 : List (S50)) (a1 : Int) (r : Bool) (w : World) (hr0 : Kd.C k50 w A0 l0.length l0) (hc0 : l0.length ≤ c0) (h : zbn.f k l0 a1 = some r) (hG : Glob w) :
  Calls Tryd.prog 54 #[.slice A0 l0.length c0, .int .i64 a1] w fun e w' => e = .returned (.bool r) ∧ Below w.heap.size w w' := by
 have hu50 := Tryd.underlying50; have hu48 := Tryd.underlying48; have HG := ak_ hG; clear hG; have HR0 := ak_ hr0; have HC0 := ak_ hc0; clear hr0 hc0; have HB := ak_ (Below.refl w.heap.size w); have H : (zbn.l0 k l0 a1 0 l0 (l0.length : Int) 0) = some r := h; clear h; have H' := ak_ H; clear H; go_enter Tryd.func54, Tryd.ntmps54; go_wp2; go_loopg [5, 11] k (fun kq v5 v11 w' => ∃ (x5_1 : Int) (x11_1 : Int), v5 = .int .i64 x5_1 ∧ v11 = .int .i64 x11_1 ∧ zag (zbn.l0 kq l0 a1 x5_1 l0 (l0.length : Int) x11_1 = some r) ∧ zag (kq ≤ k) ∧ zag (Below w.heap.size w w'))
 case atStart => exact ⟨(0), (0), q6_, q6_, H', ⟨Nat.le_refl _⟩, ⟨q0_⟩⟩
 case round =>
  clear H'; obtain ⟨x5_1, x11_1, rfl, rfl, HA, HK1, HB⟩ := hrel
  cases gk with
  | zero => exact absurd HA.out (by simp [zbn.l0])
  | succ k1 =>
   have H := HA.out; clear HA; simp only [zbn.l0] at H
   by_cases c3 : x11_1 < (l0.length : Int)
   ·rw [if_pos c3] at H; have c3b0 := decide_eq_true c3; clear c3
    by_cases c4 : 0 ≤ x11_1
    ·rw [if_pos c4] at H; have c4b0 := decide_eq_true c4; clear c4
     by_cases c5 : x11_1 < (l0.length : Int)
     ·rw [if_pos c5] at H; have c5b0 := decide_eq_true c5; clear c5; have HC6 := ak_ H; clear H; have p222 : 0 ≤ (x11_1 : Int) := of_decide_eq_true q5_; have q222 : x11_1 < (l0.length : Int) := of_decide_eq_true q5_; obtain ⟨ad222, e222, hx222_0, hx222_1, hx222_2, hx222_3, hx222_4⟩ := at_T50 HR0.out x11_1 p222 q222; cases e222; replace hx222_0 := hc_ HB.out hx222_0; replace hx222_1 := hc_ HB.out hx222_1; replace hx222_2 := hc_ HB.out hx222_2; replace hx222_3 := hc_ HB.out hx222_3; replace hx222_4 := hc_ HB.out hx222_4; replace p222 := eq_true p222; replace q222 := eq_true q222; go_upto_region 5 with (first | ((with_reducible refine gd_ 7 rfl ?_); (try (refine zbt (by rfl) ?_; dsimp only)); refine by_ #[.int .i64 0, .int .i64 0, .int .i64 0, .int .i64 0, .string (⟨#[]⟩ : ByteArray)] 50 ?_; intro gb223 hg w7 BK223 hb; have GE223 := gw_ hg; replace HB := bs_ hb; clear hb hg; have hz8 := bc5_ (w := w7) BK223.out))
      (try simp only [Act.put, List.setIfInBounds_toArray, List.set_cons_zero, List.set_cons_succ]); go_cut [49] (fun v49 wc => ∃ (kq : Nat) (x49_5 : Bool), v49 = .bool x49_5 ∧ zag (zbn.j1 kq l0 a1 x5_1 l0 (l0.length : Int) x11_1 x49_5 ((zan l0 x11_1).f0) ((zan l0 x11_1).f1) ((zan l0 x11_1).f2.f0) ((zan l0 x11_1).f2.f1) ((zan l0 x11_1).f2.f2) = some r) ∧ zag (kq ≤ k1) ∧ zag (wc.heap[gb223]? = some (.cells #[.int .i64 ((zan l0 x11_1).f0), .int .i64 ((zan l0 x11_1).f1), .int .i64 ((zan l0 x11_1).f2.f0), .int .i64 ((zan l0 x11_1).f2.f1), .string ((zan l0 x11_1).f2.f2)] 50 (0, 0))) ∧ zag (Below w.heap.size w wc))
      case first =>
       have H := HC6.out; clear HC6; have hcz10_0 : w7.cell? ⟨gb223, 0, none⟩ = some (.int .i64 0) := bt_ BK223.out 0; have hcz10_1 : w7.cell? ⟨gb223, 1, none⟩ = some (.int .i64 0) := bt_ BK223.out 1; have hcz10_2 : w7.cell? ⟨gb223, 2, none⟩ = some (.int .i64 0) := bt_ BK223.out 2; have hcz10_3 : w7.cell? ⟨gb223, 3, none⟩ = some (.int .i64 0) := bt_ BK223.out 3; have hcz10_4 : w7.cell? ⟨gb223, 4, none⟩ = some (.string (⟨#[]⟩ : ByteArray)) := bt_ BK223.out 4
       by_cases c9 : ((zan l0 x11_1).f0) < 1
       ·rw [if_pos c9] at H; have c9b0 := decide_eq_true c9; clear c9; (first | rw [c9b0] | (simp only [zef, zen]; rw [c9b0]) | skip); have H' := ak_ H; clear H; have hfz10_0 := zaq BK223.out 0; have hfz10_1 := zaq BK223.out 1; have hfz10_2 := zaq BK223.out 2; have hfz10_3 := zaq BK223.out 3; have hfz10_4 := zaq BK223.out 4; go_wp2; go_meet
        case rel => exact ⟨_, (true), q6_, H', ⟨q157_⟩, ⟨q4_⟩, ⟨q0_⟩⟩
       ·rw [if_neg c9] at H; have c9b0 := decide_eq_false c9; clear c9; (first | rw [c9b0] | (simp only [zef, zen]; rw [c9b0]) | skip); have hfz12_0 := zaq BK223.out 0
        by_cases c11 : ((zan l0 x11_1).f0) > 16
        ·rw [if_pos c11] at H; have c11b0 : decide (16 < ((zan l0 x11_1).f0)) = true := decide_eq_true c11; clear c11; have H' := ak_ H; clear H; have hfz12_1 := zaq BK223.out 1; have hfz12_2 := zaq BK223.out 2; have hfz12_3 := zaq BK223.out 3; have hfz12_4 := zaq BK223.out 4; go_wp2; go_meet
         case rel => exact ⟨_, (true), q6_, H', ⟨q157_⟩, ⟨q4_⟩, ⟨q0_⟩⟩
        ·rw [if_neg c11] at H; have c11b0 : decide (16 < ((zan l0 x11_1).f0)) = false := decide_eq_false c11; clear c11; have hfz18_1 := zaq BK223.out 1
         by_cases c13 : ((zan l0 x11_1).f0) = 2
         ·rw [if_pos c13] at H; have c13b0 := bq_ c13; have c13b1 := bq0_ c13; clear c13; obtain ⟨t224, A14, H⟩ := bi_ H; try dsimp only at H
          have hfz18_2 := zaq BK223.out 2
          by_cases c15 : t224 = true
          ·subst c15; replace H := ifT_ H; have hfz18_3 := zaq BK223.out 3
           by_cases c16 : ((zan l0 x11_1).f0) = 1
           ·rw [if_pos c16] at H; have c16b0 := bq_ c16; have c16b1 := bq0_ c16; clear c16; have hfz18_4 := zaq BK223.out 4
            by_cases c17 : ((zan l0 x11_1).f1) < 0
            ·rw [if_pos c17] at H; have c17b0 := decide_eq_true c17; clear c17; have H' := ak_ H; clear H; go_wp2_with (first | (go_at_call 53; (with_reducible refine (zcu.calls ((zan l0 x11_1).f2.f0) ((zan l0 x11_1).f2.f1) ((zan l0 x11_1).f2.f2) true _ A14.out q79_).mono ?_); rintro e w19 ⟨rfl, hb⟩; replace BK223 := bb_ (o := .cells #[.int .i64 ((zan l0 x11_1).f0), .int .i64 ((zan l0 x11_1).f1), .int .i64 ((zan l0 x11_1).f2.f0), .int .i64 ((zan l0 x11_1).f2.f1), .string ((zan l0 x11_1).f2.f2)] 50 (0, 0)) q4_ hb; replace HB := bs_ hb; clear hb; have hz20 := bc5_ (w := w19) BK223.out)); go_meet
             case rel => exact ⟨_, (true), q6_, H', ⟨q157_⟩, ⟨q203_⟩, ⟨q0_⟩⟩
            ·rw [if_neg c17] at H; have c17b0 := decide_eq_false c17; clear c17; have H' := ak_ H; clear H; go_wp2_with (first | (go_at_call 53; (with_reducible refine (zcu.calls ((zan l0 x11_1).f2.f0) ((zan l0 x11_1).f2.f1) ((zan l0 x11_1).f2.f2) true _ A14.out q79_).mono ?_); rintro e w22 ⟨rfl, hb⟩; replace BK223 := bb_ (o := .cells #[.int .i64 ((zan l0 x11_1).f0), .int .i64 ((zan l0 x11_1).f1), .int .i64 ((zan l0 x11_1).f2.f0), .int .i64 ((zan l0 x11_1).f2.f1), .string ((zan l0 x11_1).f2.f2)] 50 (0, 0)) q4_ hb; replace HB := bs_ hb; clear hb; have hz23 := bc5_ (w := w22) BK223.out)); go_meet
             case rel => exact ⟨_, (decide (((zan l0 x11_1).f1) ≥ a1)), q6_, H', ⟨q157_⟩, ⟨q203_⟩, ⟨q0_⟩⟩
           ·rw [if_neg c16] at H; have c16b0 := bn_ c16; have c16b1 := bn1_ c16; have H' := ak_ H; clear H; have hfz24_4 := zaq BK223.out 4; go_wp2_with (first | (go_at_call 53; (with_reducible refine (zcu.calls ((zan l0 x11_1).f2.f0) ((zan l0 x11_1).f2.f1) ((zan l0 x11_1).f2.f2) true _ A14.out q79_).mono ?_); rintro e w25 ⟨rfl, hb⟩; replace BK223 := bb_ (o := .cells #[.int .i64 ((zan l0 x11_1).f0), .int .i64 ((zan l0 x11_1).f1), .int .i64 ((zan l0 x11_1).f2.f0), .int .i64 ((zan l0 x11_1).f2.f1), .string ((zan l0 x11_1).f2.f2)] 50 (0, 0)) q4_ hb; replace HB := bs_ hb; clear hb; have hz26 := bc5_ (w := w25) BK223.out)); go_meet
            case rel => exact ⟨_, (false), q6_, H', ⟨q157_⟩, ⟨q203_⟩, ⟨q0_⟩⟩
          ·replace c15 := Bool.eq_false_iff.mpr c15; subst c15; replace H := ifF_ H; have H' := ak_ H; clear H; have hfz27_3 := zaq BK223.out 3; have hfz27_4 := zaq BK223.out 4; go_wp2_with (first | (go_at_call 53; (with_reducible refine (zcu.calls ((zan l0 x11_1).f2.f0) ((zan l0 x11_1).f2.f1) ((zan l0 x11_1).f2.f2) false _ A14.out q79_).mono ?_); rintro e w28 ⟨rfl, hb⟩; replace BK223 := bb_ (o := .cells #[.int .i64 ((zan l0 x11_1).f0), .int .i64 ((zan l0 x11_1).f1), .int .i64 ((zan l0 x11_1).f2.f0), .int .i64 ((zan l0 x11_1).f2.f1), .string ((zan l0 x11_1).f2.f2)] 50 (0, 0)) q4_ hb; replace HB := bs_ hb; clear hb)); go_meet
           case rel => exact ⟨_, (true), q6_, H', ⟨q157_⟩, ⟨q203_⟩, ⟨q0_⟩⟩
         ·rw [if_neg c13] at H; have c13b0 := bn_ c13; have c13b1 := bn1_ c13; have hfz31_2 := zaq BK223.out 2; have hfz31_3 := zaq BK223.out 3
          by_cases c29 : ((zan l0 x11_1).f0) = 1
          ·rw [if_pos c29] at H; have c29b0 := bq_ c29; have c29b1 := bq0_ c29; clear c29; have hfz31_4 := zaq BK223.out 4
           by_cases c30 : ((zan l0 x11_1).f1) < 0
           ·rw [if_pos c30] at H; have c30b0 := decide_eq_true c30; clear c30; have H' := ak_ H; clear H; go_wp2; go_meet
            case rel => exact ⟨_, (true), q6_, H', ⟨q157_⟩, ⟨q4_⟩, ⟨q0_⟩⟩
           ·rw [if_neg c30] at H; have c30b0 := decide_eq_false c30; clear c30; have H' := ak_ H; clear H; go_wp2; go_meet
            case rel => exact ⟨_, (decide (((zan l0 x11_1).f1) ≥ a1)), q6_, H', ⟨q157_⟩, ⟨q4_⟩, ⟨q0_⟩⟩
          ·rw [if_neg c29] at H; have c29b0 := bn_ c29; have c29b1 := bn1_ c29; have H' := ak_ H; clear H; have hfz33_4 := zaq BK223.out 4; go_wp2; go_meet
           case rel => exact ⟨_, (false), q6_, H', ⟨q157_⟩, ⟨q4_⟩, ⟨q0_⟩⟩
      case rest =>
       clear HC6; (try clear c3b0 c4b0 c5b0 hz8 hx222_0 hx222_1 hx222_2 hx222_3 hx222_4 p222 q222); obtain ⟨kq, x49_5, rfl, HA, HJ5, BK223, HB⟩ := hcut
       cases kq with
       | zero => exact absurd HA.out (by simp [zbn.j1])
       | succ kj5 =>
        have H := HA.out; clear HA; simp only [zbn.j1] at H
        by_cases c34 : x49_5 = true
        ·subst c34; replace H := ifT_ H; obtain rfl := Option.some.inj H; go_wp2; go_ret; exact ⟨q3_, q0_⟩
        ·replace c34 := Bool.eq_false_iff.mpr c34; subst c34; replace H := ifF_ H; obtain ⟨t225, A35, H⟩ := bi_ H; try dsimp only at H
         have hz37 := bc5_ (w := wc) BK223.out
         by_cases c36 : x5_1 < t225
         ·rw [if_pos c36] at H; have c36b0 := decide_eq_true c36; clear c36; obtain rfl := Option.some.inj H; go_wp2_with (first | ((with_reducible refine gc_ 55 rfl ?_); refine gl_ 52 Tryd.func55 #[.int .i64 ((zan l0 x11_1).f0)] ?_; (with_reducible refine (zck.calls kj5 ((zan l0 x11_1).f0) t225 _ A35.out).mono ?_); rintro e w' ⟨rfl, ⟨nd, rfl⟩⟩; refine ⟨_, rfl, ?_⟩)); go_ret; exact ⟨q3_, q0_⟩
         ·rw [if_neg c36] at H; have c36b0 := decide_eq_false c36; clear c36; have H' := ak_ H; clear H; go_wp2_with (first | ((with_reducible refine gc_ 55 rfl ?_); refine gl_ 52 Tryd.func55 #[.int .i64 ((zan l0 x11_1).f0)] ?_; (with_reducible refine (zck.calls kj5 ((zan l0 x11_1).f0) t225 _ A35.out).mono ?_); rintro e w' ⟨rfl, ⟨nd, rfl⟩⟩; refine ⟨_, rfl, ?_⟩)); go_roundg kj5
          case measure => have := HK1.out; have := HJ5.out; omega
          case rel => exact ⟨(wrap64 (x5_1 + (wrap64 (1 - t225)))), (wrap64 (x11_1 + 1)), q6_, q6_, H', ⟨by have := HK1.out; have := HJ5.out; omega⟩, ⟨q0_⟩⟩
     ·rw [if_neg c5] at H; exact absurd H (by simp)
    ·rw [if_neg c4] at H; exact absurd H (by simp)
   ·rw [if_neg c3] at H; have c3b0 := decide_eq_false c3; clear c3
    by_cases c39 : x5_1 = 1
    ·rw [if_pos c39] at H; have c39b0 := bq_ c39; have c39b1 := bq0_ c39; clear c39; obtain rfl := Option.some.inj H; go_wp2; go_ret; exact ⟨q3_, q0_⟩
    ·rw [if_neg c39] at H; have c39b0 := bn_ c39; have c39b1 := bn1_ c39; obtain rfl := Option.some.inj H; go_wp2; go_ret; exact ⟨q3_, q0_⟩
def zeu.f (a0 : Int) : Option (Int × Int) := if a0 ≤ 6 then (some (2, 2)) else (if a0 ≤ 12 then (some (0, 1)) else (if a0 = 16 then (some (0, 1)) else (some (1, 1))))
theorem zeu.calls (a0 : Int) (r1 : Int) (r2 : Int) (w : World) (h : zeu.f a0 = some (r1, r2)) :
  Calls Tryd.prog 80 #[.int .i64 a0] w fun e w' => e = .returned (.tuple #[.int .i64 r1, .int .i64 r2]) ∧ zeo w w' := by
 have H : (if a0 ≤ 6 then (some (2, 2)) else (if a0 ≤ 12 then (some (0, 1)) else (if a0 = 16 then (some (0, 1)) else (some (1, 1))))) = some (r1, r2) := h; clear h
 by_cases c2 : a0 ≤ 6
 ·rw [if_pos c2] at H; have c2b0 := decide_eq_true c2; clear c2; simp only [Option.some.injEq, Prod.mk.injEq] at H; obtain ⟨rfl, rfl⟩ := H; go_enter Tryd.func80, Tryd.ntmps80; go_wp2; go_ret2; exact ⟨q6_, q18_⟩
 ·rw [if_neg c2] at H; have c2b0 := decide_eq_false c2; clear c2
  by_cases c3 : a0 ≤ 12
  ·rw [if_pos c3] at H; have c3b0 := decide_eq_true c3; clear c3; simp only [Option.some.injEq, Prod.mk.injEq] at H; obtain ⟨rfl, rfl⟩ := H; go_enter Tryd.func80, Tryd.ntmps80; go_wp2; go_ret2; exact ⟨q6_, q18_⟩
  ·rw [if_neg c3] at H; have c3b0 := decide_eq_false c3; clear c3
   by_cases c4 : a0 = 16
   ·rw [if_pos c4] at H; have c4b0 := bq_ c4; have c4b1 := bq0_ c4; clear c4; simp only [Option.some.injEq, Prod.mk.injEq] at H; obtain ⟨rfl, rfl⟩ := H; go_enter Tryd.func80, Tryd.ntmps80; go_wp2; go_ret2; exact ⟨q6_, q18_⟩
   ·rw [if_neg c4] at H; have c4b0 := bn_ c4; have c4b1 := bn1_ c4; simp only [Option.some.injEq, Prod.mk.injEq] at H; obtain ⟨rfl, rfl⟩ := H; go_enter Tryd.func80, Tryd.ntmps80; go_wp2; go_ret2; exact ⟨q6_, q18_⟩
def zgl.f (a0 : Int) (a1 : Int) (a2 : Int) : Option (Bool) := (zeu.f a0).bind fun bt226 => (if a0 = 16 then (some true) else (if bt226.1 = 0 then (if a1 = a2 then (some true) else (if a1 = 0 then (some true) else (some (a2 == 0)))) else (if a1 = bt226.1 then (if a2 = bt226.1 then (some true) else (some (a2 == 0))) else (if a1 = 0 then (if a2 = bt226.1 then (some true) else (some (a2 == 0))) else (some false)))))
theorem zgl.calls (a0 : Int) (a1 : Int) (a2 : Int) (r : Bool) (w : World) (h : zgl.f a0 a1 a2 = some r) :
  Calls Tryd.prog 56 #[.int .i64 a0, .int .i64 a1, .int .i64 a2] w fun e w' => e = .returned (.bool r) ∧ zeo w w' := by
 have H := h; unfold zgl.f at H; clear h; obtain ⟨⟨t226, t227⟩, A4, H⟩ := bi_ H; try dsimp only at H
 by_cases c5 : a0 = 16
 ·rw [if_pos c5] at H; have c5b0 := bq_ c5; have c5b1 := bq0_ c5; clear c5; obtain rfl := Option.some.inj H; go_enter Tryd.func56, Tryd.ntmps56; go_wp2_with (first | ((with_reducible refine gc_ 80 rfl ?_); refine gl_ 11 Tryd.func80 #[.int .i64 a0] ?_; (with_reducible refine (zeu.calls a0 t226 t227 _ A4.out).mono ?_); rintro e w' ⟨rfl, ⟨nd, rfl⟩⟩; refine ⟨_, rfl, ?_⟩)); go_ret; exact ⟨q6_, q18_⟩
 ·rw [if_neg c5] at H; have c5b0 := bn_ c5; have c5b1 := bn1_ c5
  by_cases c6 : t226 = 0
  ·rw [if_pos c6] at H; have c6b0 := bq_ c6; have c6b1 := bq0_ c6; clear c6
   by_cases c7 : a1 = a2
   ·rw [if_pos c7] at H; have c7b0 := bq_ c7; have c7b1 := bq0_ c7; clear c7; obtain rfl := Option.some.inj H; go_enter Tryd.func56, Tryd.ntmps56; go_wp2_with (first | ((with_reducible refine gc_ 80 rfl ?_); refine gl_ 11 Tryd.func80 #[.int .i64 a0] ?_; (with_reducible refine (zeu.calls a0 t226 t227 _ A4.out).mono ?_); rintro e w' ⟨rfl, ⟨nd, rfl⟩⟩; refine ⟨_, rfl, ?_⟩)); go_ret; exact ⟨q6_, q18_⟩
   ·rw [if_neg c7] at H; have c7b0 := bn_ c7; have c7b1 := bn1_ c7
    by_cases c8 : a1 = 0
    ·rw [if_pos c8] at H; have c8b0 := bq_ c8; have c8b1 := bq0_ c8; clear c8; obtain rfl := Option.some.inj H; go_enter Tryd.func56, Tryd.ntmps56; go_wp2_with (first | ((with_reducible refine gc_ 80 rfl ?_); refine gl_ 11 Tryd.func80 #[.int .i64 a0] ?_; (with_reducible refine (zeu.calls a0 t226 t227 _ A4.out).mono ?_); rintro e w' ⟨rfl, ⟨nd, rfl⟩⟩; refine ⟨_, rfl, ?_⟩)); go_ret; exact ⟨q6_, q18_⟩
    ·rw [if_neg c8] at H; have c8b0 := bn_ c8; have c8b1 := bn1_ c8; obtain rfl := Option.some.inj H; go_enter Tryd.func56, Tryd.ntmps56; go_wp2_with (first | ((with_reducible refine gc_ 80 rfl ?_); refine gl_ 11 Tryd.func80 #[.int .i64 a0] ?_; (with_reducible refine (zeu.calls a0 t226 t227 _ A4.out).mono ?_); rintro e w' ⟨rfl, ⟨nd, rfl⟩⟩; refine ⟨_, rfl, ?_⟩)); go_ret; exact ⟨q6_, q18_⟩
  ·rw [if_neg c6] at H; have c6b0 := bn_ c6; have c6b1 := bn1_ c6
   by_cases c9 : a1 = t226
   ·rw [if_pos c9] at H; have c9b0 := bq_ c9; have c9b1 := bq0_ c9; clear c9
    by_cases c10 : a2 = t226
    ·rw [if_pos c10] at H; have c10b0 := bq_ c10; have c10b1 := bq0_ c10; clear c10; obtain rfl := Option.some.inj H; go_enter Tryd.func56, Tryd.ntmps56; go_wp2_with (first | ((with_reducible refine gc_ 80 rfl ?_); refine gl_ 11 Tryd.func80 #[.int .i64 a0] ?_; (with_reducible refine (zeu.calls a0 t226 t227 _ A4.out).mono ?_); rintro e w' ⟨rfl, ⟨nd, rfl⟩⟩; refine ⟨_, rfl, ?_⟩)); go_ret; exact ⟨q6_, q18_⟩
    ·rw [if_neg c10] at H; have c10b0 := bn_ c10; have c10b1 := bn1_ c10; obtain rfl := Option.some.inj H; go_enter Tryd.func56, Tryd.ntmps56; go_wp2_with (first | ((with_reducible refine gc_ 80 rfl ?_); refine gl_ 11 Tryd.func80 #[.int .i64 a0] ?_; (with_reducible refine (zeu.calls a0 t226 t227 _ A4.out).mono ?_); rintro e w' ⟨rfl, ⟨nd, rfl⟩⟩; refine ⟨_, rfl, ?_⟩)); go_ret; exact ⟨q6_, q18_⟩
   ·rw [if_neg c9] at H; have c9b0 := bn_ c9; have c9b1 := bn1_ c9
    by_cases c11 : a1 = 0
    ·rw [if_pos c11] at H; have c11b0 := bq_ c11; have c11b1 := bq0_ c11; clear c11
     by_cases c12 : a2 = t226
     ·rw [if_pos c12] at H; have c12b0 := bq_ c12; have c12b1 := bq0_ c12; clear c12; obtain rfl := Option.some.inj H; go_enter Tryd.func56, Tryd.ntmps56; go_wp2_with (first | ((with_reducible refine gc_ 80 rfl ?_); refine gl_ 11 Tryd.func80 #[.int .i64 a0] ?_; (with_reducible refine (zeu.calls a0 t226 t227 _ A4.out).mono ?_); rintro e w' ⟨rfl, ⟨nd, rfl⟩⟩; refine ⟨_, rfl, ?_⟩)); go_ret; exact ⟨q6_, q18_⟩
     ·rw [if_neg c12] at H; have c12b0 := bn_ c12; have c12b1 := bn1_ c12; obtain rfl := Option.some.inj H; go_enter Tryd.func56, Tryd.ntmps56; go_wp2_with (first | ((with_reducible refine gc_ 80 rfl ?_); refine gl_ 11 Tryd.func80 #[.int .i64 a0] ?_; (with_reducible refine (zeu.calls a0 t226 t227 _ A4.out).mono ?_); rintro e w' ⟨rfl, ⟨nd, rfl⟩⟩; refine ⟨_, rfl, ?_⟩)); go_ret; exact ⟨q6_, q18_⟩
    ·rw [if_neg c11] at H; have c11b0 := bn_ c11; have c11b1 := bn1_ c11; obtain rfl := Option.some.inj H; go_enter Tryd.func56, Tryd.ntmps56; go_wp2_with (first | ((with_reducible refine gc_ 80 rfl ?_); refine gl_ 11 Tryd.func80 #[.int .i64 a0] ?_; (with_reducible refine (zeu.calls a0 t226 t227 _ A4.out).mono ?_); rintro e w' ⟨rfl, ⟨nd, rfl⟩⟩; refine ⟨_, rfl, ?_⟩)); go_ret; exact ⟨q6_, q18_⟩
def zdr.f (a0 : Bool) : Option (Int × Int × ByteArray) := if a0 = true then (some (1, 1, (⟨#[]⟩ : ByteArray))) else (some (1, 0, (⟨#[]⟩ : ByteArray)))
theorem zdr.calls (a0 : Bool) (r1 : Int) (r2 : Int) (r3 : ByteArray) (w : World) (h : zdr.f a0 = some (r1, r2, r3)) :
  Calls Tryd.prog 51 #[.bool a0] w fun e w' => e = .returned (.agg #[.int .i64 r1, .int .i64 r2, .string r3]) ∧ Below w.heap.size w w' := by
 have hu48 := Tryd.underlying48; have HB := ak_ (Below.refl w.heap.size w); have H : (if a0 = true then (some (1, 1, (⟨#[]⟩ : ByteArray))) else (some (1, 0, (⟨#[]⟩ : ByteArray)))) = some (r1, r2, r3) := h; clear h
 by_cases c2 : a0 = true
 ·subst c2; replace H := ifT_ H; simp only [Option.some.injEq, Prod.mk.injEq] at H; obtain ⟨rfl, rfl, rfl⟩ := H; go_enter Tryd.func51, Tryd.ntmps51; go_wp2_with (first | ((with_reducible refine gd_ 2 rfl ?_); refine by_ #[.int .i64 0, .int .i64 0, .string (⟨#[]⟩ : ByteArray)] 48 ?_; intro gb228 hg w3 BK228 hb; have GE228 := gw_ hg; replace HB := bs_ hb; clear hb hg; have hz4 := bc3_ (w := w3) BK228.out)); refine bodyPost_ret (results_cell_row rfl _ _ gb228 48 #[.int .i64 1, .int .i64 1, .string (⟨#[]⟩ : ByteArray)] (0, 0) _ rfl (bp_ (bp_ (bp_ BK228.out))) Tryd.underlying48 rfl (by kernel_rfl)) rfl ?_; exact ⟨q3_, q0_⟩
 ·replace c2 := Bool.eq_false_iff.mpr c2; subst c2; replace H := ifF_ H; simp only [Option.some.injEq, Prod.mk.injEq] at H; obtain ⟨rfl, rfl, rfl⟩ := H; go_enter Tryd.func51, Tryd.ntmps51; go_wp2_with (first | ((with_reducible refine gd_ 2 rfl ?_); refine by_ #[.int .i64 0, .int .i64 0, .string (⟨#[]⟩ : ByteArray)] 48 ?_; intro gb228 hg w5 BK228 hb; have GE228 := gw_ hg; replace HB := bs_ hb; clear hb hg; have hz6 := bc3_ (w := w5) BK228.out)); refine bodyPost_ret (results_cell_row rfl _ _ gb228 48 #[.int .i64 1, .int .i64 0, .string (⟨#[]⟩ : ByteArray)] (0, 0) _ rfl (bp_ (bp_ (bp_ BK228.out))) Tryd.underlying48 rfl (by kernel_rfl)) rfl ?_; exact ⟨q3_, q0_⟩
mutual
def zbs.j0 : Nat → Bool → Int → Int → ByteArray → Int → Int → ByteArray → Option (Bool × Int)
 | 0, _, _, _, _, _, _, _ => none
 | k + 1, x6, x230000, x230001, x230002, x231000, x231001, x231002 => if x6 = true then (some (true, 1)) else (if x230000 = 0 then (zbs.j1 k true x230000 x230001 x230002 x231000 x231001 x231002) else (zbs.j1 k (x231000 == 0) x230000 x230001 x230002 x231000 x231001 x231002))
def zbs.j1 : Nat → Bool → Int → Int → ByteArray → Int → Int → ByteArray → Option (Bool × Int)
 | 0, _, _, _, _, _, _, _ => none
 | k + 1, x15, x230000, x230001, x230002, x231000, x231001, x231002 => if x15 = true then (some (true, 0)) else (if x230000 = 2 then (if x231000 = 2 then (some (false, 0)) else (some (true, 10))) else (some (true, 10)))
end
def zbs.f (k : Nat) (a0_0 : Int) (a0_1 : Int) (a0_2 : ByteArray) (a1_0 : Int) (a1_1 : Int) (a1_2 : ByteArray) : Option (Bool × Int) := (zcu.f a0_0 a0_1 a0_2).bind fun t231 => (if t231 = true then ((zcu.f a1_0 a1_1 a1_2).bind fun t232 => (zbs.j0 k (!t232) a0_0 a0_1 a0_2 a1_0 a1_1 a1_2)) else (zbs.j0 k true a0_0 a0_1 a0_2 a1_0 a1_1 a1_2))
theorem zbs.zci : ∀ k, (∀ y0 y1 y2 y3 y4 y5 y6, LeO (zbs.j0 k y0 y1 y2 y3 y4 y5 y6) (zbs.j0 (k + 1) y0 y1 y2 y3 y4 y5 y6)) ∧ (∀ y0 y1 y2 y3 y4 y5 y6, LeO (zbs.j1 k y0 y1 y2 y3 y4 y5 y6) (zbs.j1 (k + 1) y0 y1 y2 y3 y4 y5 y6))
 | 0 => ⟨fun _ _ _ _ _ _ _ r h => by simp [zbs.j0] at h, fun _ _ _ _ _ _ _ r h => by simp [zbs.j1] at h⟩
 | k + 1 => by
  obtain ⟨ih0, ih1⟩ := zbs.zci k
  refine ⟨?_, ?_⟩
  all_goals intros
  all_goals first
   | unfold zbs.j0
   | unfold zbs.j1
  all_goals with_reducible repeat' first
   | apply ih0
   | apply ih1
   | apply LeO.refl
   | apply LeO.none
   | refine LeO.ite ?_ ?_
   | refine LeO.bind ?_ (fun _ => ?_)
theorem zbs.mono : ∀ a0 a1 a2 a3 a4 a5 k, LeO (zbs.f k a0 a1 a2 a3 a4 a5) (zbs.f (k + 1) a0 a1 a2 a3 a4 a5) := by
 intro a0 a1 a2 a3 a4 a5 k
 obtain ⟨ih0, ih1⟩ := zbs.zci k
 unfold zbs.f
 with_reducible repeat' first
   | apply ih0
   | apply ih1
   | apply LeO.refl
   | apply LeO.none
   | refine LeO.ite ?_ ?_
   | refine LeO.bind ?_ (fun _ => ?_)
theorem zbs.calls (k : Nat) (a0_0 : Int) (a0_1 : Int) (a0_2 : ByteArray) (a1_0 : Int) (a1_1 : Int) (a1_2 : ByteArray) (r1 : Bool) (r2 : Int) (w : World) (h : zbs.f k a0_0 a0_1 a0_2 a1_0 a1_1 a1_2 = some (r1, r2)) (hG : Glob w) :
  Calls Tryd.prog 98 #[.agg #[.int .i64 a0_0, .int .i64 a0_1, .string a0_2], .agg #[.int .i64 a1_0, .int .i64 a1_1, .string a1_2]] w fun e w' => e = .returned (.tuple #[.bool r1, .int .i64 r2]) ∧ Below w.heap.size w w' := by
 have hu48 := Tryd.underlying48; have HG := ak_ hG; clear hG; have HB := ak_ (Below.refl w.heap.size w); have H := h; unfold zbs.f at H; clear h; have HC3 := ak_ H; clear H; go_enter Tryd.func98, Tryd.ntmps98; go_upto_region 1 with (first | ((with_reducible refine gd_ 2 rfl ?_); refine by_ #[.int .i64 a0_0, .int .i64 a0_1, .string a0_2] 48 ?_; intro gb229 hg w4 BK229 hb; have GE229 := gw_ hg; replace HB := bs_ hb; clear hb hg) | ((with_reducible refine gd_ 3 rfl ?_); refine by_ #[.int .i64 a1_0, .int .i64 a1_1, .string a1_2] 48 ?_; intro gb230 hg w5 BK230 hb; have GE230 := gw_ hg; have NB229_230 := nl_ hg q101_; have NB230_229 := ne_ NB229_230; replace BK229 := bb_ q101_ hb; replace HB := bs_ hb; clear hb hg))
 (try simp only [Act.put, List.setIfInBounds_toArray, List.set_cons_zero, List.set_cons_succ]); go_cut [6] (fun v6 wc => ∃ (kq : Nat) (x6_2 : Bool), v6 = .bool x6_2 ∧ zag (zbs.j0 kq x6_2 a0_0 a0_1 a0_2 a1_0 a1_1 a1_2 = some (r1, r2)) ∧ zag (kq ≤ k) ∧ zag (wc.heap[gb229]? = some (.cells #[.int .i64 a0_0, .int .i64 a0_1, .string a0_2] 48 (0, 0))) ∧ zag (wc.heap[gb230]? = some (.cells #[.int .i64 a1_0, .int .i64 a1_1, .string a1_2] 48 (0, 0))) ∧ zag (Below w.heap.size w wc))
 case first =>
  have H := HC3.out; clear HC3; obtain ⟨t231, A6, H⟩ := bi_ H; try dsimp only at H
  have hn9 := np_ NB229_230; have hz10 := bc3_ (w := w5) BK229.out
  by_cases c7 : t231 = true
  ·subst c7; replace H := ifT_ H; obtain ⟨t232, A8, H⟩ := bi_ H; replace H : (zbs.j0 k (!t232) a0_0 a0_1 a0_2 a1_0 a1_1 a1_2) = some (r1, r2) := H; have H' := ak_ H; clear H; go_wp2_with (first | ((with_reducible refine gc_ 53 rfl ?_); refine gl_ 8 Tryd.func53 #[.agg #[.int .i64 a0_0, .int .i64 a0_1, .string a0_2]] ?_; (with_reducible refine ca_ (zcu.calls a0_0 a0_1 a0_2 true _ A6.out q110_) ?_); intro w11 hb; replace BK229 := bb_ q101_ hb; replace BK230 := bb_ q136_ hb; replace HB := bs_ hb; clear hb; have hz12 := bc3_ (w := w11) BK230.out) | (go_at_call 53; (with_reducible refine (zcu.calls a1_0 a1_1 a1_2 t232 _ A8.out q110_).mono ?_); rintro e w13 ⟨rfl, hb⟩; replace BK229 := bb_ q101_ hb; replace BK230 := bb_ q136_ hb; replace HB := bs_ hb; clear hb)); go_meet
   case rel => exact ⟨_, (!t232), q6_, H', ⟨by first | omega | exact Nat.le_refl _⟩, ⟨q101_⟩, ⟨q136_⟩, ⟨q0_⟩⟩
  ·replace c7 := Bool.eq_false_iff.mpr c7; subst c7; replace H := ifF_ H; have H' := ak_ H; clear H; go_wp2_with (first | ((with_reducible refine gc_ 53 rfl ?_); refine gl_ 8 Tryd.func53 #[.agg #[.int .i64 a0_0, .int .i64 a0_1, .string a0_2]] ?_; (with_reducible refine ca_ (zcu.calls a0_0 a0_1 a0_2 false _ A6.out q110_) ?_); intro w16 hb; replace BK229 := bb_ q101_ hb; replace BK230 := bb_ q136_ hb; replace HB := bs_ hb; clear hb)); go_meet
   case rel => exact ⟨_, (true), q6_, H', ⟨by first | omega | exact Nat.le_refl _⟩, ⟨q101_⟩, ⟨q136_⟩, ⟨q0_⟩⟩
 case rest =>
  clear HC3; obtain ⟨kq, x6_2, rfl, HA, HJ2, BK229, BK230, HB⟩ := hcut
  cases kq with
  | zero => exact absurd HA.out (by simp [zbs.j0])
  | succ kj2 =>
   have H := HA.out; clear HA; simp only [zbs.j0] at H
   by_cases c17 : x6_2 = true
   ·subst c17; replace H := ifT_ H; simp only [Option.some.injEq, Prod.mk.injEq] at H; obtain ⟨rfl, rfl⟩ := H; go_wp2; go_ret2; exact ⟨q3_, q0_⟩
   ·replace c17 := Bool.eq_false_iff.mpr c17; subst c17; replace H := ifF_ H; have HC18 := ak_ H; clear H; go_upto_region 3 with (fail)
    go_cut [15] (fun v15 wc => ∃ (kq : Nat) (x15_17 : Bool), v15 = .bool x15_17 ∧ zag (zbs.j1 kq x15_17 a0_0 a0_1 a0_2 a1_0 a1_1 a1_2 = some (r1, r2)) ∧ zag (kq ≤ kj2) ∧ zag (wc.heap[gb229]? = some (.cells #[.int .i64 a0_0, .int .i64 a0_1, .string a0_2] 48 (0, 0))) ∧ zag (wc.heap[gb230]? = some (.cells #[.int .i64 a1_0, .int .i64 a1_1, .string a1_2] 48 (0, 0))) ∧ zag (Below w.heap.size w wc))
    case first =>
     have H := HC18.out; clear HC18; have hn20 := np_ NB229_230; have hz21 := bc3_ (w := wc) BK229.out
     by_cases c19 : a0_0 = 0
     ·rw [if_pos c19] at H; have c19b0 := bq_ c19; have c19b1 := bq0_ c19; clear c19; (first | rw [c19b0] | (simp only [zef, zen]; rw [c19b0]) | skip); have H' := ak_ H; clear H; go_wp2; go_meet
      case rel => exact ⟨_, (true), q6_, H', ⟨by have := HJ2.out; first | omega | exact Nat.le_refl _⟩, ⟨q101_⟩, ⟨q136_⟩, ⟨q0_⟩⟩
     ·rw [if_neg c19] at H; have c19b0 := bn_ c19; have c19b1 := bn1_ c19; (first | rw [c19b0] | (simp only [zef, zen]; rw [c19b0]) | skip); have H' := ak_ H; clear H; have hz24 := bc3_ (w := wc) BK230.out; go_wp2; go_meet
      case rel => exact ⟨_, ((a1_0 == 0)), q6_, H', ⟨by have := HJ2.out; first | omega | exact Nat.le_refl _⟩, ⟨q101_⟩, ⟨q136_⟩, ⟨q0_⟩⟩
    case rest =>
     clear HC18; (try clear c17); obtain ⟨kq, x15_17, rfl, HA, HJ17, BK229, BK230, HB⟩ := hcut
     cases kq with
     | zero => exact absurd HA.out (by simp [zbs.j1])
     | succ kj17 =>
      have H := HA.out; clear HA; simp only [zbs.j1] at H
      by_cases c25 : x15_17 = true
      ·subst c25; replace H := ifT_ H; simp only [Option.some.injEq, Prod.mk.injEq] at H; obtain ⟨rfl, rfl⟩ := H; go_wp2; go_ret2; exact ⟨q3_, q0_⟩
      ·replace c25 := Bool.eq_false_iff.mpr c25; subst c25; replace H := ifF_ H; have hn28 := np_ NB229_230; have hz29 := bc3_ (w := wc) BK229.out
       by_cases c26 : a0_0 = 2
       ·rw [if_pos c26] at H; have c26b0 := bq_ c26; have c26b1 := bq0_ c26; clear c26; have hz30 := bc3_ (w := wc) BK230.out
        by_cases c27 : a1_0 = 2
        ·rw [if_pos c27] at H; have c27b0 := bq_ c27; have c27b1 := bq0_ c27; clear c27; simp only [Option.some.injEq, Prod.mk.injEq] at H; obtain ⟨rfl, rfl⟩ := H; go_wp2; go_ret2; exact ⟨q3_, q0_⟩
        ·rw [if_neg c27] at H; have c27b0 := bn_ c27; have c27b1 := bn1_ c27; simp only [Option.some.injEq, Prod.mk.injEq] at H; obtain ⟨rfl, rfl⟩ := H; go_wp2; go_ret2; exact ⟨q3_, q0_⟩
       ·rw [if_neg c26] at H; have c26b0 := bn_ c26; have c26b1 := bn1_ c26; simp only [Option.some.injEq, Prod.mk.injEq] at H; obtain ⟨rfl, rfl⟩ := H; go_wp2; go_ret2; exact ⟨q3_, q0_⟩
def zei.f (a0 : Int) (a1 : Bool) : Option (Int × Int × ByteArray × Int) := if a1 = true then (some (0, 0, (⟨#[]⟩ : ByteArray), 14)) else (some (2, a0, (⟨#[]⟩ : ByteArray), 0))
theorem zei.calls (a0 : Int) (a1 : Bool) (r1 : Int) (r2 : Int) (r3 : ByteArray) (r4 : Int) (w : World) (h : zei.f a0 a1 = some (r1, r2, r3, r4)) :
  Calls Tryd.prog 99 #[.int .i64 a0, .bool a1] w fun e w' => e = .returned (.tuple #[.agg #[.int .i64 r1, .int .i64 r2, .string r3], .int .i64 r4]) ∧ Below w.heap.size w w' := by
 have hu48 := Tryd.underlying48; have HB := ak_ (Below.refl w.heap.size w); have H : (if a1 = true then (some (0, 0, (⟨#[]⟩ : ByteArray), 14)) else (some (2, a0, (⟨#[]⟩ : ByteArray), 0))) = some (r1, r2, r3, r4) := h; clear h; go_enter Tryd.func99, Tryd.ntmps99
 by_cases c3 : a1 = true
 ·subst c3; replace H := ifT_ H; simp only [Option.some.injEq, Prod.mk.injEq] at H; obtain ⟨rfl, rfl, rfl, rfl⟩ := H; go_wp2_with (first | ((with_reducible refine gd_ 4 rfl ?_); refine by_ #[.int .i64 0, .int .i64 0, .string (⟨#[]⟩ : ByteArray)] 48 ?_; intro gb233 hg w4 BK233 hb; have GE233 := gw_ hg; replace HB := bs_ hb; clear hb hg; have hz5 := bc3_ (w := w4) BK233.out)); refine bodyPost_ret (zcs rfl _ _ gb233 48 #[.int .i64 0, .int .i64 0, .string (⟨#[]⟩ : ByteArray)] (0, 0) _ rfl (bp_ (bp_ (bp_ BK233.out))) Tryd.underlying48 rfl (by kernel_rfl)) rfl ?_; exact ⟨q3_, q0_⟩
 ·replace c3 := Bool.eq_false_iff.mpr c3; subst c3; replace H := ifF_ H; simp only [Option.some.injEq, Prod.mk.injEq] at H; obtain ⟨rfl, rfl, rfl, rfl⟩ := H; go_wp2_with (first | ((with_reducible refine gd_ 4 rfl ?_); refine by_ #[.int .i64 0, .int .i64 0, .string (⟨#[]⟩ : ByteArray)] 48 ?_; intro gb233 hg w6 BK233 hb; have GE233 := gw_ hg; replace HB := bs_ hb; clear hb hg; have hz7 := bc3_ (w := w6) BK233.out)); refine bodyPost_ret (zcs rfl _ _ gb233 48 #[.int .i64 2, .int .i64 a0, .string (⟨#[]⟩ : ByteArray)] (0, 0) _ rfl (bp_ (bp_ (bp_ BK233.out))) Tryd.underlying48 rfl (by kernel_rfl)) rfl ?_; exact ⟨q3_, q0_⟩

end Go.Proofs.YtnggdcdiachkpaaDoor.P
