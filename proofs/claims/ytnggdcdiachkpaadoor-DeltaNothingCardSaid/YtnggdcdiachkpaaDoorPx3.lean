-- HALVED
import Derived.Test.YtnggdcdiachkpaaDoorPx0
import Derived.Test.YtnggdcdiachkpaaDoorPx1
namespace Go.Proofs.YtnggdcdiachkpaaDoor.P
open Go.RowKit Go.Proofs.YtnggdcdiachkpaaDoorW.PrintWords Go.Proofs.YtnggdcdiachkpaaDoorW.PrintLast Go.Proofs.YtnggdcdiachkpaaDoorW.PrintMore
attribute [local go_sem] zdl zeh zee zed zdc zdb zdn zdk   -- for this text's walks alone
set_option linter.unusedVariables false
set_option linter.unusedSimpArgs false
set_option maxHeartbeats 8000000
set_option maxRecDepth 100000
mutual
def zac.j0 : Nat → List (List (S54)) → Bool → ByteArray → ByteArray → List Int → List (S50) → List (List (S50)) → List Int → List (S150) → Option (Bool)
 | 0, _, _, _, _, _, _, _, _, _ => none
 | k + 1, x2, x34, x103000, x103001, x103002, x103003, x103004, x103005, x103006 => if x34 = true then (some false) else (zac.l0 k x2 (x103002.length : Int) 0 x103000 x103001 x103002 x103003 x103004 x103005 x103006)
def zac.l0 : Nat → List (List (S54)) → Int → Int → ByteArray → ByteArray → List Int → List (S50) → List (List (S50)) → List Int → List (S150) → Option (Bool)
 | 0, _, _, _, _, _, _, _, _, _, _ => none
 | k + 1, x2, x37, x38, x103000, x103001, x103002, x103003, x103004, x103005, x103006 => if x38 < x37 then (if 0 ≤ x38 then (if x38 < (x103002.length : Int) then (if (rd x103002 x38) < (-1000) then (some false) else (if (rd x103002 x38) > 1000 then (some false) else (zac.l0 k x2 x37 (wrap64 (x38 + 1)) x103000 x103001 x103002 x103003 x103004 x103005 x103006))) else (none)) else (none)) else (zac.l1 k x2 (x103004.length : Int) 0 x103000 x103001 x103002 x103003 x103004 x103005 x103006)
def zac.l1 : Nat → List (List (S54)) → Int → Int → ByteArray → ByteArray → List Int → List (S50) → List (List (S50)) → List Int → List (S150) → Option (Bool)
 | 0, _, _, _, _, _, _, _, _, _, _ => none
 | k + 1, x2, x58, x59, x103000, x103001, x103002, x103003, x103004, x103005, x103006 => if x59 < x58 then (if 0 ≤ x59 then (if x59 < (x103004.length : Int) then (if ((zje x103004 x59).length : Int) > 60 then (some false) else (zac.l1 k x2 x58 (wrap64 (x59 + 1)) x103000 x103001 x103002 x103003 x103004 x103005 x103006)) else (none)) else (none)) else (zac.l2 k x2 (x2.length : Int) 0)
def zac.l2 : Nat → List (List (S54)) → Int → Int → Option (Bool)
 | 0, _, _, _ => none
 | k + 1, x70, x71, x72 => if x72 < x71 then (if 0 ≤ x72 then (if x72 < (x70.length : Int) then (if ((zie x70 x72).length : Int) > 30 then (some false) else ((zbc.f k (zie x70 x72)).bind fun t107 => (if t107 = true then (zac.l2 k x70 x71 (wrap64 (x72 + 1))) else (some false)))) else (none)) else (none)) else (some true)
end
def zac.f (k : Nat) (a0_0 : ByteArray) (a0_1 : ByteArray) (l0_2 : List Int) (l0_3 : List (S50)) (l0_4 : List (List (S50))) (l0_5 : List Int) (l0_6 : List (S150)) (a1 : Int) (l2 : List (List (S54))) : Option (Bool) := if a1 < 0 then (zac.j0 k l2 true a0_0 a0_1 l0_2 l0_3 l0_4 l0_5 l0_6) else (if a1 > 100 then (zac.j0 k l2 true a0_0 a0_1 l0_2 l0_3 l0_4 l0_5 l0_6) else (if (l0_4.length : Int) > 20 then (zac.j0 k l2 true a0_0 a0_1 l0_2 l0_3 l0_4 l0_5 l0_6) else (if (l0_3.length : Int) > 60 then (zac.j0 k l2 true a0_0 a0_1 l0_2 l0_3 l0_4 l0_5 l0_6) else (zac.j0 k l2 (decide ((l0_2.length : Int) > 5)) a0_0 a0_1 l0_2 l0_3 l0_4 l0_5 l0_6))))
theorem zac.zci : ∀ k, (∀ y0 y1 y2 y3 y4 y5 y6 y7 y8, LeO (zac.j0 k y0 y1 y2 y3 y4 y5 y6 y7 y8) (zac.j0 (k + 1) y0 y1 y2 y3 y4 y5 y6 y7 y8)) ∧ (∀ y0 y1 y2 y3 y4 y5 y6 y7 y8 y9, LeO (zac.l0 k y0 y1 y2 y3 y4 y5 y6 y7 y8 y9) (zac.l0 (k + 1) y0 y1 y2 y3 y4 y5 y6 y7 y8 y9)) ∧ (∀ y0 y1 y2 y3 y4 y5 y6 y7 y8 y9, LeO (zac.l1 k y0 y1 y2 y3 y4 y5 y6 y7 y8 y9) (zac.l1 (k + 1) y0 y1 y2 y3 y4 y5 y6 y7 y8 y9)) ∧ (∀ y0 y1 y2, LeO (zac.l2 k y0 y1 y2) (zac.l2 (k + 1) y0 y1 y2))
 | 0 => ⟨fun _ _ _ _ _ _ _ _ _ r h => by simp [zac.j0] at h, fun _ _ _ _ _ _ _ _ _ _ r h => by simp [zac.l0] at h, fun _ _ _ _ _ _ _ _ _ _ r h => by simp [zac.l1] at h, fun _ _ _ r h => by simp [zac.l2] at h⟩
 | k + 1 => by
  obtain ⟨ih0, ih1, ih2, ih3⟩ := zac.zci k
  refine ⟨?_, ?_, ?_, ?_⟩
  all_goals intros
  all_goals first
   | unfold zac.j0
   | unfold zac.l0
   | unfold zac.l1
   | unfold zac.l2
  all_goals with_reducible repeat' first
   | apply ih0
   | apply ih1
   | apply ih2
   | apply ih3
   | apply zbc.mono
   | apply LeO.refl
   | apply LeO.none
   | refine LeO.ite ?_ ?_
   | refine LeO.bind ?_ (fun _ => ?_)
theorem zac.mono : ∀ a0 a1 a2 a3 a4 a5 a6 a7 a8 k, LeO (zac.f k a0 a1 a2 a3 a4 a5 a6 a7 a8) (zac.f (k + 1) a0 a1 a2 a3 a4 a5 a6 a7 a8) := by
 intro a0 a1 a2 a3 a4 a5 a6 a7 a8 k
 obtain ⟨ih0, ih1, ih2, ih3⟩ := zac.zci k
 unfold zac.f
 with_reducible repeat' first
   | apply ih0
   | apply ih1
   | apply ih2
   | apply ih3
   | apply zbc.mono
   | apply LeO.refl
   | apply LeO.none
   | refine LeO.ite ?_ ?_
   | refine LeO.bind ?_ (fun _ => ?_)
theorem zac.calls (k : Nat) (a0_0 : ByteArray) (a0_1 : ByteArray) (A0_2 : Option Addr) (c0_2 : Nat) (l0_2 : List Int) (A0_3 : Option Addr) (c0_3 : Nat) (l0_3 : List (S50)) (A0_4 : Option Addr) (c0_4 : Nat) (l0_4 : List (List (S50))) (A0_5 : Option Addr) (c0_5 : Nat) (l0_5 : List Int) (A0_6 : Option Addr) (c0_6 : Nat) (l0_6 : List (S150)) (a1 : Int) (A2 : Option Addr) (c2 : Nat) (l2 : List (List (S54))) (r : Bool) (w : World) (hr0_2 : Kd.C (Kd.int .i64) w A0_2 l0_2.length l0_2) (hc0_2 : l0_2.length ≤ c0_2) (hr0_3 : Kd.C k50 w A0_3 l0_3.length l0_3) (hc0_3 : l0_3.length ≤ c0_3) (hr0_4 : Kd.C (Kd.slice 50 k50) w A0_4 l0_4.length l0_4) (hc0_4 : l0_4.length ≤ c0_4) (hr0_5 : Kd.C (Kd.int .i64) w A0_5 l0_5.length l0_5) (hc0_5 : l0_5.length ≤ c0_5) (hr0_6 : Kd.C k150 w A0_6 l0_6.length l0_6) (hc0_6 : l0_6.length ≤ c0_6) (hr2 : Kd.C (Kd.slice 54 k54) w A2 l2.length l2) (hc2 : l2.length ≤ c2) (h : zac.f k a0_0 a0_1 l0_2 l0_3 l0_4 l0_5 l0_6 a1 l2 = some r) :
  Calls Tryd.prog 8 #[.agg #[.string a0_0, .string a0_1, .slice A0_2 l0_2.length c0_2, .slice A0_3 l0_3.length c0_3, .slice A0_4 l0_4.length c0_4, .slice A0_5 l0_5.length c0_5, .slice A0_6 l0_6.length c0_6], .int .i64 a1, .slice A2 l2.length c2] w fun e w' => e = .returned (.bool r) ∧ Below w.heap.size w w' := by
 have hu27 := Tryd.underlying27; have HR0_2 := ak_ hr0_2; have HC0_2 := ak_ hc0_2; clear hr0_2 hc0_2; have HR0_3 := ak_ hr0_3; have HC0_3 := ak_ hc0_3; clear hr0_3 hc0_3; have HR0_4 := ak_ hr0_4; have HC0_4 := ak_ hc0_4; clear hr0_4 hc0_4; have HR0_5 := ak_ hr0_5; have HC0_5 := ak_ hc0_5; clear hr0_5 hc0_5; have HR0_6 := ak_ hr0_6; have HC0_6 := ak_ hc0_6; clear hr0_6 hc0_6; have HR2 := ak_ hr2; have HC2 := ak_ hc2; clear hr2 hc2; have HB := ak_ (Below.refl w.heap.size w); have H := h; unfold zac.f at H; clear h; have HC4 := ak_ H; clear H; go_enter Tryd.func8, Tryd.ntmps8; go_upto_region 1 with (first | ((with_reducible refine gd_ 3 rfl ?_); (try (refine zbt (by rfl) ?_; dsimp only)); refine by_ #[.string a0_0, .string a0_1, .slice A0_2 l0_2.length c0_2, .slice A0_3 l0_3.length c0_3, .slice A0_4 l0_4.length c0_4, .slice A0_5 l0_5.length c0_5, .slice A0_6 l0_6.length c0_6] 27 ?_; intro gb102 hg w5 BK102 hb; have GE102 := gw_ hg; replace HB := bs_ hb; clear hb hg))
 (try simp only [Act.put, List.setIfInBounds_toArray, List.set_cons_zero, List.set_cons_succ]); go_cut [34] (fun v34 wc => ∃ (kq : Nat) (x34_3 : Bool), v34 = .bool x34_3 ∧ zag (zac.j0 kq l2 x34_3 a0_0 a0_1 l0_2 l0_3 l0_4 l0_5 l0_6 = some r) ∧ zag (kq ≤ k) ∧ zag (wc.heap[gb102]? = some (.cells #[.string a0_0, .string a0_1, (.slice A0_2 l0_2.length c0_2), (.slice A0_3 l0_3.length c0_3), (.slice A0_4 l0_4.length c0_4), (.slice A0_5 l0_5.length c0_5), (.slice A0_6 l0_6.length c0_6)] 27 (0, 0))) ∧ zag (Below w.heap.size w wc))
 case first =>
  have H := HC4.out; clear HC4
  by_cases c6 : a1 < 0
  ·rw [if_pos c6] at H; have c6b0 := decide_eq_true c6; clear c6; (first | rw [c6b0] | (simp only [zef, zen]; rw [c6b0]) | skip); have H' := ak_ H; clear H; go_wp2; go_meet
   case rel => exact ⟨_, (true), q6_, H', ⟨by first | omega | exact Nat.le_refl _⟩, ⟨q92_⟩, ⟨q0_⟩⟩
  ·rw [if_neg c6] at H; have c6b0 := decide_eq_false c6; clear c6; (first | rw [c6b0] | (simp only [zef, zen]; rw [c6b0]) | skip)
   by_cases c7 : a1 > 100
   ·rw [if_pos c7] at H; have c7b0 : decide (100 < a1) = true := decide_eq_true c7; clear c7; have H' := ak_ H; clear H; go_wp2; go_meet
    case rel => exact ⟨_, (true), q6_, H', ⟨by first | omega | exact Nat.le_refl _⟩, ⟨q92_⟩, ⟨q0_⟩⟩
   ·rw [if_neg c7] at H; have c7b0 : decide (100 < a1) = false := decide_eq_false c7; clear c7; have hcz9_0 : w5.cell? ⟨gb102, 0, none⟩ = some (.string a0_0) := bt_ BK102.out 0; have hcz9_1 : w5.cell? ⟨gb102, 1, none⟩ = some (.string a0_1) := bt_ BK102.out 1; have hcz9_2 : w5.cell? ⟨gb102, 2, none⟩ = some (.slice A0_2 l0_2.length c0_2) := bt_ BK102.out 2; have hcz9_3 : w5.cell? ⟨gb102, 3, none⟩ = some (.slice A0_3 l0_3.length c0_3) := bt_ BK102.out 3; have hcz9_4 : w5.cell? ⟨gb102, 4, none⟩ = some (.slice A0_4 l0_4.length c0_4) := bt_ BK102.out 4; have hcz9_5 : w5.cell? ⟨gb102, 5, none⟩ = some (.slice A0_5 l0_5.length c0_5) := bt_ BK102.out 5; have hcz9_6 : w5.cell? ⟨gb102, 6, none⟩ = some (.slice A0_6 l0_6.length c0_6) := bt_ BK102.out 6; have hfz9_0 := zaq BK102.out 0; have hfz9_1 := zaq BK102.out 1; have hfz9_2 := zaq BK102.out 2; have hfz9_3 := zaq BK102.out 3; have hfz9_4 := zaq BK102.out 4; have hfz9_5 := zaq BK102.out 5
    by_cases c8 : (l0_4.length : Int) > 20
    ·rw [if_pos c8] at H; have c8b0 : decide (20 < (l0_4.length : Int)) = true := decide_eq_true c8; have c8b1 : decide (20 < l0_4.length) = true := decide_eq_true (by omega); clear c8; have H' := ak_ H; clear H; have hfz9_6 := zaq BK102.out 6; go_wp2; go_meet
     case rel => exact ⟨_, (true), q6_, H', ⟨by first | omega | exact Nat.le_refl _⟩, ⟨q92_⟩, ⟨q0_⟩⟩
    ·rw [if_neg c8] at H; have c8b0 : decide (20 < (l0_4.length : Int)) = false := decide_eq_false c8; have c8b1 : decide (20 < l0_4.length) = false := decide_eq_false (by omega); clear c8; have hfz11_6 := zaq BK102.out 6
     by_cases c10 : (l0_3.length : Int) > 60
     ·rw [if_pos c10] at H; have c10b0 : decide (60 < (l0_3.length : Int)) = true := decide_eq_true c10; have c10b1 : decide (60 < l0_3.length) = true := decide_eq_true (by omega); clear c10; have H' := ak_ H; clear H; go_wp2; go_meet
      case rel => exact ⟨_, (true), q6_, H', ⟨by first | omega | exact Nat.le_refl _⟩, ⟨q92_⟩, ⟨q0_⟩⟩
     ·rw [if_neg c10] at H; have c10b0 : decide (60 < (l0_3.length : Int)) = false := decide_eq_false c10; have c10b1 : decide (60 < l0_3.length) = false := decide_eq_false (by omega); clear c10; have H' := ak_ H; clear H; go_wp2; go_meet
      case rel => exact ⟨_, (decide ((l0_2.length : Int) > 5)), q6_, H', ⟨by first | omega | exact Nat.le_refl _⟩, ⟨q92_⟩, ⟨q0_⟩⟩
 case rest =>
  clear HC4; obtain ⟨kq, x34_3, rfl, HA, HJ3, BK102, HB⟩ := hcut
  cases kq with
  | zero => exact absurd HA.out (by simp [zac.j0])
  | succ kj3 =>
   have H := HA.out; clear HA; simp only [zac.j0] at H
   by_cases c13 : x34_3 = true
   ·subst c13; replace H := ifT_ H; obtain rfl := Option.some.inj H; go_wp2; go_ret; exact ⟨q3_, q0_⟩
   ·replace c13 := Bool.eq_false_iff.mpr c13; subst c13; replace H := ifF_ H; have H' := ak_ H; clear H; have hz14 := bc7_ (w := wc) BK102.out; go_wp2; go_loopg [38] kj3 (fun kq v38 w' => ∃ (x38_2 : Int), v38 = .int .i64 x38_2 ∧ zag (zac.l0 kq l2 (l0_2.length : Int) x38_2 a0_0 a0_1 l0_2 l0_3 l0_4 l0_5 l0_6 = some r) ∧ zag (kq ≤ kj3) ∧ zag (w'.heap[gb102]? = some (.cells #[.string a0_0, .string a0_1, (.slice A0_2 l0_2.length c0_2), (.slice A0_3 l0_3.length c0_3), (.slice A0_4 l0_4.length c0_4), (.slice A0_5 l0_5.length c0_5), (.slice A0_6 l0_6.length c0_6)] 27 (0, 0))) ∧ zag (Below w.heap.size w w'))
    case atStart => exact ⟨(0), q6_, H', ⟨Nat.le_refl _⟩, ⟨q92_⟩, ⟨q0_⟩⟩
    case round =>
     clear H'; (try clear c13 hz14); obtain ⟨x38_2, rfl, HA, HK2, BK102, HB⟩ := hrel
     cases gk with
     | zero => exact absurd HA.out (by simp [zac.l0])
     | succ k2 =>
      have H := HA.out; clear HA; simp only [zac.l0] at H; have hz19 := bc7_ (w := wr) BK102.out
      by_cases c15 : x38_2 < (l0_2.length : Int)
      ·rw [if_pos c15] at H; have c15b0 := decide_eq_true c15; clear c15
       by_cases c16 : 0 ≤ x38_2
       ·rw [if_pos c16] at H; have c16b0 := decide_eq_true c16; clear c16
        by_cases c17 : x38_2 < (l0_2.length : Int)
        ·rw [if_pos c17] at H; have c17b0 := decide_eq_true c17; clear c17; have p103 : 0 ≤ (x38_2 : Int) := of_decide_eq_true q5_; have q103 : x38_2 < (l0_2.length : Int) := of_decide_eq_true q5_; obtain ⟨ad103, e103, hx103_0⟩ := Kd.at_int HR0_2.out x38_2 p103 q103; cases e103; replace hx103_0 := hc_ HB.out hx103_0; replace p103 := eq_true p103; replace q103 := eq_true q103
         by_cases c18 : (rd l0_2 x38_2) < (-1000)
         ·rw [if_pos c18] at H; have c18b0 := decide_eq_true c18; clear c18; obtain rfl := Option.some.inj H; go_wp2; go_ret; exact ⟨q3_, q0_⟩
         ·rw [if_neg c18] at H; have c18b0 := decide_eq_false c18; clear c18; have p104 : 0 ≤ (x38_2 : Int) := of_decide_eq_true q5_; have q104 : x38_2 < (l0_2.length : Int) := of_decide_eq_true q5_; obtain ⟨ad104, e104, hx104_0⟩ := Kd.at_int HR0_2.out x38_2 p104 q104; obtain rfl : ad103 = ad104 := (by injection e104); replace hx104_0 := hc_ HB.out hx104_0; replace p104 := eq_true p104; replace q104 := eq_true q104
          by_cases c20 : (rd l0_2 x38_2) > 1000
          ·rw [if_pos c20] at H; have c20b0 : decide (1000 < (rd l0_2 x38_2)) = true := decide_eq_true c20; clear c20; obtain rfl := Option.some.inj H; go_wp2; go_ret; exact ⟨q3_, q0_⟩
          ·rw [if_neg c20] at H; have c20b0 : decide (1000 < (rd l0_2 x38_2)) = false := decide_eq_false c20; clear c20; have H' := ak_ H; clear H; go_wp2; go_roundg k2
           case measure => have := HJ3.out; have := HK2.out; omega
           case rel => exact ⟨(wrap64 (x38_2 + 1)), q6_, H', ⟨by have := HJ3.out; have := HK2.out; omega⟩, ⟨q92_⟩, ⟨q0_⟩⟩
        ·rw [if_neg c17] at H; exact absurd H (by simp)
       ·rw [if_neg c16] at H; exact absurd H (by simp)
      ·rw [if_neg c15] at H; have c15b0 := decide_eq_false c15; clear c15; have H' := ak_ H; clear H; go_wp2; go_loopg [59] k2 (fun kq v59 w' => ∃ (x59_3 : Int), v59 = .int .i64 x59_3 ∧ zag (zac.l1 kq l2 (l0_4.length : Int) x59_3 a0_0 a0_1 l0_2 l0_3 l0_4 l0_5 l0_6 = some r) ∧ zag (kq ≤ k2) ∧ zag (w'.heap[gb102]? = some (.cells #[.string a0_0, .string a0_1, (.slice A0_2 l0_2.length c0_2), (.slice A0_3 l0_3.length c0_3), (.slice A0_4 l0_4.length c0_4), (.slice A0_5 l0_5.length c0_5), (.slice A0_6 l0_6.length c0_6)] 27 (0, 0))) ∧ zag (Below w.heap.size w w'))
       case atStart => exact ⟨(0), q6_, H', ⟨Nat.le_refl _⟩, ⟨q92_⟩, ⟨q0_⟩⟩
       case round =>
        clear H'; (try clear c15b0 hz19); obtain ⟨x59_3, rfl, HA, HK3, BK102, HB⟩ := hrel
        cases gk with
        | zero => exact absurd HA.out (by simp [zac.l1])
        | succ k3 =>
         have H := HA.out; clear HA; simp only [zac.l1] at H
         by_cases c24 : x59_3 < (l0_4.length : Int)
         ·rw [if_pos c24] at H; have c24b0 := decide_eq_true c24; clear c24
          by_cases c25 : 0 ≤ x59_3
          ·rw [if_pos c25] at H; have c25b0 := decide_eq_true c25; clear c25
           by_cases c26 : x59_3 < (l0_4.length : Int)
           ·rw [if_pos c26] at H; have c26b0 := decide_eq_true c26; clear c26; have hz28 := bc7_ (w := wr) BK102.out; have p105 : 0 ≤ (x59_3 : Int) := of_decide_eq_true q5_; have q105 : x59_3 < (l0_4.length : Int) := of_decide_eq_true q5_; obtain ⟨ad105, A105_0, c105_0, e105, hx105_0, hl105_0, hi105_0⟩ := at_L6 HR0_4.out x59_3 p105 q105; cases e105; replace hx105_0 := hc_ HB.out hx105_0; have HR105_0 := ak_ hi105_0; have HC105_0 := ak_ hl105_0; clear hi105_0 hl105_0; replace p105 := eq_true p105; replace q105 := eq_true q105
            by_cases c27 : ((zje l0_4 x59_3).length : Int) > 60
            ·rw [if_pos c27] at H; have c27b0 : decide (60 < ((zje l0_4 x59_3).length : Int)) = true := decide_eq_true c27; have c27b1 : decide (60 < (zje l0_4 x59_3).length) = true := decide_eq_true (by omega); clear c27; obtain rfl := Option.some.inj H; go_wp2; go_ret; exact ⟨q3_, q0_⟩
            ·rw [if_neg c27] at H; have c27b0 : decide (60 < ((zje l0_4 x59_3).length : Int)) = false := decide_eq_false c27; have c27b1 : decide (60 < (zje l0_4 x59_3).length) = false := decide_eq_false (by omega); clear c27; have H' := ak_ H; clear H; go_wp2; go_roundg k3
             case measure => have := HJ3.out; have := HK2.out; have := HK3.out; omega
             case rel => exact ⟨(wrap64 (x59_3 + 1)), q6_, H', ⟨by have := HJ3.out; have := HK2.out; have := HK3.out; omega⟩, ⟨q92_⟩, ⟨q0_⟩⟩
           ·rw [if_neg c26] at H; exact absurd H (by simp)
          ·rw [if_neg c25] at H; exact absurd H (by simp)
         ·rw [if_neg c24] at H; have c24b0 := decide_eq_false c24; clear c24; have H' := ak_ H; clear H; go_wp2; go_loopg [72] k3 (fun kq v72 w' => ∃ (x72_4 : Int), v72 = .int .i64 x72_4 ∧ zag (zac.l2 kq l2 (l2.length : Int) x72_4 = some r) ∧ zag (kq ≤ k3) ∧ zag (w'.heap[gb102]? = some (.cells #[.string a0_0, .string a0_1, (.slice A0_2 l0_2.length c0_2), (.slice A0_3 l0_3.length c0_3), (.slice A0_4 l0_4.length c0_4), (.slice A0_5 l0_5.length c0_5), (.slice A0_6 l0_6.length c0_6)] 27 (0, 0))) ∧ zag (Below w.heap.size w w'))
          case atStart => exact ⟨(0), q6_, H', ⟨Nat.le_refl _⟩, ⟨q92_⟩, ⟨q0_⟩⟩
          case round =>
           clear H'; (try clear c24b0); obtain ⟨x72_4, rfl, HA, HK4, BK102, HB⟩ := hrel
           cases gk with
           | zero => exact absurd HA.out (by simp [zac.l2])
           | succ k4 =>
            have H := HA.out; clear HA; simp only [zac.l2] at H
            by_cases c30 : x72_4 < (l2.length : Int)
            ·rw [if_pos c30] at H; have c30b0 := decide_eq_true c30; clear c30
             by_cases c31 : 0 ≤ x72_4
             ·rw [if_pos c31] at H; have c31b0 := decide_eq_true c31; clear c31
              by_cases c32 : x72_4 < (l2.length : Int)
              ·rw [if_pos c32] at H; have c32b0 := decide_eq_true c32; clear c32; have p106 : 0 ≤ (x72_4 : Int) := of_decide_eq_true q5_; have q106 : x72_4 < (l2.length : Int) := of_decide_eq_true q5_; obtain ⟨ad106, A106_0, c106_0, e106, hx106_0, hl106_0, hi106_0⟩ := at_L7 HR2.out x72_4 p106 q106; cases e106; replace hx106_0 := hc_ HB.out hx106_0; have HR106_0 := ak_ hi106_0; have HC106_0 := ak_ hl106_0; clear hi106_0 hl106_0; replace p106 := eq_true p106
               by_cases c33 : ((zie l2 x72_4).length : Int) > 30
               ·rw [if_pos c33] at H; have c33b0 : decide (30 < ((zie l2 x72_4).length : Int)) = true := decide_eq_true c33; have c33b1 : decide (30 < (zie l2 x72_4).length) = true := decide_eq_true (by omega); clear c33; obtain rfl := Option.some.inj H; replace q106 := eq_true q106; go_wp2; go_ret; exact ⟨q3_, q0_⟩
               ·rw [if_neg c33] at H; have c33b0 : decide (30 < ((zie l2 x72_4).length : Int)) = false := decide_eq_false c33; have c33b1 : decide (30 < (zie l2 x72_4).length) = false := decide_eq_false (by omega); clear c33; obtain ⟨t107, A34, H⟩ := bi_ H; try dsimp only at H
                replace q106 := eq_true q106
                by_cases c35 : t107 = true
                ·subst c35; replace H := ifT_ H; have H' := ak_ H; clear H; go_wp2_with (first | (go_at_call 19; (with_reducible refine (zbc.calls k4 _ _ (zie l2 x72_4) true _ ?side1 HC106_0.out A34.out).mono ?_); (case side1 => exact cx_ (Kd.zam HR106_0.out HB.out)); rintro e w' ⟨rfl, ⟨nd, rfl⟩⟩)); go_roundg k4
                 case measure => have := HJ3.out; have := HK2.out; have := HK3.out; have := HK4.out; omega
                 case rel => exact ⟨(wrap64 (x72_4 + 1)), q6_, H', ⟨by have := HJ3.out; have := HK2.out; have := HK3.out; have := HK4.out; omega⟩, ⟨q92_⟩, ⟨q0_⟩⟩
                ·replace c35 := Bool.eq_false_iff.mpr c35; subst c35; replace H := ifF_ H; obtain rfl := Option.some.inj H; go_wp2_with (first | (go_at_call 19; (with_reducible refine (zbc.calls k4 _ _ (zie l2 x72_4) false _ ?side1 HC106_0.out A34.out).mono ?_); (case side1 => exact cx_ (Kd.zam HR106_0.out HB.out)); rintro e w' ⟨rfl, ⟨nd, rfl⟩⟩)); go_ret; exact ⟨q3_, q0_⟩
              ·rw [if_neg c32] at H; exact absurd H (by simp)
             ·rw [if_neg c31] at H; exact absurd H (by simp)
            ·rw [if_neg c30] at H; have c30b0 := decide_eq_false c30; clear c30; obtain rfl := Option.some.inj H; go_wp2; go_ret; exact ⟨q3_, q0_⟩

end Go.Proofs.YtnggdcdiachkpaaDoor.P
