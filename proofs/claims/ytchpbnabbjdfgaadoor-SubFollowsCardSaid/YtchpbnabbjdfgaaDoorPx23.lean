-- HALVED
import Derived.Test.YtchpbnabbjdfgaaDoorPx0
import Derived.Test.YtchpbnabbjdfgaaDoorPx22
namespace Go.Proofs.YtchpbnabbjdfgaaDoor.P
open Go.RowKit Go.Proofs.YtchpbnabbjdfgaaDoorW.PrintWords Go.Proofs.YtchpbnabbjdfgaaDoorW.PrintLast Go.Proofs.YtchpbnabbjdfgaaDoorW.PrintMore
attribute [local go_sem] zeb zfe zfa zfb zdl zdm zec zed   -- for this text's walks alone
set_option linter.unusedVariables false
set_option linter.unusedSimpArgs false
set_option maxHeartbeats 8000000
set_option maxRecDepth 100000
def zes.f (a0 : ByteArray) : Option (Bool) := if a0.toList = ([115, 101, 108, 101, 99, 116] : List UInt8) then (some true) else (if a0.toList = ([102, 114, 111, 109] : List UInt8) then (some true) else (if a0.toList = ([106, 111, 105, 110] : List UInt8) then (some true) else (if a0.toList = ([111, 110] : List UInt8) then (some true) else (if a0.toList = ([119, 104, 101, 114, 101] : List UInt8) then (some true) else (if a0.toList = ([103, 114, 111, 117, 112] : List UInt8) then (some true) else (if a0.toList = ([98, 121] : List UInt8) then (some true) else (if a0.toList = ([97, 110, 100] : List UInt8) then (some true) else (if a0.toList = ([111, 114] : List UInt8) then (some true) else (if a0.toList = ([110, 111, 116] : List UInt8) then (some true) else (if a0.toList = ([105, 115] : List UInt8) then (some true) else (if a0.toList = ([110, 117, 108, 108] : List UInt8) then (some true) else (if a0.toList = ([116, 114, 117, 101] : List UInt8) then (some true) else (if a0.toList = ([102, 97, 108, 115, 101] : List UInt8) then (some true) else (if a0.toList = ([99, 111, 117, 110, 116] : List UInt8) then (some true) else (if a0.toList = ([115, 117, 109] : List UInt8) then (some true) else (if a0.toList = ([109, 105, 110] : List UInt8) then (some true) else (if a0.toList = ([109, 97, 120] : List UInt8) then (some true) else (some false))))))))))))))))))
theorem zes.calls (a0 : ByteArray) (r : Bool) (w : World) (h : zes.f a0 = some r) :
  Calls Tryd.prog 88 #[.string a0] w fun e w' => e = .returned (.bool r) ∧ zdo w w' := by
 have H := h; unfold zes.f at H; clear h
 by_cases c2 : a0.toList = ([115, 101, 108, 101, 99, 116] : List UInt8)
 ·rw [if_pos c2] at H; have c2b0 := bq_ c2; have c2b1 := bq0_ c2; clear c2; obtain rfl := Option.some.inj H; go_enter Tryd.func88, Tryd.ntmps88; go_wp2; go_ret; exact ⟨q6_, q9_⟩
 ·rw [if_neg c2] at H; have c2b0 := bn_ c2; have c2b1 := bn1_ c2
  by_cases c3 : a0.toList = ([102, 114, 111, 109] : List UInt8)
  ·rw [if_pos c3] at H; have c3b0 := bq_ c3; have c3b1 := bq0_ c3; clear c3; obtain rfl := Option.some.inj H; go_enter Tryd.func88, Tryd.ntmps88; go_wp2; go_ret; exact ⟨q6_, q9_⟩
  ·rw [if_neg c3] at H; have c3b0 := bn_ c3; have c3b1 := bn1_ c3
   by_cases c4 : a0.toList = ([106, 111, 105, 110] : List UInt8)
   ·rw [if_pos c4] at H; have c4b0 := bq_ c4; have c4b1 := bq0_ c4; clear c4; obtain rfl := Option.some.inj H; go_enter Tryd.func88, Tryd.ntmps88; go_wp2; go_ret; exact ⟨q6_, q9_⟩
   ·rw [if_neg c4] at H; have c4b0 := bn_ c4; have c4b1 := bn1_ c4
    by_cases c5 : a0.toList = ([111, 110] : List UInt8)
    ·rw [if_pos c5] at H; have c5b0 := bq_ c5; have c5b1 := bq0_ c5; clear c5; obtain rfl := Option.some.inj H; go_enter Tryd.func88, Tryd.ntmps88; go_wp2; go_ret; exact ⟨q6_, q9_⟩
    ·rw [if_neg c5] at H; have c5b0 := bn_ c5; have c5b1 := bn1_ c5
     by_cases c6 : a0.toList = ([119, 104, 101, 114, 101] : List UInt8)
     ·rw [if_pos c6] at H; have c6b0 := bq_ c6; have c6b1 := bq0_ c6; clear c6; obtain rfl := Option.some.inj H; go_enter Tryd.func88, Tryd.ntmps88; go_wp2; go_ret; exact ⟨q6_, q9_⟩
     ·rw [if_neg c6] at H; have c6b0 := bn_ c6; have c6b1 := bn1_ c6
      by_cases c7 : a0.toList = ([103, 114, 111, 117, 112] : List UInt8)
      ·rw [if_pos c7] at H; have c7b0 := bq_ c7; have c7b1 := bq0_ c7; clear c7; obtain rfl := Option.some.inj H; go_enter Tryd.func88, Tryd.ntmps88; go_wp2; go_ret; exact ⟨q6_, q9_⟩
      ·rw [if_neg c7] at H; have c7b0 := bn_ c7; have c7b1 := bn1_ c7
       by_cases c8 : a0.toList = ([98, 121] : List UInt8)
       ·rw [if_pos c8] at H; have c8b0 := bq_ c8; have c8b1 := bq0_ c8; clear c8; obtain rfl := Option.some.inj H; go_enter Tryd.func88, Tryd.ntmps88; go_wp2; go_ret; exact ⟨q6_, q9_⟩
       ·rw [if_neg c8] at H; have c8b0 := bn_ c8; have c8b1 := bn1_ c8
        by_cases c9 : a0.toList = ([97, 110, 100] : List UInt8)
        ·rw [if_pos c9] at H; have c9b0 := bq_ c9; have c9b1 := bq0_ c9; clear c9; obtain rfl := Option.some.inj H; go_enter Tryd.func88, Tryd.ntmps88; go_wp2; go_ret; exact ⟨q6_, q9_⟩
        ·rw [if_neg c9] at H; have c9b0 := bn_ c9; have c9b1 := bn1_ c9
         by_cases c10 : a0.toList = ([111, 114] : List UInt8)
         ·rw [if_pos c10] at H; have c10b0 := bq_ c10; have c10b1 := bq0_ c10; clear c10; obtain rfl := Option.some.inj H; go_enter Tryd.func88, Tryd.ntmps88; go_wp2; go_ret; exact ⟨q6_, q9_⟩
         ·rw [if_neg c10] at H; have c10b0 := bn_ c10; have c10b1 := bn1_ c10
          by_cases c11 : a0.toList = ([110, 111, 116] : List UInt8)
          ·rw [if_pos c11] at H; have c11b0 := bq_ c11; have c11b1 := bq0_ c11; clear c11; obtain rfl := Option.some.inj H; go_enter Tryd.func88, Tryd.ntmps88; go_wp2; go_ret; exact ⟨q6_, q9_⟩
          ·rw [if_neg c11] at H; have c11b0 := bn_ c11; have c11b1 := bn1_ c11
           by_cases c12 : a0.toList = ([105, 115] : List UInt8)
           ·rw [if_pos c12] at H; have c12b0 := bq_ c12; have c12b1 := bq0_ c12; clear c12; obtain rfl := Option.some.inj H; go_enter Tryd.func88, Tryd.ntmps88; go_wp2; go_ret; exact ⟨q6_, q9_⟩
           ·rw [if_neg c12] at H; have c12b0 := bn_ c12; have c12b1 := bn1_ c12
            by_cases c13 : a0.toList = ([110, 117, 108, 108] : List UInt8)
            ·rw [if_pos c13] at H; have c13b0 := bq_ c13; have c13b1 := bq0_ c13; clear c13; obtain rfl := Option.some.inj H; go_enter Tryd.func88, Tryd.ntmps88; go_wp2; go_ret; exact ⟨q6_, q9_⟩
            ·rw [if_neg c13] at H; have c13b0 := bn_ c13; have c13b1 := bn1_ c13
             by_cases c14 : a0.toList = ([116, 114, 117, 101] : List UInt8)
             ·rw [if_pos c14] at H; have c14b0 := bq_ c14; have c14b1 := bq0_ c14; clear c14; obtain rfl := Option.some.inj H; go_enter Tryd.func88, Tryd.ntmps88; go_wp2; go_ret; exact ⟨q6_, q9_⟩
             ·rw [if_neg c14] at H; have c14b0 := bn_ c14; have c14b1 := bn1_ c14
              by_cases c15 : a0.toList = ([102, 97, 108, 115, 101] : List UInt8)
              ·rw [if_pos c15] at H; have c15b0 := bq_ c15; have c15b1 := bq0_ c15; clear c15; obtain rfl := Option.some.inj H; go_enter Tryd.func88, Tryd.ntmps88; go_wp2; go_ret; exact ⟨q6_, q9_⟩
              ·rw [if_neg c15] at H; have c15b0 := bn_ c15; have c15b1 := bn1_ c15
               by_cases c16 : a0.toList = ([99, 111, 117, 110, 116] : List UInt8)
               ·rw [if_pos c16] at H; have c16b0 := bq_ c16; have c16b1 := bq0_ c16; clear c16; obtain rfl := Option.some.inj H; go_enter Tryd.func88, Tryd.ntmps88; go_wp2; go_ret; exact ⟨q6_, q9_⟩
               ·rw [if_neg c16] at H; have c16b0 := bn_ c16; have c16b1 := bn1_ c16
                by_cases c17 : a0.toList = ([115, 117, 109] : List UInt8)
                ·rw [if_pos c17] at H; have c17b0 := bq_ c17; have c17b1 := bq0_ c17; clear c17; obtain rfl := Option.some.inj H; go_enter Tryd.func88, Tryd.ntmps88; go_wp2; go_ret; exact ⟨q6_, q9_⟩
                ·rw [if_neg c17] at H; have c17b0 := bn_ c17; have c17b1 := bn1_ c17
                 by_cases c18 : a0.toList = ([109, 105, 110] : List UInt8)
                 ·rw [if_pos c18] at H; have c18b0 := bq_ c18; have c18b1 := bq0_ c18; clear c18; obtain rfl := Option.some.inj H; go_enter Tryd.func88, Tryd.ntmps88; go_wp2; go_ret; exact ⟨q6_, q9_⟩
                 ·rw [if_neg c18] at H; have c18b0 := bn_ c18; have c18b1 := bn1_ c18
                  by_cases c19 : a0.toList = ([109, 97, 120] : List UInt8)
                  ·rw [if_pos c19] at H; have c19b0 := bq_ c19; have c19b1 := bq0_ c19; clear c19; obtain rfl := Option.some.inj H; go_enter Tryd.func88, Tryd.ntmps88; go_wp2; go_ret; exact ⟨q6_, q9_⟩
                  ·rw [if_neg c19] at H; have c19b0 := bn_ c19; have c19b1 := bn1_ c19; obtain rfl := Option.some.inj H; go_enter Tryd.func88, Tryd.ntmps88; go_wp2; go_ret; exact ⟨q6_, q9_⟩
def zbh.l0 : Nat → ByteArray → Int → Int → Option (Bool)
 | 0, _, _, _ => none
 | k + 1, x0, x7, x8 => if x8 < x7 then (if 0 ≤ x8 then (if x8 < (x0.size : Int) then (if (bt x0 x8) ≥ 97 then (if ((bt x0 x8) ≤ 122) then (zbh.l0 k x0 x7 (wrap64 (x8 + 1))) else (if x8 = 0 then (some false) else (if (bt x0 x8) = 95 then (zbh.l0 k x0 x7 (wrap64 (x8 + 1))) else (if (bt x0 x8) < 48 then (some false) else (if (bt x0 x8) > 57 then (some false) else (zbh.l0 k x0 x7 (wrap64 (x8 + 1)))))))) else (if x8 = 0 then (some false) else (if (bt x0 x8) = 95 then (zbh.l0 k x0 x7 (wrap64 (x8 + 1))) else (if (bt x0 x8) < 48 then (some false) else (if (bt x0 x8) > 57 then (some false) else (zbh.l0 k x0 x7 (wrap64 (x8 + 1)))))))) else (none)) else (none)) else (if (x0.size : Int) ≥ 1 then (if (x0.size : Int) ≤ 16 then ((zes.f x0).bind fun t136 => (some (!t136))) else (some false)) else (some false))
def zbh.f (k : Nat) (a0 : ByteArray) : Option (Bool) := zbh.l0 k a0 (a0.size : Int) 0
theorem zbh.zby : ∀ k, (∀ y0 y1 y2, LeO (zbh.l0 k y0 y1 y2) (zbh.l0 (k + 1) y0 y1 y2))
 | 0 => fun _ _ _ r h => by simp [zbh.l0] at h
 | k + 1 => by
  have ih0 := zbh.zby k
  ·intro y0 y1 y2
   unfold zbh.l0
   with_reducible repeat' first
   | apply ih0
   | apply LeO.refl
   | apply LeO.none
   | refine LeO.ite ?_ ?_
   | refine LeO.bind ?_ (fun _ => ?_)
theorem zbh.mono : ∀ a0 k, LeO (zbh.f k a0) (zbh.f (k + 1) a0) := by
 intro a0 k
 have ih0 := zbh.zby k
 unfold zbh.f
 with_reducible repeat' first
   | apply ih0
   | apply LeO.refl
   | apply LeO.none
   | refine LeO.ite ?_ ?_
   | refine LeO.bind ?_ (fun _ => ?_)
theorem zbh.calls (k : Nat) (a0 : ByteArray) (r : Bool) (w : World) (h : zbh.f k a0 = some r) :
  Calls Tryd.prog 67 #[.string a0] w fun e w' => e = .returned (.bool r) ∧ zdo w w' := by
 have H : (zbh.l0 k a0 (a0.size : Int) 0) = some r := h; clear h; have H' := ak_ H; clear H; go_enter Tryd.func67, Tryd.ntmps67; go_wp2; go_loopg [8] k (fun kq v8 w' => ∃ (x8_1 : Int), v8 = .int .i64 x8_1 ∧ zab (zbh.l0 kq a0 (a0.size : Int) x8_1 = some r) ∧ zab (kq ≤ k) ∧ zdo w w')
 case atStart => exact ⟨(0), q6_, H', ⟨Nat.le_refl _⟩, q9_⟩
 case round =>
  clear H'; obtain ⟨x8_1, rfl, HA, HK1, ⟨m1, rfl⟩⟩ := hrel
  cases gk with
  | zero => exact absurd HA.out (by simp [zbh.l0])
  | succ k1 =>
   have H := HA.out; clear HA; simp only [zbh.l0] at H
   by_cases c2 : x8_1 < (a0.size : Int)
   ·rw [if_pos c2] at H; have c2b0 := decide_eq_true c2; clear c2
    by_cases c3 : 0 ≤ x8_1
    ·rw [if_pos c3] at H; have c3b0 := decide_eq_true c3; clear c3
     by_cases c4 : x8_1 < (a0.size : Int)
     ·rw [if_pos c4] at H; have c4b0 := decide_eq_true c4; clear c4
      by_cases c6 : (bt a0 x8_1) ≥ 97
      ·rw [if_pos c6] at H; have c6b0 : decide (97 ≤ (bt a0 x8_1)) = true := decide_eq_true c6; clear c6; have p5 : 0 ≤ (x8_1 : Int) := of_decide_eq_true q4_
       by_cases c7 : ((bt a0 x8_1) ≤ 122)
       ·rw [if_pos c7] at H; have c7b0 : decide ((bt a0 x8_1) ≤ 122) = true := decide_eq_true c7; clear c7; have H' := ak_ H; clear H; have q5 : x8_1 < (a0.size : Int) := of_decide_eq_true q4_; have hx5 := bt_at a0 x8_1; replace p5 := eq_true p5; replace q5 := eq_true q5; go_wp2; go_roundg k1
        case measure => have := HK1.out; omega
        case rel => exact ⟨(wrap64 (x8_1 + 1)), q6_, H', ⟨kq_⟩, q9_⟩
       ·rw [if_neg c7] at H; have c7b0 : decide ((bt a0 x8_1) ≤ 122) = false := decide_eq_false c7; clear c7; have q5 : x8_1 < (a0.size : Int) := of_decide_eq_true q4_
        by_cases c8 : x8_1 = 0
        ·rw [if_pos c8] at H; have c8b0 := bq_ c8; have c8b1 := bq0_ c8; clear c8; obtain rfl := Option.some.inj H; have hx5 := bt_at a0 x8_1; replace p5 := eq_true p5; replace q5 := eq_true q5; go_wp2; go_ret; exact ⟨q6_, q9_⟩
        ·rw [if_neg c8] at H; have c8b0 := bn_ c8; have c8b1 := bn1_ c8; have hx5 := bt_at a0 x8_1
         by_cases c9 : (bt a0 x8_1) = 95
         ·rw [if_pos c9] at H; have c9b0 := bq_ c9; have c9b1 := bq0_ c9; clear c9; have H' := ak_ H; clear H; replace p5 := eq_true p5; replace q5 := eq_true q5; go_wp2; go_roundg k1
          case measure => have := HK1.out; omega
          case rel => exact ⟨(wrap64 (x8_1 + 1)), q6_, H', ⟨kq_⟩, q9_⟩
         ·rw [if_neg c9] at H; have c9b0 := bn_ c9; have c9b1 := bn1_ c9; replace p5 := eq_true p5
          by_cases c10 : (bt a0 x8_1) < 48
          ·rw [if_pos c10] at H; have c10b0 := decide_eq_true c10; clear c10; obtain rfl := Option.some.inj H; replace q5 := eq_true q5; go_wp2; go_ret; exact ⟨q6_, q9_⟩
          ·rw [if_neg c10] at H; have c10b0 := decide_eq_false c10; clear c10; replace q5 := eq_true q5
           by_cases c11 : (bt a0 x8_1) > 57
           ·rw [if_pos c11] at H; have c11b0 : decide (57 < (bt a0 x8_1)) = true := decide_eq_true c11; clear c11; obtain rfl := Option.some.inj H; go_wp2; go_ret; exact ⟨q6_, q9_⟩
           ·rw [if_neg c11] at H; have c11b0 : decide (57 < (bt a0 x8_1)) = false := decide_eq_false c11; clear c11; have H' := ak_ H; clear H; go_wp2; go_roundg k1
            case measure => have := HK1.out; omega
            case rel => exact ⟨(wrap64 (x8_1 + 1)), q6_, H', ⟨kq_⟩, q9_⟩
      ·rw [if_neg c6] at H; have c6b0 : decide (97 ≤ (bt a0 x8_1)) = false := decide_eq_false c6; clear c6; have p5 : 0 ≤ (x8_1 : Int) := of_decide_eq_true q4_; have q5 : x8_1 < (a0.size : Int) := of_decide_eq_true q4_
       by_cases c12 : x8_1 = 0
       ·rw [if_pos c12] at H; have c12b0 := bq_ c12; have c12b1 := bq0_ c12; clear c12; obtain rfl := Option.some.inj H; have hx5 := bt_at a0 x8_1; replace p5 := eq_true p5; replace q5 := eq_true q5; go_wp2; go_ret; exact ⟨q6_, q9_⟩
       ·rw [if_neg c12] at H; have c12b0 := bn_ c12; have c12b1 := bn1_ c12; have hx5 := bt_at a0 x8_1
        by_cases c13 : (bt a0 x8_1) = 95
        ·rw [if_pos c13] at H; have c13b0 := bq_ c13; have c13b1 := bq0_ c13; clear c13; have H' := ak_ H; clear H; replace p5 := eq_true p5; replace q5 := eq_true q5; go_wp2; go_roundg k1
         case measure => have := HK1.out; omega
         case rel => exact ⟨(wrap64 (x8_1 + 1)), q6_, H', ⟨kq_⟩, q9_⟩
        ·rw [if_neg c13] at H; have c13b0 := bn_ c13; have c13b1 := bn1_ c13; replace p5 := eq_true p5
         by_cases c14 : (bt a0 x8_1) < 48
         ·rw [if_pos c14] at H; have c14b0 := decide_eq_true c14; clear c14; obtain rfl := Option.some.inj H; replace q5 := eq_true q5; go_wp2; go_ret; exact ⟨q6_, q9_⟩
         ·rw [if_neg c14] at H; have c14b0 := decide_eq_false c14; clear c14; replace q5 := eq_true q5
          by_cases c15 : (bt a0 x8_1) > 57
          ·rw [if_pos c15] at H; have c15b0 : decide (57 < (bt a0 x8_1)) = true := decide_eq_true c15; clear c15; obtain rfl := Option.some.inj H; go_wp2; go_ret; exact ⟨q6_, q9_⟩
          ·rw [if_neg c15] at H; have c15b0 : decide (57 < (bt a0 x8_1)) = false := decide_eq_false c15; clear c15; have H' := ak_ H; clear H; go_wp2; go_roundg k1
           case measure => have := HK1.out; omega
           case rel => exact ⟨(wrap64 (x8_1 + 1)), q6_, H', ⟨kq_⟩, q9_⟩
     ·rw [if_neg c4] at H; exact absurd H (by simp)
    ·rw [if_neg c3] at H; exact absurd H (by simp)
   ·rw [if_neg c2] at H; have c2b0 := decide_eq_false c2; clear c2
    by_cases c16 : (a0.size : Int) ≥ 1
    ·rw [if_pos c16] at H; have c16b0 : decide (1 ≤ (a0.size : Int)) = true := decide_eq_true c16; have c16b1 : decide (1 ≤ a0.size) = true := decide_eq_true (by omega); clear c16
     by_cases c17 : (a0.size : Int) ≤ 16
     ·rw [if_pos c17] at H; have c17b0 := decide_eq_true c17; have c17b1 : decide (a0.size ≤ 16) = true := decide_eq_true (by omega); clear c17; obtain ⟨t136, A18, H⟩ := bi_ H; replace H : (some (!t136)) = some r := H; obtain rfl := Option.some.inj H; go_wp2_with (first | (go_at_call 88; (with_reducible refine (zes.calls a0 t136 _ A18.out).mono ?_); rintro e w' ⟨rfl, ⟨nd, rfl⟩⟩)); go_ret; exact ⟨q6_, q9_⟩
     ·rw [if_neg c17] at H; have c17b0 := decide_eq_false c17; have c17b1 : decide (a0.size ≤ 16) = false := decide_eq_false (by omega); clear c17; obtain rfl := Option.some.inj H; go_wp2; go_ret; exact ⟨q6_, q9_⟩
    ·rw [if_neg c16] at H; have c16b0 : decide (1 ≤ (a0.size : Int)) = false := decide_eq_false c16; have c16b1 : decide (1 ≤ a0.size) = false := decide_eq_false (by omega); clear c16; obtain rfl := Option.some.inj H; go_wp2; go_ret; exact ⟨q6_, q9_⟩
def zcn.f (k : Nat) (a0_0 : ByteArray) (l0_1 : List (S81)) : Option (Bool) := (zbh.f k a0_0).bind fun t138 => (if t138 = true then (if (l0_1.length : Int) = 0 then (some true) else ((zbf.f k l0_1).bind fun t139 => (some (!t139)))) else (some true))
theorem zcn.mono : ∀ a0 a1 k, LeO (zcn.f k a0 a1) (zcn.f (k + 1) a0 a1) := by
 intro a0 a1 k
 unfold zcn.f
 with_reducible repeat' first
   | apply zbf.mono
   | apply zbh.mono
   | apply LeO.refl
   | apply LeO.none
   | refine LeO.ite ?_ ?_
   | refine LeO.bind ?_ (fun _ => ?_)
theorem zcn.calls (k : Nat) (a0_0 : ByteArray) (A0_1 : Option Addr) (c0_1 : Nat) (l0_1 : List (S81)) (r : Bool) (w : World) (hr0_1 : Kd.C k81 w A0_1 l0_1.length l0_1) (hc0_1 : l0_1.length ≤ c0_1) (h : zcn.f k a0_0 l0_1 = some r) (hG : Glob w) :
  Calls Tryd.prog 66 #[.agg #[.string a0_0, .slice A0_1 l0_1.length c0_1]] w fun e w' => e = .returned (.bool r) ∧ Below w.heap.size w w' := by
 have hu56 := Tryd.underlying56; have HG := ak_ hG; clear hG; have HR0_1 := ak_ hr0_1; have HC0_1 := ak_ hc0_1; clear hr0_1 hc0_1; have HB := ak_ (Below.refl w.heap.size w); have H : ((zbh.f k a0_0).bind fun t138 => (if t138 = true then (if (l0_1.length : Int) = 0 then (some true) else ((zbf.f k l0_1).bind fun t139 => (some (!t139)))) else (some true))) = some r := h; clear h; obtain ⟨t138, A2, H⟩ := bi_ H; try dsimp only at H
 by_cases c3 : t138 = true
 ·subst c3; replace H := ifT_ H
  by_cases c4 : (l0_1.length : Int) = 0
  ·rw [if_pos c4] at H; have c4b0 := bq_ c4; have c4b1 := bq0_ c4; clear c4; obtain rfl := Option.some.inj H; go_enter Tryd.func66, Tryd.ntmps66; go_wp2_with (first | ((with_reducible refine gd_ 1 rfl ?_); (try (refine zce (by rfl) ?_; dsimp only)); refine by_ #[.string a0_0, .slice A0_1 l0_1.length c0_1] 56 ?_; intro gb137 hg w5 BK137 hb; have GE137 := gw_ hg; replace HB := bs_ hb; clear hb hg; have hz6 := bc2_ (w := w5) BK137.out) | ((with_reducible refine gc_ 67 rfl ?_); refine gl_ 5 Tryd.func67 #[.string a0_0] ?_; (with_reducible refine (zbh.calls k a0_0 true _ A2.out).mono ?_); rintro e w' ⟨rfl, ⟨nd, rfl⟩⟩; refine ⟨_, rfl, ?_⟩)); go_ret; exact ⟨q5_, q0_⟩
  ·rw [if_neg c4] at H; have c4b0 := bn_ c4; have c4b1 := bn1_ c4; have c4b2 : ¬ (l0_1 = []) := fun h_ => c4 (by rw [h_]; rfl); obtain ⟨t139, A7, H⟩ := bi_ H; replace H : (some (!t139)) = some r := H; obtain rfl := Option.some.inj H; go_enter Tryd.func66, Tryd.ntmps66; go_wp2_with (first | ((with_reducible refine gd_ 1 rfl ?_); (try (refine zce (by rfl) ?_; dsimp only)); refine by_ #[.string a0_0, .slice A0_1 l0_1.length c0_1] 56 ?_; intro gb137 hg w8 BK137 hb; have GE137 := gw_ hg; replace HB := bs_ hb; clear hb hg; have hz9 := bc2_ (w := w8) BK137.out) | ((with_reducible refine gc_ 67 rfl ?_); refine gl_ 5 Tryd.func67 #[.string a0_0] ?_; (with_reducible refine (zbh.calls k a0_0 true _ A2.out).mono ?_); rintro e w' ⟨rfl, ⟨nd, rfl⟩⟩; refine ⟨_, rfl, ?_⟩) | (go_at_call 49; (with_reducible refine (zbf.calls k _ _ l0_1 t139 _ ?side1 ?side2 A7.out (by first | exact HG.out | (refine Glob.below HG.out ?_; (exact q0_)) | (repeat (first | exact HG.out | apply Glob.drewN | apply Glob.drew | apply Glob.alloc)))).mono ?_); (case side1 => exact cx_ (Kd.zcc HR0_1.out q0_)); (case side2 => exact HC0_1.out); rintro e w10 ⟨rfl, hb⟩; replace BK137 := ak_ (zfl (g := gb137) (o := .cells #[.string a0_0, .slice A0_1 l0_1.length c0_1] 56 (0, 0)) (by (with_reducible repeat first | apply bN_ | apply bD_ | apply bA_); exact BK137.out) hb); replace HB := bs_ hb; clear hb)); go_ret; exact ⟨q5_, q0_⟩
 ·replace c3 := Bool.eq_false_iff.mpr c3; subst c3; replace H := ifF_ H; obtain rfl := Option.some.inj H; go_enter Tryd.func66, Tryd.ntmps66; go_wp2_with (first | ((with_reducible refine gd_ 1 rfl ?_); (try (refine zce (by rfl) ?_; dsimp only)); refine by_ #[.string a0_0, .slice A0_1 l0_1.length c0_1] 56 ?_; intro gb137 hg w11 BK137 hb; have GE137 := gw_ hg; replace HB := bs_ hb; clear hb hg; have hz12 := bc2_ (w := w11) BK137.out) | ((with_reducible refine gc_ 67 rfl ?_); refine gl_ 5 Tryd.func67 #[.string a0_0] ?_; (with_reducible refine (zbh.calls k a0_0 false _ A2.out).mono ?_); rintro e w' ⟨rfl, ⟨nd, rfl⟩⟩; refine ⟨_, rfl, ?_⟩)); go_ret; exact ⟨q5_, q0_⟩
def zaj.l0 : Nat → List (S56) → Int → Int → Option (Int)
 | 0, _, _, _ => none
 | k + 1, x0, x7, x8 => if x8 < x7 then (if 0 ≤ x8 then (if x8 < (x0.length : Int) then ((zcn.f k ((zbb x0 x8).f0) ((zbb x0 x8).f1)).bind fun t141 => (if t141 = true then (some x8) else (zaj.l0 k x0 x7 (wrap64 (x8 + 1))))) else (none)) else (none)) else (some (-1))
def zaj.f (k : Nat) (l0 : List (S56))  : Option (Int) := zaj.l0 k l0 (l0.length : Int) 0
theorem zaj.zby : ∀ k, (∀ y0 y1 y2, LeO (zaj.l0 k y0 y1 y2) (zaj.l0 (k + 1) y0 y1 y2))
 | 0 => fun _ _ _ r h => by simp [zaj.l0] at h
 | k + 1 => by
  have ih0 := zaj.zby k
  ·intro y0 y1 y2
   unfold zaj.l0
   with_reducible repeat' first
   | apply ih0
   | apply zcn.mono
   | apply LeO.refl
   | apply LeO.none
   | refine LeO.ite ?_ ?_
   | refine LeO.bind ?_ (fun _ => ?_)
theorem zaj.mono : ∀ a0 k, LeO (zaj.f k a0) (zaj.f (k + 1) a0) := by
 intro a0 k
 have ih0 := zaj.zby k
 unfold zaj.f
 with_reducible repeat' first
   | apply ih0
   | apply zcn.mono
   | apply LeO.refl
   | apply LeO.none
   | refine LeO.ite ?_ ?_
   | refine LeO.bind ?_ (fun _ => ?_)
theorem zaj.calls (k : Nat) (A0 : Option Addr) (c0 : Nat) (l0 : List (S56))  (r : Int) (w : World) (hr0 : Kd.C k56 w A0 l0.length l0) (hc0 : l0.length ≤ c0) (h : zaj.f k l0 = some r) (hG : Glob w) :
  Calls Tryd.prog 52 #[.slice A0 l0.length c0, (.func (.func 66) #[] #[])] w fun e w' => e = .returned (.int .i64 r) ∧ Below w.heap.size w w' := by
 have hu56 := Tryd.underlying56; have HG := ak_ hG; clear hG; have HR0 := ak_ hr0; have HC0 := ak_ hc0; clear hr0 hc0; have HB := ak_ (Below.refl w.heap.size w); have H : (zaj.l0 k l0 (l0.length : Int) 0) = some r := h; clear h; have H' := ak_ H; clear H; go_enter Tryd.func52, Tryd.ntmps52; go_wp2; go_loopg [8] k (fun kq v8 w' => ∃ (x8_1 : Int), v8 = .int .i64 x8_1 ∧ zab (zaj.l0 kq l0 (l0.length : Int) x8_1 = some r) ∧ zab (kq ≤ k) ∧ zab (Below w.heap.size w w'))
 case atStart => exact ⟨(0), q6_, H', ⟨Nat.le_refl _⟩, ⟨q0_⟩⟩
 case round =>
  clear H'; obtain ⟨x8_1, rfl, HA, HK1, HB⟩ := hrel
  cases gk with
  | zero => exact absurd HA.out (by simp [zaj.l0])
  | succ k1 =>
   have H := HA.out; clear HA; simp only [zaj.l0] at H
   by_cases c3 : x8_1 < (l0.length : Int)
   ·rw [if_pos c3] at H; have c3b0 := decide_eq_true c3; clear c3
    by_cases c4 : 0 ≤ x8_1
    ·rw [if_pos c4] at H; have c4b0 := decide_eq_true c4; clear c4
     by_cases c5 : x8_1 < (l0.length : Int)
     ·rw [if_pos c5] at H; have c5b0 := decide_eq_true c5; clear c5; obtain ⟨t141, A6, H⟩ := bi_ H; try dsimp only at H
      have p140 : 0 ≤ (x8_1 : Int) := of_decide_eq_true q4_; have q140 : x8_1 < (l0.length : Int) := of_decide_eq_true q4_; obtain ⟨ad140, A140_1, c140_1, e140, hx140_0, hx140_1, hl140_1, hi140_1⟩ := zha HR0.out x8_1 p140 q140; cases e140; replace hx140_0 := hc_ HB.out hx140_0; replace hx140_1 := hc_ HB.out hx140_1; have HR140_1 := ak_ hi140_1; have HC140_1 := ak_ hl140_1; clear hi140_1 hl140_1; replace p140 := eq_true p140; replace q140 := eq_true q140
      by_cases c7 : t141 = true
      ·subst c7; replace H := ifT_ H; obtain rfl := Option.some.inj H; go_wp2_with (first | ((with_reducible refine zcg (t := 11) rfl ?_); refine zez (some 16) rfl rfl Tryd.func66 (by kernel_rfl) rfl #[.agg #[.string ((zbb l0 x8_1).f0), .slice A140_1 ((zbb l0 x8_1).f1).length c140_1]] rfl (by rfl) q2_ ?_; (with_reducible refine ca_ (zcn.calls k1 ((zbb l0 x8_1).f0) _ _ ((zbb l0 x8_1).f1) true _ ?side1 HC140_1.out A6.out q7_) ?_); (case side1 => exact cx_ (Kd.zcc HR140_1.out HB.out)); intro w8 hb; replace HB := bs_ hb; clear hb)); go_ret; exact ⟨q5_, q0_⟩
      ·replace c7 := Bool.eq_false_iff.mpr c7; subst c7; replace H := ifF_ H; have H' := ak_ H; clear H; go_wp2_with (first | ((with_reducible refine zcg (t := 11) rfl ?_); refine zez (some 16) rfl rfl Tryd.func66 (by kernel_rfl) rfl #[.agg #[.string ((zbb l0 x8_1).f0), .slice A140_1 ((zbb l0 x8_1).f1).length c140_1]] rfl (by rfl) q2_ ?_; (with_reducible refine ca_ (zcn.calls k1 ((zbb l0 x8_1).f0) _ _ ((zbb l0 x8_1).f1) false _ ?side1 HC140_1.out A6.out q7_) ?_); (case side1 => exact cx_ (Kd.zcc HR140_1.out HB.out)); intro w9 hb; replace HB := bs_ hb; clear hb)); go_roundg k1
       case measure => have := HK1.out; omega
       case rel => exact ⟨(wrap64 (x8_1 + 1)), q6_, H', ⟨kq_⟩, ⟨q0_⟩⟩
     ·rw [if_neg c5] at H; exact absurd H (by simp)
    ·rw [if_neg c4] at H; exact absurd H (by simp)
   ·rw [if_neg c3] at H; have c3b0 := decide_eq_false c3; clear c3; obtain rfl := Option.some.inj H; go_wp2; go_ret; exact ⟨q5_, q0_⟩
def zbm.f (k : Nat) (l0 : List (S56))  : Option (Bool) := (zaj.f k l0).bind fun t142 => (some (decide (t142 ≥ 0)))
theorem zbm.mono : ∀ a0 k, LeO (zbm.f k a0) (zbm.f (k + 1) a0) := by
 intro a0 k
 unfold zbm.f
 with_reducible repeat' first
   | apply zaj.mono
   | apply LeO.refl
   | apply LeO.none
   | refine LeO.ite ?_ ?_
   | refine LeO.bind ?_ (fun _ => ?_)
theorem zbm.calls (k : Nat) (A0 : Option Addr) (c0 : Nat) (l0 : List (S56))  (r : Bool) (w : World) (hr0 : Kd.C k56 w A0 l0.length l0) (hc0 : l0.length ≤ c0) (h : zbm.f k l0 = some r) (hG : Glob w) :
  Calls Tryd.prog 65 #[.slice A0 l0.length c0, (.func (.func 66) #[] #[])] w fun e w' => e = .returned (.bool r) ∧ Below w.heap.size w w' := by
 have HG := ak_ hG; clear hG; have HR0 := ak_ hr0; have HC0 := ak_ hc0; clear hr0 hc0; have HB := ak_ (Below.refl w.heap.size w); have H : ((zaj.f k l0).bind fun t142 => (some (decide (t142 ≥ 0)))) = some r := h; clear h; obtain ⟨t142, A3, H⟩ := bi_ H; replace H : (some (decide (t142 ≥ 0))) = some r := H; obtain rfl := Option.some.inj H; go_enter Tryd.func65, Tryd.ntmps65; go_wp2_with (first | ((with_reducible refine gc_ 52 rfl ?_); refine gl_ 7 Tryd.func52 #[.slice A0 l0.length c0, (.func (.func 66) #[] #[])] ?_; (with_reducible refine ca_ (zaj.calls k _ _ l0  t142 _ ?side1 HC0.out A3.out q7_) ?_); (case side1 => exact cx_ HR0.out); intro w4 hb; replace HB := bs_ hb; clear hb)); go_ret; exact ⟨q5_, q0_⟩
def zdk.f (k : Nat) (l0 : List (S56)) : Option (Bool) := if (l0.length : Int) ≤ 16 then ((zbm.f k l0).bind fun t143 => (some (!t143))) else (some false)
theorem zdk.mono : ∀ a0 k, LeO (zdk.f k a0) (zdk.f (k + 1) a0) := by
 intro a0 k
 unfold zdk.f
 with_reducible repeat' first
   | apply zbm.mono
   | apply LeO.refl
   | apply LeO.none
   | refine LeO.ite ?_ ?_
   | refine LeO.bind ?_ (fun _ => ?_)
theorem zdk.calls (k : Nat) (A0 : Option Addr) (c0 : Nat) (l0 : List (S56)) (r : Bool) (w : World) (hr0 : Kd.C k56 w A0 l0.length l0) (hc0 : l0.length ≤ c0) (h : zdk.f k l0 = some r) (hG : Glob w) :
  Calls Tryd.prog 42 #[.slice A0 l0.length c0] w fun e w' => e = .returned (.bool r) ∧ Below w.heap.size w w' := by
 have HG := ak_ hG; clear hG; have HR0 := ak_ hr0; have HC0 := ak_ hc0; clear hr0 hc0; have HB := ak_ (Below.refl w.heap.size w); have H : (if (l0.length : Int) ≤ 16 then ((zbm.f k l0).bind fun t143 => (some (!t143))) else (some false)) = some r := h; clear h
 by_cases c2 : (l0.length : Int) ≤ 16
 ·rw [if_pos c2] at H; have c2b0 := decide_eq_true c2; have c2b1 : decide (l0.length ≤ 16) = true := decide_eq_true (by omega); clear c2; obtain ⟨t143, A3, H⟩ := bi_ H; replace H : (some (!t143)) = some r := H; obtain rfl := Option.some.inj H; go_enter Tryd.func42, Tryd.ntmps42; go_wp2_with (first | (go_at_call 65; (with_reducible refine (zbm.calls k _ _ l0  t143 _ ?side1 HC0.out A3.out q7_).mono ?_); (case side1 => exact cx_ HR0.out); rintro e w4 ⟨rfl, hb⟩; replace HB := bs_ hb; clear hb)); go_ret; exact ⟨q5_, q0_⟩
 ·rw [if_neg c2] at H; have c2b0 := decide_eq_false c2; have c2b1 : decide (l0.length ≤ 16) = false := decide_eq_false (by omega); clear c2; obtain rfl := Option.some.inj H; go_enter Tryd.func42, Tryd.ntmps42; go_wp2; go_ret; exact ⟨q5_, q0_⟩
def zan.j0 : Nat → Bool → Int → Int → Int → Int → Int → List (S56) → Option (Bool)
 | 0, _, _, _, _, _, _, _ => none
 | k + 1, x36, x145000, x145001, x145002, x145003, x145004, x145005 => if x36 = true then (some false) else (if x145000 = 2 then (if x145004 ≥ 1 then (if x145004 ≤ 16 then (if x145003 ≥ 0 then (if x145003 < x145004 then (some (decide ((x145005.length : Int) ≤ 1))) else (some false)) else (some false)) else (some false)) else (some false)) else (if x145000 = 3 then (if x145004 = 0 then (if x145003 = 0 then (some ((x145005.length : Int) == 0)) else (some false)) else (some false)) else (if x145004 = 0 then (some (x145003 == 0)) else (some false))))
def zan.f (k : Nat) (a0_0 : Int) (a0_1 : Int) (a0_2 : Int) (a0_3 : Int) (a0_4 : Int) (l0_5 : List (S56)) : Option (Bool) := if a0_0 < 1 then (zan.j0 k true a0_0 a0_1 a0_2 a0_3 a0_4 l0_5) else (if a0_0 > 3 then (zan.j0 k true a0_0 a0_1 a0_2 a0_3 a0_4 l0_5) else (if a0_1 < 0 then (zan.j0 k true a0_0 a0_1 a0_2 a0_3 a0_4 l0_5) else (if a0_1 > 4 then (zan.j0 k true a0_0 a0_1 a0_2 a0_3 a0_4 l0_5) else (if a0_2 < 0 then (zan.j0 k true a0_0 a0_1 a0_2 a0_3 a0_4 l0_5) else (if a0_2 > 549755813888 then (zan.j0 k true a0_0 a0_1 a0_2 a0_3 a0_4 l0_5) else ((zdk.f k l0_5).bind fun t145 => (zan.j0 k (!t145) a0_0 a0_1 a0_2 a0_3 a0_4 l0_5)))))))
theorem zan.zby : ∀ k, (∀ y0 y1 y2 y3 y4 y5 y6, LeO (zan.j0 k y0 y1 y2 y3 y4 y5 y6) (zan.j0 (k + 1) y0 y1 y2 y3 y4 y5 y6))
 | 0 => fun _ _ _ _ _ _ _ r h => by simp [zan.j0] at h
 | k + 1 => by
  have ih0 := zan.zby k
  ·intro y0 y1 y2 y3 y4 y5 y6
   unfold zan.j0
   with_reducible repeat' first
   | apply ih0
   | apply zdk.mono
   | apply LeO.refl
   | apply LeO.none
   | refine LeO.ite ?_ ?_
   | refine LeO.bind ?_ (fun _ => ?_)
theorem zan.mono : ∀ a0 a1 a2 a3 a4 a5 k, LeO (zan.f k a0 a1 a2 a3 a4 a5) (zan.f (k + 1) a0 a1 a2 a3 a4 a5) := by
 intro a0 a1 a2 a3 a4 a5 k
 have ih0 := zan.zby k
 unfold zan.f
 with_reducible repeat' first
   | apply ih0
   | apply zdk.mono
   | apply LeO.refl
   | apply LeO.none
   | refine LeO.ite ?_ ?_
   | refine LeO.bind ?_ (fun _ => ?_)
theorem zan.calls (k : Nat) (a0_0 : Int) (a0_1 : Int) (a0_2 : Int) (a0_3 : Int) (a0_4 : Int) (A0_5 : Option Addr) (c0_5 : Nat) (l0_5 : List (S56)) (r : Bool) (w : World) (hr0_5 : Kd.C k56 w A0_5 l0_5.length l0_5) (hc0_5 : l0_5.length ≤ c0_5) (h : zan.f k a0_0 a0_1 a0_2 a0_3 a0_4 l0_5 = some r) (hG : Glob w) :
  Calls Tryd.prog 37 #[.agg #[.int .i64 a0_0, .int .i64 a0_1, .int .i64 a0_2, .int .i64 a0_3, .int .i64 a0_4, .slice A0_5 l0_5.length c0_5]] w fun e w' => e = .returned (.bool r) ∧ Below w.heap.size w w' := by
 have hu41 := Tryd.underlying41; have HG := ak_ hG; clear hG; have HR0_5 := ak_ hr0_5; have HC0_5 := ak_ hc0_5; clear hr0_5 hc0_5; have HB := ak_ (Below.refl w.heap.size w); have H := h; unfold zan.f at H; clear h; have HC2 := ak_ H; clear H; go_enter Tryd.func37, Tryd.ntmps37; go_upto_region 1 with (first | ((with_reducible refine gd_ 1 rfl ?_); (try (refine zce (by rfl) ?_; dsimp only)); refine by_ #[.int .i64 a0_0, .int .i64 a0_1, .int .i64 a0_2, .int .i64 a0_3, .int .i64 a0_4, .slice A0_5 l0_5.length c0_5] 41 ?_; intro gb144 hg w3 BK144 hb; have GE144 := gw_ hg; replace HB := bs_ hb; clear hb hg))
 (try simp only [Act.put, List.setIfInBounds_toArray, List.set_cons_zero, List.set_cons_succ]); go_cut [36] (fun v36 wc => ∃ (kq : Nat) (x36_1 : Bool), v36 = .bool x36_1 ∧ zab (zan.j0 kq x36_1 a0_0 a0_1 a0_2 a0_3 a0_4 l0_5 = some r) ∧ zab (kq ≤ k) ∧ zab (wc.heap[gb144]? = some (.cells #[.int .i64 a0_0, .int .i64 a0_1, .int .i64 a0_2, .int .i64 a0_3, .int .i64 a0_4, (.slice A0_5 l0_5.length c0_5)] 41 (0, 0))) ∧ zab (Below w.heap.size w wc))
 case first =>
  have H := HC2.out; clear HC2; have hcz5_0 : w3.cell? ⟨gb144, 0, none⟩ = some (.int .i64 a0_0) := bt_ BK144.out 0; have hcz5_1 : w3.cell? ⟨gb144, 1, none⟩ = some (.int .i64 a0_1) := bt_ BK144.out 1; have hcz5_2 : w3.cell? ⟨gb144, 2, none⟩ = some (.int .i64 a0_2) := bt_ BK144.out 2; have hcz5_3 : w3.cell? ⟨gb144, 3, none⟩ = some (.int .i64 a0_3) := bt_ BK144.out 3; have hcz5_4 : w3.cell? ⟨gb144, 4, none⟩ = some (.int .i64 a0_4) := bt_ BK144.out 4; have hcz5_5 : w3.cell? ⟨gb144, 5, none⟩ = some (.slice A0_5 l0_5.length c0_5) := bt_ BK144.out 5; have hfz5_0 := zag BK144.out 0
  by_cases c4 : a0_0 < 1
  ·rw [if_pos c4] at H; have c4b0 := decide_eq_true c4; clear c4; (first | rw [c4b0] | (simp only [zhm, i32_w]; rw [c4b0]) | skip); have H' := ak_ H; clear H; have hfz5_1 := zag BK144.out 1; have hfz5_2 := zag BK144.out 2; have hfz5_3 := zag BK144.out 3; have hfz5_4 := zag BK144.out 4; have hfz5_5 := zag BK144.out 5; go_wp2; go_meet
   case rel => exact ⟨_, (true), q6_, H', ⟨by first | omega | exact Nat.le_refl _⟩, ⟨q30_⟩, ⟨q0_⟩⟩
  ·rw [if_neg c4] at H; have c4b0 := decide_eq_false c4; clear c4; (first | rw [c4b0] | (simp only [zhm, i32_w]; rw [c4b0]) | skip); have hfz7_1 := zag BK144.out 1
   by_cases c6 : a0_0 > 3
   ·rw [if_pos c6] at H; have c6b0 : decide (3 < a0_0) = true := decide_eq_true c6; clear c6; have H' := ak_ H; clear H; have hfz7_2 := zag BK144.out 2; have hfz7_3 := zag BK144.out 3; have hfz7_4 := zag BK144.out 4; have hfz7_5 := zag BK144.out 5; go_wp2; go_meet
    case rel => exact ⟨_, (true), q6_, H', ⟨by first | omega | exact Nat.le_refl _⟩, ⟨q30_⟩, ⟨q0_⟩⟩
   ·rw [if_neg c6] at H; have c6b0 : decide (3 < a0_0) = false := decide_eq_false c6; clear c6; have hfz9_2 := zag BK144.out 2
    by_cases c8 : a0_1 < 0
    ·rw [if_pos c8] at H; have c8b0 := decide_eq_true c8; clear c8; have H' := ak_ H; clear H; have hfz9_3 := zag BK144.out 3; have hfz9_4 := zag BK144.out 4; have hfz9_5 := zag BK144.out 5; go_wp2; go_meet
     case rel => exact ⟨_, (true), q6_, H', ⟨by first | omega | exact Nat.le_refl _⟩, ⟨q30_⟩, ⟨q0_⟩⟩
    ·rw [if_neg c8] at H; have c8b0 := decide_eq_false c8; clear c8; have hfz11_3 := zag BK144.out 3
     by_cases c10 : a0_1 > 4
     ·rw [if_pos c10] at H; have c10b0 : decide (4 < a0_1) = true := decide_eq_true c10; clear c10; have H' := ak_ H; clear H; have hfz11_4 := zag BK144.out 4; have hfz11_5 := zag BK144.out 5; go_wp2; go_meet
      case rel => exact ⟨_, (true), q6_, H', ⟨by first | omega | exact Nat.le_refl _⟩, ⟨q30_⟩, ⟨q0_⟩⟩
     ·rw [if_neg c10] at H; have c10b0 : decide (4 < a0_1) = false := decide_eq_false c10; clear c10; have hfz13_4 := zag BK144.out 4
      by_cases c12 : a0_2 < 0
      ·rw [if_pos c12] at H; have c12b0 := decide_eq_true c12; clear c12; have H' := ak_ H; clear H; have hfz13_5 := zag BK144.out 5; go_wp2; go_meet
       case rel => exact ⟨_, (true), q6_, H', ⟨by first | omega | exact Nat.le_refl _⟩, ⟨q30_⟩, ⟨q0_⟩⟩
      ·rw [if_neg c12] at H; have c12b0 := decide_eq_false c12; clear c12; have hfz15_5 := zag BK144.out 5
       by_cases c14 : a0_2 > 549755813888
       ·rw [if_pos c14] at H; have c14b0 : decide (549755813888 < a0_2) = true := decide_eq_true c14; clear c14; have H' := ak_ H; clear H; go_wp2; go_meet
        case rel => exact ⟨_, (true), q6_, H', ⟨by first | omega | exact Nat.le_refl _⟩, ⟨q30_⟩, ⟨q0_⟩⟩
       ·rw [if_neg c14] at H; have c14b0 : decide (549755813888 < a0_2) = false := decide_eq_false c14; clear c14; obtain ⟨t145, A16, H⟩ := bi_ H; replace H : (zan.j0 k (!t145) a0_0 a0_1 a0_2 a0_3 a0_4 l0_5) = some r := H; have H' := ak_ H; clear H; go_wp2_with (first | (go_at_call 42; (with_reducible refine (zdk.calls k _ _ l0_5 t145 _ ?side1 ?side2 A16.out (by first | exact HG.out | (refine Glob.below HG.out ?_; (exact q0_)) | (repeat (first | exact HG.out | apply Glob.drewN | apply Glob.drew | apply Glob.alloc)))).mono ?_); (case side1 => exact cx_ (Kd.zcc HR0_5.out HB.out)); (case side2 => exact HC0_5.out); rintro e w18 ⟨rfl, hb⟩; replace BK144 := bb_ q30_ hb; replace HB := bs_ hb; clear hb)); go_meet
        case rel => exact ⟨_, (!t145), q6_, H', ⟨by first | omega | exact Nat.le_refl _⟩, ⟨q30_⟩, ⟨q0_⟩⟩
 case rest =>
  clear HC2; obtain ⟨kq, x36_1, rfl, HA, HJ1, BK144, HB⟩ := hcut
  cases kq with
  | zero => exact absurd HA.out (by simp [zan.j0])
  | succ kj1 =>
   have H := HA.out; clear HA; simp only [zan.j0] at H
   by_cases c19 : x36_1 = true
   ·subst c19; replace H := ifT_ H; obtain rfl := Option.some.inj H; go_wp2; go_ret; exact ⟨q5_, q0_⟩
   ·replace c19 := Bool.eq_false_iff.mpr c19; subst c19; replace H := ifF_ H; have hcz25_0 : wc.cell? ⟨gb144, 0, none⟩ = some (.int .i64 a0_0) := bt_ BK144.out 0; have hcz25_1 : wc.cell? ⟨gb144, 1, none⟩ = some (.int .i64 a0_1) := bt_ BK144.out 1; have hcz25_2 : wc.cell? ⟨gb144, 2, none⟩ = some (.int .i64 a0_2) := bt_ BK144.out 2; have hcz25_3 : wc.cell? ⟨gb144, 3, none⟩ = some (.int .i64 a0_3) := bt_ BK144.out 3; have hcz25_4 : wc.cell? ⟨gb144, 4, none⟩ = some (.int .i64 a0_4) := bt_ BK144.out 4; have hcz25_5 : wc.cell? ⟨gb144, 5, none⟩ = some (.slice A0_5 l0_5.length c0_5) := bt_ BK144.out 5; have hfz25_0 := zag BK144.out 0; have hfz25_1 := zag BK144.out 1
    by_cases c20 : a0_0 = 2
    ·rw [if_pos c20] at H; have c20b0 := bq_ c20; have c20b1 := bq0_ c20; clear c20; have hfz25_2 := zag BK144.out 2
     by_cases c21 : a0_4 ≥ 1
     ·rw [if_pos c21] at H; have c21b0 : decide (1 ≤ a0_4) = true := decide_eq_true c21; clear c21; have hfz25_3 := zag BK144.out 3
      by_cases c22 : a0_4 ≤ 16
      ·rw [if_pos c22] at H; have c22b0 := decide_eq_true c22; clear c22; have hfz25_4 := zag BK144.out 4
       by_cases c23 : a0_3 ≥ 0
       ·rw [if_pos c23] at H; have c23b0 : decide (0 ≤ a0_3) = true := decide_eq_true c23; clear c23; have hfz25_5 := zag BK144.out 5
        by_cases c24 : a0_3 < a0_4
        ·rw [if_pos c24] at H; have c24b0 := decide_eq_true c24; clear c24; obtain rfl := Option.some.inj H; go_wp2; go_ret; exact ⟨q5_, q0_⟩
        ·rw [if_neg c24] at H; have c24b0 := decide_eq_false c24; clear c24; obtain rfl := Option.some.inj H; go_wp2; go_ret; exact ⟨q5_, q0_⟩
       ·rw [if_neg c23] at H; have c23b0 : decide (0 ≤ a0_3) = false := decide_eq_false c23; clear c23; obtain rfl := Option.some.inj H; have hfz27_5 := zag BK144.out 5; go_wp2; go_ret; exact ⟨q5_, q0_⟩
      ·rw [if_neg c22] at H; have c22b0 := decide_eq_false c22; clear c22; obtain rfl := Option.some.inj H; have hfz28_4 := zag BK144.out 4; have hfz28_5 := zag BK144.out 5; go_wp2; go_ret; exact ⟨q5_, q0_⟩
     ·rw [if_neg c21] at H; have c21b0 : decide (1 ≤ a0_4) = false := decide_eq_false c21; clear c21; obtain rfl := Option.some.inj H; have hfz29_3 := zag BK144.out 3; have hfz29_4 := zag BK144.out 4; have hfz29_5 := zag BK144.out 5; go_wp2; go_ret; exact ⟨q5_, q0_⟩
    ·rw [if_neg c20] at H; have c20b0 := bn_ c20; have c20b1 := bn1_ c20; have hfz33_2 := zag BK144.out 2; have hfz33_3 := zag BK144.out 3
     by_cases c30 : a0_0 = 3
     ·rw [if_pos c30] at H; have c30b0 := bq_ c30; have c30b1 := bq0_ c30; clear c30; have hfz33_4 := zag BK144.out 4
      by_cases c31 : a0_4 = 0
      ·rw [if_pos c31] at H; have c31b0 := bq_ c31; have c31b1 := bq0_ c31; clear c31; have hfz33_5 := zag BK144.out 5
       by_cases c32 : a0_3 = 0
       ·rw [if_pos c32] at H; have c32b0 := bq_ c32; have c32b1 := bq0_ c32; clear c32; obtain rfl := Option.some.inj H; go_wp2; go_ret; exact ⟨q5_, q0_⟩
       ·rw [if_neg c32] at H; have c32b0 := bn_ c32; have c32b1 := bn1_ c32; obtain rfl := Option.some.inj H; go_wp2; go_ret; exact ⟨q5_, q0_⟩
      ·rw [if_neg c31] at H; have c31b0 := bn_ c31; have c31b1 := bn1_ c31; obtain rfl := Option.some.inj H; have hfz35_5 := zag BK144.out 5; go_wp2; go_ret; exact ⟨q5_, q0_⟩
     ·rw [if_neg c30] at H; have c30b0 := bn_ c30; have c30b1 := bn1_ c30; have hfz37_4 := zag BK144.out 4; have hfz37_5 := zag BK144.out 5
      by_cases c36 : a0_4 = 0
      ·rw [if_pos c36] at H; have c36b0 := bq_ c36; have c36b1 := bq0_ c36; clear c36; obtain rfl := Option.some.inj H; go_wp2; go_ret; exact ⟨q5_, q0_⟩
      ·rw [if_neg c36] at H; have c36b0 := bn_ c36; have c36b1 := bn1_ c36; obtain rfl := Option.some.inj H; go_wp2; go_ret; exact ⟨q5_, q0_⟩
def zen.f (k : Nat) (l0 : List (S56)) : Option (Bool) := (zan.f k 1 0 0 0 0 l0).bind fun t146 => (some t146)
theorem zen.mono : ∀ a0 k, LeO (zen.f k a0) (zen.f (k + 1) a0) := by
 intro a0 k
 unfold zen.f
 with_reducible repeat' first
   | apply zan.mono
   | apply LeO.refl
   | apply LeO.none
   | refine LeO.ite ?_ ?_
   | refine LeO.bind ?_ (fun _ => ?_)
theorem zen.calls (k : Nat) (A0 : Option Addr) (c0 : Nat) (l0 : List (S56)) (r : Bool) (w : World) (hr0 : Kd.C k56 w A0 l0.length l0) (hc0 : l0.length ≤ c0) (h : zen.f k l0 = some r) (hG : Glob w) :
  Calls Tryd.prog 23 #[.slice A0 l0.length c0] w fun e w' => e = .returned (.bool r) ∧ Below w.heap.size w w' := by
 have hu41 := Tryd.underlying41; have HG := ak_ hG; clear hG; have HR0 := ak_ hr0; have HC0 := ak_ hc0; clear hr0 hc0; have HB := ak_ (Below.refl w.heap.size w); have H : ((zan.f k 1 0 0 0 0 l0).bind fun t146 => (some t146)) = some r := h; clear h; obtain ⟨t146, A2, H⟩ := bi_ H; replace H : (some t146) = some r := H; obtain rfl := Option.some.inj H; go_enter Tryd.func23, Tryd.ntmps23; go_wp2_with (first | ((with_reducible refine gc_ 37 rfl ?_); refine gl_ 5 Tryd.func37 #[.agg #[.int .i64 1, .int .i64 0, .int .i64 0, .int .i64 0, .int .i64 0, .slice A0 l0.length c0]] ?_; (with_reducible refine ca_ (zan.calls k 1 0 0 0 0 _ _ l0 t146 _ ?side1 HC0.out A2.out q7_) ?_); (case side1 => exact cx_ HR0.out); intro w3 hb; replace HB := bs_ hb; clear hb)); go_ret; exact ⟨q5_, q0_⟩
def zft.f (l0_0 : List (S105)) (a0_1 : Int) : Option (Bool) := some (decide (a0_1 < 0))
theorem zft.calls (A0_0 : Option Addr) (c0_0 : Nat) (l0_0 : List (S105)) (a0_1 : Int) (r : Bool) (w : World) (hr0_0 : Kd.C k105 w A0_0 l0_0.length l0_0) (hc0_0 : l0_0.length ≤ c0_0) (h : zft.f l0_0 a0_1 = some r) :
  Calls Tryd.prog 69 #[.agg #[.slice A0_0 l0_0.length c0_0, .int .i64 a0_1]] w fun e w' => e = .returned (.bool r) ∧ Below w.heap.size w w' := by
 have hu81 := Tryd.underlying81; have HR0_0 := ak_ hr0_0; have HC0_0 := ak_ hc0_0; clear hr0_0 hc0_0; have HB := ak_ (Below.refl w.heap.size w); have H : (some (decide (a0_1 < 0))) = some r := h; clear h; obtain rfl := Option.some.inj H; go_enter Tryd.func69, Tryd.ntmps69; go_wp2_with (first | ((with_reducible refine gd_ 1 rfl ?_); refine by_ #[.slice A0_0 l0_0.length c0_0, .int .i64 a0_1] 81 ?_; intro gb147 hg w2 BK147 hb; have GE147 := gw_ hg; replace HB := bs_ hb; clear hb hg; have hz3 := bc2_ (w := w2) BK147.out)); go_ret; exact ⟨q5_, q0_⟩

end Go.Proofs.YtchpbnabbjdfgaaDoor.P
