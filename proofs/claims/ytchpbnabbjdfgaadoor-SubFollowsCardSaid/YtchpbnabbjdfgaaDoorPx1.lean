-- HALVED
import Derived.Test.YtchpbnabbjdfgaaDoorPx0
namespace Go.Proofs.YtchpbnabbjdfgaaDoor.P
open Go.RowKit Go.Proofs.YtchpbnabbjdfgaaDoorW.PrintWords Go.Proofs.YtchpbnabbjdfgaaDoorW.PrintLast Go.Proofs.YtchpbnabbjdfgaaDoorW.PrintMore
attribute [local go_sem] zeb zfe zfa zfb zdl zdm zec zed   -- for this text's walks alone
set_option linter.unusedVariables false
set_option linter.unusedSimpArgs false
set_option maxHeartbeats 8000000
set_option maxRecDepth 100000

theorem eqA105 (d : Nat) (w : World) (x0 y0 : Int) (x1 y1 : Int) (x2 y2 : ByteArray) :
  (Op.equalIn (d + 2) 105 (.agg #[.int .i64 x0, .int .i64 x1, .string x2]) (.agg #[.int .i64 y0, .int .i64 y1, .string y2])).run Tryd.prog w = .ok (x0 == y0 && (x1 == y1 && (x2.toList == y2.toList))) w := by
 refine eqA_of Tryd.underlying105 (by kernel_rfl) ?_
 refine eqf_cons (by rfl) (by go_simp; rfl) (by go_simp; rfl) (by go_simp) ?_
 refine eqf_cons (by rfl) (by go_simp; rfl) (by go_simp; rfl) (by go_simp) ?_
 exact eqf_last (by rfl) (by go_simp; rfl) (by go_simp; rfl) (by go_simp)

abbrev b1_2 := sb_ (bz 18 1) 2
abbrev b1_3 := sb_ b1_2 5
abbrev b1_4 := sb_ b1_3 7
abbrev b1_5 := sb_ b1_4 10
abbrev b1_6 := sb_ b1_5 12
abbrev b1_7 := sb_ b1_6 1
abbrev b1_8 := sb_ b1_7 3
abbrev b1_9 := sb_ b1_8 6
abbrev b1_10 := sb_ b1_9 8
abbrev b1_11 := sb_ b1_10 11
abbrev b1_12 := sb_ b1_11 13
abbrev b1_13 := sb_ b1_12 4
def zau.l0 : Nat → List (S81) → Int → Option (Bool)
 | 0, _, _ => none
 | k + 1, x0, x3 => if x3 < (x0.length : Int) then (if 0 ≤ x3 then (if (((zax x0 x3).f0).length : Int) > 40 then (some false) else (zau.l0 k x0 (wrap64 (x3 + 1)))) else (none)) else (some true)
def zau.f (k : Nat) (l0 : List (S81)) : Option (Bool) := if (l0.length : Int) > 60 then (some false) else (zau.l0 k l0 0)
theorem zau.zby : ∀ k, (∀ y0 y1, LeO (zau.l0 k y0 y1) (zau.l0 (k + 1) y0 y1))
 | 0 => fun _ _ r h => by simp [zau.l0] at h
 | k + 1 => by
  have ih0 := zau.zby k
  ·intro y0 y1
   unfold zau.l0
   with_reducible repeat' first
   | apply ih0
   | apply LeO.refl
   | apply LeO.none
   | refine LeO.ite ?_ ?_
   | refine LeO.bind ?_ (fun _ => ?_)
theorem zau.mono : ∀ a0 k, LeO (zau.f k a0) (zau.f (k + 1) a0) := by
 intro a0 k
 have ih0 := zau.zby k
 unfold zau.f
 with_reducible repeat' first
   | apply ih0
   | apply LeO.refl
   | apply LeO.none
   | refine LeO.ite ?_ ?_
   | refine LeO.bind ?_ (fun _ => ?_)
theorem zau.calls (k : Nat) (A0 : Option Addr) (c0 : Nat) (l0 : List (S81)) (r : Bool) (w : World) (hr0 : Kd.C k81 w A0 l0.length l0) (hc0 : l0.length ≤ c0) (h : zau.f k l0 = some r) :
  Calls Tryd.prog 20 #[.slice A0 l0.length c0] w fun e w' => e = .returned (.bool r) ∧ zdo w w' := by
 have HR0 := ak_ hr0; have HC0 := ak_ hc0; clear hr0 hc0; have H : (if (l0.length : Int) > 60 then (some false) else (zau.l0 k l0 0)) = some r := h; clear h
 by_cases c2 : (l0.length : Int) > 60
 ·rw [if_pos c2] at H; have c2b0 : decide (60 < (l0.length : Int)) = true := decide_eq_true c2; have c2b1 : decide (60 < l0.length) = true := decide_eq_true (by omega); clear c2; obtain rfl := Option.some.inj H; go_enter Tryd.func20, Tryd.ntmps20; go_wp2; go_ret; exact ⟨q6_, q9_⟩
 ·rw [if_neg c2] at H; have c2b0 : decide (60 < (l0.length : Int)) = false := decide_eq_false c2; have c2b1 : decide (60 < l0.length) = false := decide_eq_false (by omega); clear c2; have H' := ak_ H; clear H; go_enter Tryd.func20, Tryd.ntmps20; go_wp2; go_loopg [3] k (fun kq v3 w' => ∃ (x3_1 : Int), v3 = .int .i64 x3_1 ∧ zab (zau.l0 kq l0 x3_1 = some r) ∧ zab (kq ≤ k) ∧ zdo w w')
  case atStart => exact ⟨(0), q6_, H', ⟨Nat.le_refl _⟩, q9_⟩
  case round =>
   clear H'; (try clear c2b0 c2b1); obtain ⟨x3_1, rfl, HA, HK1, ⟨m1, rfl⟩⟩ := hrel
   cases gk with
   | zero => exact absurd HA.out (by simp [zau.l0])
   | succ k1 =>
    have H := HA.out; clear HA; simp only [zau.l0] at H
    by_cases c3 : x3_1 < (l0.length : Int)
    ·rw [if_pos c3] at H; have c3b0 := decide_eq_true c3; clear c3
     by_cases c4 : 0 ≤ x3_1
     ·rw [if_pos c4] at H; have c4b0 := decide_eq_true c4; clear c4; have p101 : 0 ≤ (x3_1 : Int) := of_decide_eq_true q4_; have q101 : x3_1 < (l0.length : Int) := of_decide_eq_true q4_; obtain ⟨ad101, A101_0, c101_0, e101, hx101_0, hx101_1, hl101_0, hi101_0⟩ := zge HR0.out x3_1 p101 q101; cases e101; have HR101_0 := ak_ hi101_0; have HC101_0 := ak_ hl101_0; clear hi101_0 hl101_0; replace p101 := eq_true p101; replace q101 := eq_true q101
      by_cases c5 : (((zax l0 x3_1).f0).length : Int) > 40
      ·rw [if_pos c5] at H; have c5b0 : decide (40 < (((zax l0 x3_1).f0).length : Int)) = true := decide_eq_true c5; have c5b1 : decide (40 < ((zax l0 x3_1).f0).length) = true := decide_eq_true (by omega); clear c5; obtain rfl := Option.some.inj H; go_wp2; go_ret; exact ⟨q6_, q9_⟩
      ·rw [if_neg c5] at H; have c5b0 : decide (40 < (((zax l0 x3_1).f0).length : Int)) = false := decide_eq_false c5; have c5b1 : decide (40 < ((zax l0 x3_1).f0).length) = false := decide_eq_false (by omega); clear c5; have H' := ak_ H; clear H; go_wp2; go_roundg k1
       case measure => have := HK1.out; omega
       case rel => exact ⟨(wrap64 (x3_1 + 1)), q6_, H', ⟨kq_⟩, q9_⟩
     ·rw [if_neg c4] at H; exact absurd H (by simp)
    ·rw [if_neg c3] at H; have c3b0 := decide_eq_false c3; clear c3; obtain rfl := Option.some.inj H; go_wp2; go_ret; exact ⟨q6_, q9_⟩
def zay.l0 : Nat → List (S56) → Int → Option (Bool)
 | 0, _, _ => none
 | k + 1, x0, x3 => if x3 < (x0.length : Int) then (if 0 ≤ x3 then (if (((zbb x0 x3).f0).size : Int) > 100 then (some false) else ((zau.f k ((zbb x0 x3).f1)).bind fun t104 => (if t104 = true then (zay.l0 k x0 (wrap64 (x3 + 1))) else (some false)))) else (none)) else (some true)
def zay.f (k : Nat) (l0 : List (S56)) : Option (Bool) := if (l0.length : Int) > 30 then (some false) else (zay.l0 k l0 0)
theorem zay.zby : ∀ k, (∀ y0 y1, LeO (zay.l0 k y0 y1) (zay.l0 (k + 1) y0 y1))
 | 0 => fun _ _ r h => by simp [zay.l0] at h
 | k + 1 => by
  have ih0 := zay.zby k
  ·intro y0 y1
   unfold zay.l0
   with_reducible repeat' first
   | apply ih0
   | apply zau.mono
   | apply LeO.refl
   | apply LeO.none
   | refine LeO.ite ?_ ?_
   | refine LeO.bind ?_ (fun _ => ?_)
theorem zay.mono : ∀ a0 k, LeO (zay.f k a0) (zay.f (k + 1) a0) := by
 intro a0 k
 have ih0 := zay.zby k
 unfold zay.f
 with_reducible repeat' first
   | apply ih0
   | apply zau.mono
   | apply LeO.refl
   | apply LeO.none
   | refine LeO.ite ?_ ?_
   | refine LeO.bind ?_ (fun _ => ?_)
theorem zay.calls (k : Nat) (A0 : Option Addr) (c0 : Nat) (l0 : List (S56)) (r : Bool) (w : World) (hr0 : Kd.C k56 w A0 l0.length l0) (hc0 : l0.length ≤ c0) (h : zay.f k l0 = some r) :
  Calls Tryd.prog 8 #[.slice A0 l0.length c0] w fun e w' => e = .returned (.bool r) ∧ zdo w w' := by
 have HR0 := ak_ hr0; have HC0 := ak_ hc0; clear hr0 hc0; have H : (if (l0.length : Int) > 30 then (some false) else (zay.l0 k l0 0)) = some r := h; clear h
 by_cases c2 : (l0.length : Int) > 30
 ·rw [if_pos c2] at H; have c2b0 : decide (30 < (l0.length : Int)) = true := decide_eq_true c2; have c2b1 : decide (30 < l0.length) = true := decide_eq_true (by omega); clear c2; obtain rfl := Option.some.inj H; go_enter Tryd.func8, Tryd.ntmps8; go_wp2; go_ret; exact ⟨q6_, q9_⟩
 ·rw [if_neg c2] at H; have c2b0 : decide (30 < (l0.length : Int)) = false := decide_eq_false c2; have c2b1 : decide (30 < l0.length) = false := decide_eq_false (by omega); clear c2; have H' := ak_ H; clear H; go_enter Tryd.func8, Tryd.ntmps8; go_wp2; go_loopg [3] k (fun kq v3 w' => ∃ (x3_1 : Int), v3 = .int .i64 x3_1 ∧ zab (zay.l0 kq l0 x3_1 = some r) ∧ zab (kq ≤ k) ∧ zdo w w')
  case atStart => exact ⟨(0), q6_, H', ⟨Nat.le_refl _⟩, q9_⟩
  case round =>
   clear H'; (try clear c2b0 c2b1); obtain ⟨x3_1, rfl, HA, HK1, ⟨m1, rfl⟩⟩ := hrel
   cases gk with
   | zero => exact absurd HA.out (by simp [zay.l0])
   | succ k1 =>
    have H := HA.out; clear HA; simp only [zay.l0] at H
    by_cases c3 : x3_1 < (l0.length : Int)
    ·rw [if_pos c3] at H; have c3b0 := decide_eq_true c3; clear c3
     by_cases c4 : 0 ≤ x3_1
     ·rw [if_pos c4] at H; have c4b0 := decide_eq_true c4; clear c4; have p102 : 0 ≤ (x3_1 : Int) := of_decide_eq_true q4_; have q102 : x3_1 < (l0.length : Int) := of_decide_eq_true q4_; obtain ⟨ad102, A102_1, c102_1, e102, hx102_0, hx102_1, hl102_1, hi102_1⟩ := zha HR0.out x3_1 p102 q102; cases e102; have HR102_1 := ak_ hi102_1; have HC102_1 := ak_ hl102_1; clear hi102_1 hl102_1; replace p102 := eq_true p102; replace q102 := eq_true q102
      by_cases c5 : (((zbb l0 x3_1).f0).size : Int) > 100
      ·rw [if_pos c5] at H; have c5b0 : decide (100 < (((zbb l0 x3_1).f0).size : Int)) = true := decide_eq_true c5; have c5b1 : decide (100 < ((zbb l0 x3_1).f0).size) = true := decide_eq_true (by omega); clear c5; obtain rfl := Option.some.inj H; go_wp2; go_ret; exact ⟨q6_, q9_⟩
      ·rw [if_neg c5] at H; have c5b0 : decide (100 < (((zbb l0 x3_1).f0).size : Int)) = false := decide_eq_false c5; have c5b1 : decide (100 < ((zbb l0 x3_1).f0).size) = false := decide_eq_false (by omega); clear c5; obtain ⟨t104, A6, H⟩ := bi_ H; replace H : (if t104 = true then (zay.l0 k1 l0 (wrap64 (x3_1 + 1))) else (some false)) = some r := H; have p103 : 0 ≤ (x3_1 : Int) := of_decide_eq_true q4_; have q103 : x3_1 < (l0.length : Int) := of_decide_eq_true q4_; obtain ⟨ad103, A103_1, c103_1, e103, hx103_0, hx103_1, hl103_1, hi103_1⟩ := zha HR0.out x3_1 p103 q103; obtain rfl : ad102 = ad103 := (by injection e103); have HR103_1 := ak_ hi103_1; have HC103_1 := ak_ hl103_1; clear hi103_1 hl103_1; replace p103 := eq_true p103; replace q103 := eq_true q103; have ea_ := Option.some.inj (hx102_1.symm.trans hx103_1); injection ea_ with ea_ en_ ec_
       subst ea_; subst ec_; clear en_
       by_cases c7 : t104 = true
       ·subst c7; replace H := ifT_ H; have H' := ak_ H; clear H; go_wp2_with (first | (go_at_call 20; (with_reducible refine (zau.calls k1 _ _ ((zbb l0 x3_1).f1) true _ ?side1 HC103_1.out A6.out).mono ?_); (case side1 => exact cx_ HR103_1.out); rintro e w' ⟨rfl, ⟨nd, rfl⟩⟩)); go_roundg k1
        case measure => have := HK1.out; omega
        case rel => exact ⟨(wrap64 (x3_1 + 1)), q6_, H', ⟨kq_⟩, q9_⟩
       ·replace c7 := Bool.eq_false_iff.mpr c7; subst c7; replace H := ifF_ H; obtain rfl := Option.some.inj H; go_wp2_with (first | (go_at_call 20; (with_reducible refine (zau.calls k1 _ _ ((zbb l0 x3_1).f1) false _ ?side1 HC103_1.out A6.out).mono ?_); (case side1 => exact cx_ HR103_1.out); rintro e w' ⟨rfl, ⟨nd, rfl⟩⟩)); go_ret; exact ⟨q6_, q9_⟩
     ·rw [if_neg c4] at H; exact absurd H (by simp)
    ·rw [if_neg c3] at H; have c3b0 := decide_eq_false c3; clear c3; obtain rfl := Option.some.inj H; go_wp2; go_ret; exact ⟨q6_, q9_⟩
def zdv.f (a0 : Int) : Option (Bool) := if a0 ≥ (-1099511627776) then (some (decide (a0 ≤ 1099511627776))) else (some false)
theorem zdv.calls (a0 : Int) (r : Bool) (w : World) (h : zdv.f a0 = some r) :
  Calls Tryd.prog 73 #[.int .i64 a0] w fun e w' => e = .returned (.bool r) ∧ zdo w w' := by
 have H : (if a0 ≥ (-1099511627776) then (some (decide (a0 ≤ 1099511627776))) else (some false)) = some r := h; clear h
 by_cases c2 : a0 ≥ (-1099511627776)
 ·rw [if_pos c2] at H; have c2b0 : decide ((-1099511627776) ≤ a0) = true := decide_eq_true c2; clear c2; obtain rfl := Option.some.inj H; go_enter Tryd.func73, Tryd.ntmps73; go_wp2; go_ret; exact ⟨q6_, q9_⟩
 ·rw [if_neg c2] at H; have c2b0 : decide ((-1099511627776) ≤ a0) = false := decide_eq_false c2; clear c2; obtain rfl := Option.some.inj H; go_enter Tryd.func73, Tryd.ntmps73; go_wp2; go_ret; exact ⟨q6_, q9_⟩
def utf8_ValidString.f (a0 : ByteArray) : Option (Bool) := if a0.size ≤ 9223372036854775807 then some (Go.Lib.validD a0.data.toList) else none
theorem utf8_ValidString.calls (a0 : ByteArray) (r : Bool) (w : World) (h : utf8_ValidString.f a0 = some r) (hG : Glob w) :
  Calls Tryd.prog 99 #[.string a0] w fun e w' => e = .returned (.bool r) ∧ Below w.heap.size w w' := by
 unfold utf8_ValidString.f at h; split at h
 ·rename_i hs; obtain rfl := Option.some.inj h; exact Any.utf8_ValidString Tryd.laysValid a0 w hs hG.u8
 ·exact absurd h (by simp)
def zew.f (a0_0 : Int) (a0_1 : Int) (a0_2 : ByteArray) : Option (Bool) := if a0_0 = 0 then (if a0_1 = 0 then (some (a0_2.toList == ([] : List UInt8))) else (some false)) else (if a0_0 = 1 then (if a0_1 = 0 then (some (a0_2.toList == ([] : List UInt8))) else (if a0_1 = 1 then (some (a0_2.toList == ([] : List UInt8))) else (some false))) else (if a0_0 = 2 then (some (a0_2.toList == ([] : List UInt8))) else (if a0_0 = 3 then (if a0_1 = 0 then (if (a0_2.size : Int) ≤ 64 then ((utf8_ValidString.f a0_2).bind fun t106 => (some t106)) else (some false)) else (some false)) else (if a0_0 = 4 then (if a0_1 = 0 then (some (decide ((a0_2.size : Int) ≤ 64))) else (some false)) else (some false)))))
theorem zew.calls (a0_0 : Int) (a0_1 : Int) (a0_2 : ByteArray) (r : Bool) (w : World) (h : zew.f a0_0 a0_1 a0_2 = some r) (hG : Glob w) :
  Calls Tryd.prog 92 #[.agg #[.int .i64 a0_0, .int .i64 a0_1, .string a0_2]] w fun e w' => e = .returned (.bool r) ∧ Below w.heap.size w w' := by
 have hu105 := Tryd.underlying105; have HG := ak_ hG; clear hG; have HB := ak_ (Below.refl w.heap.size w); have H := h; unfold zew.f at H; clear h
 by_cases c2 : a0_0 = 0
 ·rw [if_pos c2] at H; have c2b0 := bq_ c2; have c2b1 := bq0_ c2; clear c2
  by_cases c3 : a0_1 = 0
  ·rw [if_pos c3] at H; have c3b0 := bq_ c3; have c3b1 := bq0_ c3; clear c3; obtain rfl := Option.some.inj H; go_enter Tryd.func92, Tryd.ntmps92; go_wp2_with (first | ((with_reducible refine gd_ 1 rfl ?_); (try (refine zce (by rfl) ?_; dsimp only)); refine by_ #[.int .i64 a0_0, .int .i64 a0_1, .string a0_2] 105 ?_; intro gb105 hg w4 BK105 hb; have GE105 := gw_ hg; replace HB := bs_ hb; clear hb hg; have hz5 := bc3_ (w := w4) BK105.out)); go_ret; exact ⟨q5_, q0_⟩
  ·rw [if_neg c3] at H; have c3b0 := bn_ c3; have c3b1 := bn1_ c3; obtain rfl := Option.some.inj H; go_enter Tryd.func92, Tryd.ntmps92; go_wp2_with (first | ((with_reducible refine gd_ 1 rfl ?_); (try (refine zce (by rfl) ?_; dsimp only)); refine by_ #[.int .i64 a0_0, .int .i64 a0_1, .string a0_2] 105 ?_; intro gb105 hg w6 BK105 hb; have GE105 := gw_ hg; replace HB := bs_ hb; clear hb hg; have hz7 := bc3_ (w := w6) BK105.out)); go_ret; exact ⟨q5_, q0_⟩
 ·rw [if_neg c2] at H; have c2b0 := bn_ c2; have c2b1 := bn1_ c2
  by_cases c8 : a0_0 = 1
  ·rw [if_pos c8] at H; have c8b0 := bq_ c8; have c8b1 := bq0_ c8; clear c8
   by_cases c9 : a0_1 = 0
   ·rw [if_pos c9] at H; have c9b0 := bq_ c9; have c9b1 := bq0_ c9; clear c9; obtain rfl := Option.some.inj H; go_enter Tryd.func92, Tryd.ntmps92; go_wp2_with (first | ((with_reducible refine gd_ 1 rfl ?_); (try (refine zce (by rfl) ?_; dsimp only)); refine by_ #[.int .i64 a0_0, .int .i64 a0_1, .string a0_2] 105 ?_; intro gb105 hg w10 BK105 hb; have GE105 := gw_ hg; replace HB := bs_ hb; clear hb hg; have hz11 := bc3_ (w := w10) BK105.out)); go_ret; exact ⟨q5_, q0_⟩
   ·rw [if_neg c9] at H; have c9b0 := bn_ c9; have c9b1 := bn1_ c9
    by_cases c12 : a0_1 = 1
    ·rw [if_pos c12] at H; have c12b0 := bq_ c12; have c12b1 := bq0_ c12; clear c12; obtain rfl := Option.some.inj H; go_enter Tryd.func92, Tryd.ntmps92; go_wp2_with (first | ((with_reducible refine gd_ 1 rfl ?_); (try (refine zce (by rfl) ?_; dsimp only)); refine by_ #[.int .i64 a0_0, .int .i64 a0_1, .string a0_2] 105 ?_; intro gb105 hg w13 BK105 hb; have GE105 := gw_ hg; replace HB := bs_ hb; clear hb hg; have hz14 := bc3_ (w := w13) BK105.out)); go_ret; exact ⟨q5_, q0_⟩
    ·rw [if_neg c12] at H; have c12b0 := bn_ c12; have c12b1 := bn1_ c12; obtain rfl := Option.some.inj H; go_enter Tryd.func92, Tryd.ntmps92; go_wp2_with (first | ((with_reducible refine gd_ 1 rfl ?_); (try (refine zce (by rfl) ?_; dsimp only)); refine by_ #[.int .i64 a0_0, .int .i64 a0_1, .string a0_2] 105 ?_; intro gb105 hg w15 BK105 hb; have GE105 := gw_ hg; replace HB := bs_ hb; clear hb hg; have hz16 := bc3_ (w := w15) BK105.out)); go_ret; exact ⟨q5_, q0_⟩
  ·rw [if_neg c8] at H; have c8b0 := bn_ c8; have c8b1 := bn1_ c8
   by_cases c17 : a0_0 = 2
   ·rw [if_pos c17] at H; have c17b0 := bq_ c17; have c17b1 := bq0_ c17; clear c17; obtain rfl := Option.some.inj H; go_enter Tryd.func92, Tryd.ntmps92; go_wp2_with (first | ((with_reducible refine gd_ 1 rfl ?_); (try (refine zce (by rfl) ?_; dsimp only)); refine by_ #[.int .i64 a0_0, .int .i64 a0_1, .string a0_2] 105 ?_; intro gb105 hg w18 BK105 hb; have GE105 := gw_ hg; replace HB := bs_ hb; clear hb hg; have hz19 := bc3_ (w := w18) BK105.out)); go_ret; exact ⟨q5_, q0_⟩
   ·rw [if_neg c17] at H; have c17b0 := bn_ c17; have c17b1 := bn1_ c17
    by_cases c20 : a0_0 = 3
    ·rw [if_pos c20] at H; have c20b0 := bq_ c20; have c20b1 := bq0_ c20; clear c20
     by_cases c21 : a0_1 = 0
     ·rw [if_pos c21] at H; have c21b0 := bq_ c21; have c21b1 := bq0_ c21; clear c21
      by_cases c22 : (a0_2.size : Int) ≤ 64
      ·rw [if_pos c22] at H; have c22b0 := decide_eq_true c22; have c22b1 : decide (a0_2.size ≤ 64) = true := decide_eq_true (by omega); clear c22; obtain ⟨t106, A23, H⟩ := bi_ H; replace H : (some t106) = some r := H; obtain rfl := Option.some.inj H; go_enter Tryd.func92, Tryd.ntmps92; go_wp2_with (first | ((with_reducible refine gd_ 1 rfl ?_); (try (refine zce (by rfl) ?_; dsimp only)); refine by_ #[.int .i64 a0_0, .int .i64 a0_1, .string a0_2] 105 ?_; intro gb105 hg w24 BK105 hb; have GE105 := gw_ hg; replace HB := bs_ hb; clear hb hg; have hz25 := bc3_ (w := w24) BK105.out) | (go_at_call 99; (with_reducible refine (utf8_ValidString.calls a0_2 t106 _ A23.out (by first | exact HG.out | (refine Glob.below HG.out ?_; (exact q0_)) | (repeat (first | exact HG.out | apply Glob.drewN | apply Glob.drew | apply Glob.alloc)))).mono ?_); rintro e w26 ⟨rfl, hb⟩; replace BK105 := ak_ (zfl (g := gb105) (o := .cells #[.int .i64 a0_0, .int .i64 a0_1, .string a0_2] 105 (0, 0)) (by (with_reducible repeat first | apply bN_ | apply bD_ | apply bA_); exact BK105.out) hb); replace HB := bs_ hb; clear hb)); go_ret; exact ⟨q5_, q0_⟩
      ·rw [if_neg c22] at H; have c22b0 := decide_eq_false c22; have c22b1 : decide (a0_2.size ≤ 64) = false := decide_eq_false (by omega); clear c22; obtain rfl := Option.some.inj H; go_enter Tryd.func92, Tryd.ntmps92; go_wp2_with (first | ((with_reducible refine gd_ 1 rfl ?_); (try (refine zce (by rfl) ?_; dsimp only)); refine by_ #[.int .i64 a0_0, .int .i64 a0_1, .string a0_2] 105 ?_; intro gb105 hg w27 BK105 hb; have GE105 := gw_ hg; replace HB := bs_ hb; clear hb hg; have hz28 := bc3_ (w := w27) BK105.out)); go_ret; exact ⟨q5_, q0_⟩
     ·rw [if_neg c21] at H; have c21b0 := bn_ c21; have c21b1 := bn1_ c21; obtain rfl := Option.some.inj H; go_enter Tryd.func92, Tryd.ntmps92; go_wp2_with (first | ((with_reducible refine gd_ 1 rfl ?_); (try (refine zce (by rfl) ?_; dsimp only)); refine by_ #[.int .i64 a0_0, .int .i64 a0_1, .string a0_2] 105 ?_; intro gb105 hg w29 BK105 hb; have GE105 := gw_ hg; replace HB := bs_ hb; clear hb hg; have hz30 := bc3_ (w := w29) BK105.out)); go_ret; exact ⟨q5_, q0_⟩
    ·rw [if_neg c20] at H; have c20b0 := bn_ c20; have c20b1 := bn1_ c20
     by_cases c31 : a0_0 = 4
     ·rw [if_pos c31] at H; have c31b0 := bq_ c31; have c31b1 := bq0_ c31; clear c31
      by_cases c32 : a0_1 = 0
      ·rw [if_pos c32] at H; have c32b0 := bq_ c32; have c32b1 := bq0_ c32; clear c32; obtain rfl := Option.some.inj H; go_enter Tryd.func92, Tryd.ntmps92; go_wp2_with (first | ((with_reducible refine gd_ 1 rfl ?_); (try (refine zce (by rfl) ?_; dsimp only)); refine by_ #[.int .i64 a0_0, .int .i64 a0_1, .string a0_2] 105 ?_; intro gb105 hg w33 BK105 hb; have GE105 := gw_ hg; replace HB := bs_ hb; clear hb hg; have hz34 := bc3_ (w := w33) BK105.out)); go_ret; exact ⟨q5_, q0_⟩
      ·rw [if_neg c32] at H; have c32b0 := bn_ c32; have c32b1 := bn1_ c32; obtain rfl := Option.some.inj H; go_enter Tryd.func92, Tryd.ntmps92; go_wp2_with (first | ((with_reducible refine gd_ 1 rfl ?_); (try (refine zce (by rfl) ?_; dsimp only)); refine by_ #[.int .i64 a0_0, .int .i64 a0_1, .string a0_2] 105 ?_; intro gb105 hg w35 BK105 hb; have GE105 := gw_ hg; replace HB := bs_ hb; clear hb hg; have hz36 := bc3_ (w := w35) BK105.out)); go_ret; exact ⟨q5_, q0_⟩
     ·rw [if_neg c31] at H; have c31b0 := bn_ c31; have c31b1 := bn1_ c31; obtain rfl := Option.some.inj H; go_enter Tryd.func92, Tryd.ntmps92; go_wp2_with (first | ((with_reducible refine gd_ 1 rfl ?_); (try (refine zce (by rfl) ?_; dsimp only)); refine by_ #[.int .i64 a0_0, .int .i64 a0_1, .string a0_2] 105 ?_; intro gb105 hg w37 BK105 hb; have GE105 := gw_ hg; replace HB := bs_ hb; clear hb hg; have hz38 := bc3_ (w := w37) BK105.out)); go_ret; exact ⟨q5_, q0_⟩
def zgp.f (a0_0 : Int) (a0_1 : Int) (a0_2 : ByteArray) : Option (Bool) := (zew.f a0_0 a0_1 a0_2).bind fun t108 => (some (!t108))
theorem zgp.calls (a0_0 : Int) (a0_1 : Int) (a0_2 : ByteArray) (r : Bool) (w : World) (h : zgp.f a0_0 a0_1 a0_2 = some r) (hG : Glob w) :
  Calls Tryd.prog 75 #[.agg #[.int .i64 a0_0, .int .i64 a0_1, .string a0_2]] w fun e w' => e = .returned (.bool r) ∧ Below w.heap.size w w' := by
 have hu105 := Tryd.underlying105; have HG := ak_ hG; clear hG; have HB := ak_ (Below.refl w.heap.size w); have H : ((zew.f a0_0 a0_1 a0_2).bind fun t108 => (some (!t108))) = some r := h; clear h; obtain ⟨t108, A2, H⟩ := bi_ H; replace H : (some (!t108)) = some r := H; obtain rfl := Option.some.inj H; go_enter Tryd.func75, Tryd.ntmps75; go_wp2_with (first | ((with_reducible refine gd_ 1 rfl ?_); refine by_ #[.int .i64 a0_0, .int .i64 a0_1, .string a0_2] 105 ?_; intro gb107 hg w3 BK107 hb; have GE107 := gw_ hg; replace HB := bs_ hb; clear hb hg; have hz4 := bc3_ (w := w3) BK107.out) | ((with_reducible refine gc_ 92 rfl ?_); refine gl_ 4 Tryd.func92 #[.agg #[.int .i64 a0_0, .int .i64 a0_1, .string a0_2]] ?_; (with_reducible refine (zew.calls a0_0 a0_1 a0_2 t108 _ A2.out (by first | exact HG.out | (refine Glob.below HG.out ?_; (exact q0_)) | (repeat (first | exact HG.out | apply Glob.drewN | apply Glob.drew | apply Glob.alloc)))).mono ?_); rintro e w5 ⟨rfl, hb⟩; refine ⟨_, rfl, ?_⟩; replace BK107 := ak_ (zfl (g := gb107) (o := .cells #[.int .i64 a0_0, .int .i64 a0_1, .string a0_2] 105 (0, 0)) (by (with_reducible repeat first | apply bN_ | apply bD_ | apply bA_); exact BK107.out) hb); replace HB := bs_ hb; clear hb)); go_ret; exact ⟨q5_, q0_⟩
def cmp_isNaN_int.f (a0 : Int) : Option (Bool) := some (a0 != a0)
theorem cmp_isNaN_int.calls (a0 : Int) (r : Bool) (w : World) (h : cmp_isNaN_int.f a0 = some r) :
  Calls Tryd.prog 102 #[.int .i64 a0] w fun e w' => e = .returned (.bool r) ∧ zdo w w' := by
 have H : (some (a0 != a0)) = some r := h; clear h; obtain rfl := Option.some.inj H; go_enter Tryd.func102, Tryd.ntmps102; go_wp2; go_ret; exact ⟨q6_, q9_⟩
def cmp_Compare_int.f (a0 : Int) (a1 : Int) : Option (Int) := (cmp_isNaN_int.f a0).bind fun t109 => ((cmp_isNaN_int.f a1).bind fun t110 => (if t109 = true then (if t110 = true then (some 0) else (some (-1))) else (if t110 = true then (some 1) else (if a0 < a1 then (some (-1)) else (if a0 > a1 then (some 1) else (some 0))))))
theorem cmp_Compare_int.calls (a0 : Int) (a1 : Int) (r : Int) (w : World) (h : cmp_Compare_int.f a0 a1 = some r) :
  Calls Tryd.prog 94 #[.int .i64 a0, .int .i64 a1] w fun e w' => e = .returned (.int .i64 r) ∧ zdo w w' := by
 have H := h; unfold cmp_Compare_int.f at H; clear h; obtain ⟨t109, A3, H⟩ := bi_ H; try dsimp only at H
 obtain ⟨t110, A4, H⟩ := bi_ H; try dsimp only at H
 by_cases c5 : t109 = true
 ·subst c5; replace H := ifT_ H
  by_cases c6 : t110 = true
  ·subst c6; replace H := ifT_ H; obtain rfl := Option.some.inj H; go_enter Tryd.func94, Tryd.ntmps94; go_wp2_with (first | ((with_reducible refine gc_ 102 rfl ?_); refine gl_ 8 Tryd.func102 #[.int .i64 a0] ?_; (with_reducible refine (cmp_isNaN_int.calls a0 true _ A3.out).mono ?_); rintro e w' ⟨rfl, ⟨nd, rfl⟩⟩; refine ⟨_, rfl, ?_⟩) | ((with_reducible refine gc_ 102 rfl ?_); refine gl_ 10 Tryd.func102 #[.int .i64 a1] ?_; (with_reducible refine (cmp_isNaN_int.calls a1 true _ A4.out).mono ?_); rintro e w' ⟨rfl, ⟨nd, rfl⟩⟩; refine ⟨_, rfl, ?_⟩)); go_ret; exact ⟨q6_, q9_⟩
  ·replace c6 := Bool.eq_false_iff.mpr c6; subst c6; replace H := ifF_ H; obtain rfl := Option.some.inj H; go_enter Tryd.func94, Tryd.ntmps94; go_wp2_with (first | ((with_reducible refine gc_ 102 rfl ?_); refine gl_ 8 Tryd.func102 #[.int .i64 a0] ?_; (with_reducible refine (cmp_isNaN_int.calls a0 true _ A3.out).mono ?_); rintro e w' ⟨rfl, ⟨nd, rfl⟩⟩; refine ⟨_, rfl, ?_⟩) | ((with_reducible refine gc_ 102 rfl ?_); refine gl_ 10 Tryd.func102 #[.int .i64 a1] ?_; (with_reducible refine (cmp_isNaN_int.calls a1 false _ A4.out).mono ?_); rintro e w' ⟨rfl, ⟨nd, rfl⟩⟩; refine ⟨_, rfl, ?_⟩)); go_ret; exact ⟨q6_, q9_⟩
 ·replace c5 := Bool.eq_false_iff.mpr c5; subst c5; replace H := ifF_ H
  by_cases c7 : t110 = true
  ·subst c7; replace H := ifT_ H; obtain rfl := Option.some.inj H; go_enter Tryd.func94, Tryd.ntmps94; go_wp2_with (first | ((with_reducible refine gc_ 102 rfl ?_); refine gl_ 8 Tryd.func102 #[.int .i64 a0] ?_; (with_reducible refine (cmp_isNaN_int.calls a0 false _ A3.out).mono ?_); rintro e w' ⟨rfl, ⟨nd, rfl⟩⟩; refine ⟨_, rfl, ?_⟩) | ((with_reducible refine gc_ 102 rfl ?_); refine gl_ 10 Tryd.func102 #[.int .i64 a1] ?_; (with_reducible refine (cmp_isNaN_int.calls a1 true _ A4.out).mono ?_); rintro e w' ⟨rfl, ⟨nd, rfl⟩⟩; refine ⟨_, rfl, ?_⟩)); go_ret; exact ⟨q6_, q9_⟩
  ·replace c7 := Bool.eq_false_iff.mpr c7; subst c7; replace H := ifF_ H
   by_cases c8 : a0 < a1
   ·rw [if_pos c8] at H; have c8b0 := decide_eq_true c8; clear c8; obtain rfl := Option.some.inj H; go_enter Tryd.func94, Tryd.ntmps94; go_wp2_with (first | ((with_reducible refine gc_ 102 rfl ?_); refine gl_ 8 Tryd.func102 #[.int .i64 a0] ?_; (with_reducible refine (cmp_isNaN_int.calls a0 false _ A3.out).mono ?_); rintro e w' ⟨rfl, ⟨nd, rfl⟩⟩; refine ⟨_, rfl, ?_⟩) | ((with_reducible refine gc_ 102 rfl ?_); refine gl_ 10 Tryd.func102 #[.int .i64 a1] ?_; (with_reducible refine (cmp_isNaN_int.calls a1 false _ A4.out).mono ?_); rintro e w' ⟨rfl, ⟨nd, rfl⟩⟩; refine ⟨_, rfl, ?_⟩)); go_ret; exact ⟨q6_, q9_⟩
   ·rw [if_neg c8] at H; have c8b0 := decide_eq_false c8; clear c8
    by_cases c9 : a0 > a1
    ·rw [if_pos c9] at H; have c9b0 : decide (a1 < a0) = true := decide_eq_true c9; clear c9; obtain rfl := Option.some.inj H; go_enter Tryd.func94, Tryd.ntmps94; go_wp2_with (first | ((with_reducible refine gc_ 102 rfl ?_); refine gl_ 8 Tryd.func102 #[.int .i64 a0] ?_; (with_reducible refine (cmp_isNaN_int.calls a0 false _ A3.out).mono ?_); rintro e w' ⟨rfl, ⟨nd, rfl⟩⟩; refine ⟨_, rfl, ?_⟩) | ((with_reducible refine gc_ 102 rfl ?_); refine gl_ 10 Tryd.func102 #[.int .i64 a1] ?_; (with_reducible refine (cmp_isNaN_int.calls a1 false _ A4.out).mono ?_); rintro e w' ⟨rfl, ⟨nd, rfl⟩⟩; refine ⟨_, rfl, ?_⟩)); go_ret; exact ⟨q6_, q9_⟩
    ·rw [if_neg c9] at H; have c9b0 : decide (a1 < a0) = false := decide_eq_false c9; clear c9; obtain rfl := Option.some.inj H; go_enter Tryd.func94, Tryd.ntmps94; go_wp2_with (first | ((with_reducible refine gc_ 102 rfl ?_); refine gl_ 8 Tryd.func102 #[.int .i64 a0] ?_; (with_reducible refine (cmp_isNaN_int.calls a0 false _ A3.out).mono ?_); rintro e w' ⟨rfl, ⟨nd, rfl⟩⟩; refine ⟨_, rfl, ?_⟩) | ((with_reducible refine gc_ 102 rfl ?_); refine gl_ 10 Tryd.func102 #[.int .i64 a1] ?_; (with_reducible refine (cmp_isNaN_int.calls a1 false _ A4.out).mono ?_); rintro e w' ⟨rfl, ⟨nd, rfl⟩⟩; refine ⟨_, rfl, ?_⟩)); go_ret; exact ⟨q6_, q9_⟩
def zbw.l0 : Nat → Int → List Int → Int → Int → Option (Int)
 | 0, _, _, _, _ => none
 | k + 1, x3, x6, x7, x8 => if x8 < x7 then (if 0 ≤ x8 then (if x8 < (x6.length : Int) then (if (rd x6 x8) = x3 then (zbw.l0 k x3 x6 x7 (wrap64 (x8 + 1))) else (some (rd x6 x8))) else (none)) else (none)) else (some x3)
def zbw.f (k : Nat) (l0 : List Int) : Option (Int) := zbw.l0 k 0 l0 (l0.length : Int) 0
theorem zbw.zby : ∀ k, (∀ y0 y1 y2 y3, LeO (zbw.l0 k y0 y1 y2 y3) (zbw.l0 (k + 1) y0 y1 y2 y3))
 | 0 => fun _ _ _ _ r h => by simp [zbw.l0] at h
 | k + 1 => by
  have ih0 := zbw.zby k
  ·intro y0 y1 y2 y3
   unfold zbw.l0
   with_reducible repeat' first
   | apply ih0
   | apply LeO.refl
   | apply LeO.none
   | refine LeO.ite ?_ ?_
   | refine LeO.bind ?_ (fun _ => ?_)
theorem zbw.mono : ∀ a0 k, LeO (zbw.f k a0) (zbw.f (k + 1) a0) := by
 intro a0 k
 have ih0 := zbw.zby k
 unfold zbw.f
 with_reducible repeat' first
   | apply ih0
   | apply LeO.refl
   | apply LeO.none
   | refine LeO.ite ?_ ?_
   | refine LeO.bind ?_ (fun _ => ?_)
theorem zbw.calls (k : Nat) (A0 : Option Addr) (c0 : Nat) (l0 : List Int) (r : Int) (w : World) (hr0 : Kd.C (Kd.int .i64) w A0 l0.length l0) (hc0 : l0.length ≤ c0) (h : zbw.f k l0 = some r) :
  Calls Tryd.prog 100 #[.slice A0 l0.length c0] w fun e w' => e = .returned (.int .i64 r) ∧ zdo w w' := by
 have HR0 := ak_ hr0; have HC0 := ak_ hc0; clear hr0 hc0; have H : (zbw.l0 k 0 l0 (l0.length : Int) 0) = some r := h; clear h; have H' := ak_ H; clear H; go_enter Tryd.func100, Tryd.ntmps100; go_wp2; go_loopg [8] k (fun kq v8 w' => ∃ (x8_1 : Int), v8 = .int .i64 x8_1 ∧ zab (zbw.l0 kq 0 l0 (l0.length : Int) x8_1 = some r) ∧ zab (kq ≤ k) ∧ zdo w w')
 case atStart => exact ⟨(0), q6_, H', ⟨Nat.le_refl _⟩, q9_⟩
 case round =>
  clear H'; obtain ⟨x8_1, rfl, HA, HK1, ⟨m1, rfl⟩⟩ := hrel
  cases gk with
  | zero => exact absurd HA.out (by simp [zbw.l0])
  | succ k1 =>
   have H := HA.out; clear HA; simp only [zbw.l0] at H
   by_cases c2 : x8_1 < (l0.length : Int)
   ·rw [if_pos c2] at H; have c2b0 := decide_eq_true c2; clear c2
    by_cases c3 : 0 ≤ x8_1
    ·rw [if_pos c3] at H; have c3b0 := decide_eq_true c3; clear c3
     by_cases c4 : x8_1 < (l0.length : Int)
     ·rw [if_pos c4] at H; have c4b0 := decide_eq_true c4; clear c4; have p111 : 0 ≤ (x8_1 : Int) := of_decide_eq_true q4_; have q111 : x8_1 < (l0.length : Int) := of_decide_eq_true q4_; obtain ⟨ad111, e111, hx111_0⟩ := Kd.at_int HR0.out x8_1 p111 q111; cases e111; replace p111 := eq_true p111; replace q111 := eq_true q111
      by_cases c5 : (rd l0 x8_1) = 0
      ·rw [if_pos c5] at H; have c5b0 := bq_ c5; have c5b1 := bq0_ c5; clear c5; have H' := ak_ H; clear H; go_wp2; go_roundg k1
       case measure => have := HK1.out; omega
       case rel => exact ⟨(wrap64 (x8_1 + 1)), q6_, H', ⟨kq_⟩, q9_⟩
      ·rw [if_neg c5] at H; have c5b0 := bn_ c5; have c5b1 := bn1_ c5; obtain rfl := Option.some.inj H; go_wp2; go_ret; exact ⟨q6_, q9_⟩
     ·rw [if_neg c4] at H; exact absurd H (by simp)
    ·rw [if_neg c3] at H; exact absurd H (by simp)
   ·rw [if_neg c2] at H; have c2b0 := decide_eq_false c2; clear c2; obtain rfl := Option.some.inj H; go_wp2; go_ret; exact ⟨q6_, q9_⟩
def cmp_isNaN_string.f (a0 : ByteArray) : Option (Bool) := some (a0.toList != a0.toList)
theorem cmp_isNaN_string.calls (a0 : ByteArray) (r : Bool) (w : World) (h : cmp_isNaN_string.f a0 = some r) :
  Calls Tryd.prog 107 #[.string a0] w fun e w' => e = .returned (.bool r) ∧ zdo w w' := by
 have H : (some (a0.toList != a0.toList)) = some r := h; clear h; obtain rfl := Option.some.inj H; go_enter Tryd.func107, Tryd.ntmps107; go_wp2; go_ret; exact ⟨q6_, q9_⟩
def zcu.f (a0 : ByteArray) (a1 : ByteArray) : Option (Int) := (cmp_isNaN_string.f a0).bind fun t112 => ((cmp_isNaN_string.f a1).bind fun t113 => (if t112 = true then (if t113 = true then (some 0) else (some (-1))) else (if t113 = true then (some 1) else (if (Op.bytesLess a0.toList a1.toList) = true then (some (-1)) else (if (Op.bytesLess a1.toList a0.toList) = true then (some 1) else (some 0))))))
theorem zcu.calls (a0 : ByteArray) (a1 : ByteArray) (r : Int) (w : World) (h : zcu.f a0 a1 = some r) :
  Calls Tryd.prog 101 #[.string a0, .string a1] w fun e w' => e = .returned (.int .i64 r) ∧ zdo w w' := by
 have H := h; unfold zcu.f at H; clear h; obtain ⟨t112, A3, H⟩ := bi_ H; try dsimp only at H
 obtain ⟨t113, A4, H⟩ := bi_ H; try dsimp only at H
 by_cases c5 : t112 = true
 ·subst c5; replace H := ifT_ H
  by_cases c6 : t113 = true
  ·subst c6; replace H := ifT_ H; obtain rfl := Option.some.inj H; go_enter Tryd.func101, Tryd.ntmps101; go_wp2_with (first | ((with_reducible refine gc_ 107 rfl ?_); refine gl_ 8 Tryd.func107 #[.string a0] ?_; (with_reducible refine (cmp_isNaN_string.calls a0 true _ A3.out).mono ?_); rintro e w' ⟨rfl, ⟨nd, rfl⟩⟩; refine ⟨_, rfl, ?_⟩) | ((with_reducible refine gc_ 107 rfl ?_); refine gl_ 10 Tryd.func107 #[.string a1] ?_; (with_reducible refine (cmp_isNaN_string.calls a1 true _ A4.out).mono ?_); rintro e w' ⟨rfl, ⟨nd, rfl⟩⟩; refine ⟨_, rfl, ?_⟩)); go_ret; exact ⟨q6_, q9_⟩
  ·replace c6 := Bool.eq_false_iff.mpr c6; subst c6; replace H := ifF_ H; obtain rfl := Option.some.inj H; go_enter Tryd.func101, Tryd.ntmps101; go_wp2_with (first | ((with_reducible refine gc_ 107 rfl ?_); refine gl_ 8 Tryd.func107 #[.string a0] ?_; (with_reducible refine (cmp_isNaN_string.calls a0 true _ A3.out).mono ?_); rintro e w' ⟨rfl, ⟨nd, rfl⟩⟩; refine ⟨_, rfl, ?_⟩) | ((with_reducible refine gc_ 107 rfl ?_); refine gl_ 10 Tryd.func107 #[.string a1] ?_; (with_reducible refine (cmp_isNaN_string.calls a1 false _ A4.out).mono ?_); rintro e w' ⟨rfl, ⟨nd, rfl⟩⟩; refine ⟨_, rfl, ?_⟩)); go_ret; exact ⟨q6_, q9_⟩
 ·replace c5 := Bool.eq_false_iff.mpr c5; subst c5; replace H := ifF_ H
  by_cases c7 : t113 = true
  ·subst c7; replace H := ifT_ H; obtain rfl := Option.some.inj H; go_enter Tryd.func101, Tryd.ntmps101; go_wp2_with (first | ((with_reducible refine gc_ 107 rfl ?_); refine gl_ 8 Tryd.func107 #[.string a0] ?_; (with_reducible refine (cmp_isNaN_string.calls a0 false _ A3.out).mono ?_); rintro e w' ⟨rfl, ⟨nd, rfl⟩⟩; refine ⟨_, rfl, ?_⟩) | ((with_reducible refine gc_ 107 rfl ?_); refine gl_ 10 Tryd.func107 #[.string a1] ?_; (with_reducible refine (cmp_isNaN_string.calls a1 true _ A4.out).mono ?_); rintro e w' ⟨rfl, ⟨nd, rfl⟩⟩; refine ⟨_, rfl, ?_⟩)); go_ret; exact ⟨q6_, q9_⟩
  ·replace c7 := Bool.eq_false_iff.mpr c7; subst c7; replace H := ifF_ H
   by_cases c8 : (Op.bytesLess a0.toList a1.toList) = true
   ·rw [if_pos c8] at H; have c8b0 : (Op.bytesLess a0.toList a1.toList) = true := c8; clear c8; obtain rfl := Option.some.inj H; go_enter Tryd.func101, Tryd.ntmps101; go_wp2_with (first | ((with_reducible refine gc_ 107 rfl ?_); refine gl_ 8 Tryd.func107 #[.string a0] ?_; (with_reducible refine (cmp_isNaN_string.calls a0 false _ A3.out).mono ?_); rintro e w' ⟨rfl, ⟨nd, rfl⟩⟩; refine ⟨_, rfl, ?_⟩) | ((with_reducible refine gc_ 107 rfl ?_); refine gl_ 10 Tryd.func107 #[.string a1] ?_; (with_reducible refine (cmp_isNaN_string.calls a1 false _ A4.out).mono ?_); rintro e w' ⟨rfl, ⟨nd, rfl⟩⟩; refine ⟨_, rfl, ?_⟩)); go_ret; exact ⟨q6_, q9_⟩
   ·rw [if_neg c8] at H; have c8b0 : (Op.bytesLess a0.toList a1.toList) = false := by simpa using c8
    clear c8
    by_cases c9 : (Op.bytesLess a1.toList a0.toList) = true
    ·rw [if_pos c9] at H; have c9b0 : (Op.bytesLess a1.toList a0.toList) = true := c9; clear c9; obtain rfl := Option.some.inj H; go_enter Tryd.func101, Tryd.ntmps101; go_wp2_with (first | ((with_reducible refine gc_ 107 rfl ?_); refine gl_ 8 Tryd.func107 #[.string a0] ?_; (with_reducible refine (cmp_isNaN_string.calls a0 false _ A3.out).mono ?_); rintro e w' ⟨rfl, ⟨nd, rfl⟩⟩; refine ⟨_, rfl, ?_⟩) | ((with_reducible refine gc_ 107 rfl ?_); refine gl_ 10 Tryd.func107 #[.string a1] ?_; (with_reducible refine (cmp_isNaN_string.calls a1 false _ A4.out).mono ?_); rintro e w' ⟨rfl, ⟨nd, rfl⟩⟩; refine ⟨_, rfl, ?_⟩)); go_ret; exact ⟨q6_, q9_⟩
    ·rw [if_neg c9] at H; have c9b0 : (Op.bytesLess a1.toList a0.toList) = false := by simpa using c9
     clear c9; obtain rfl := Option.some.inj H; go_enter Tryd.func101, Tryd.ntmps101; go_wp2_with (first | ((with_reducible refine gc_ 107 rfl ?_); refine gl_ 8 Tryd.func107 #[.string a0] ?_; (with_reducible refine (cmp_isNaN_string.calls a0 false _ A3.out).mono ?_); rintro e w' ⟨rfl, ⟨nd, rfl⟩⟩; refine ⟨_, rfl, ?_⟩) | ((with_reducible refine gc_ 107 rfl ?_); refine gl_ 10 Tryd.func107 #[.string a1] ?_; (with_reducible refine (cmp_isNaN_string.calls a1 false _ A4.out).mono ?_); rintro e w' ⟨rfl, ⟨nd, rfl⟩⟩; refine ⟨_, rfl, ?_⟩)); go_ret; exact ⟨q6_, q9_⟩
def zbu.f (k : Nat) (a0_0 : Int) (a0_1 : Int) (a0_2 : ByteArray) (a1_0 : Int) (a1_1 : Int) (a1_2 : ByteArray) : Option (Int) := (cmp_Compare_int.f a0_0 a1_0).bind fun t116 => ((cmp_Compare_int.f a0_1 a1_1).bind fun t117 => ((zcu.f a0_2 a1_2).bind fun t118 => ((zbw.f k (([t116, t117, t118] : List Int))).bind fun t122 => (some t122))))
theorem zbu.mono : ∀ a0 a1 a2 a3 a4 a5 k, LeO (zbu.f k a0 a1 a2 a3 a4 a5) (zbu.f (k + 1) a0 a1 a2 a3 a4 a5) := by
 intro a0 a1 a2 a3 a4 a5 k
 unfold zbu.f
 with_reducible repeat' first
   | apply zbw.mono
   | apply LeO.refl
   | apply LeO.none
   | refine LeO.ite ?_ ?_
   | refine LeO.bind ?_ (fun _ => ?_)
def zbu.T1 : Bool × List (List Nat × List Nat) := (true, [([], []), ([0], [0]), ([], []), ([2], [2]), ([1, 3], [1, 3]), ([], []), ([5], [5]), ([], []), ([7], [7]), ([6, 8, 4], [6, 8]), ([], []), ([10], [10]), ([], []), ([12], [12]), ([11, 13, 9], [11, 13]), ([4, 9, 14], [4, 9, 14]), ([15, 14], [15]), ([16, 16, 0, 1, 2, 3, 4, 5, 6, 7, 8, 9, 10, 11, 12, 13, 14, 15, 16], [16])])
def zbu.B1 : List Nat := [0, 1, 0, 4, 15, 0, 32, 0, 128, 511, 0, 1024, 0, 4096, 16383, 32767, 65535, 131071]
theorem zbu.tab1 : rtab .any (opsOf Tryd.f93 1) = zbu.T1 := by kernel_rfl
theorem zbu.bits1 : zgs zbu.T1.2 zbu.B1 = true := by kernel_rfl
theorem zbu.calls (k : Nat) (a0_0 : Int) (a0_1 : Int) (a0_2 : ByteArray) (a1_0 : Int) (a1_1 : Int) (a1_2 : ByteArray) (r : Int) (w : World) (h : zbu.f k a0_0 a0_1 a0_2 a1_0 a1_1 a1_2 = some r) :
  Calls Tryd.prog 93 #[.agg #[.int .i64 a0_0, .int .i64 a0_1, .string a0_2], .agg #[.int .i64 a1_0, .int .i64 a1_1, .string a1_2]] w fun e w' => e = .returned (.int .i64 r) ∧ Below w.heap.size w w' := by
 have hu105 := Tryd.underlying105; have HB := ak_ (Below.refl w.heap.size w); have H := h; unfold zbu.f at H; clear h; obtain ⟨t116, A3, H⟩ := bi_ H; try dsimp only at H
 obtain ⟨t117, A4, H⟩ := bi_ H; try dsimp only at H
 obtain ⟨t118, A5, H⟩ := bi_ H; replace H : ((zbw.f k (([t116, t117, t118] : List Int))).bind fun t122 => (some t122)) = some r := H; obtain ⟨y119, hy119⟩ : ∃ y_ : List Int, y_ = (([t116, t117, t118] : List Int)) := ⟨_, rfl⟩; replace H : ((zbw.f k y119).bind fun t122 => (some t122)) = some r := by first | (rw [hy119]; with_reducible exact H) | (have H2_ := (Option.bind_some _ _).symm.trans H; rw [hy119]; with_reducible exact H2_) | (have H2_ := (Option.bind_some _ _).symm.trans H; with_reducible exact H2_) | with_reducible exact H | (rw [hy119]; exact H) | exact H
 have Ny119 := ak_ hy119; clear hy119; obtain ⟨t122, A6, H⟩ := bi_ H; replace H : (some t122) = some r := H; obtain rfl := Option.some.inj H; go_enter Tryd.func93, Tryd.ntmps93; try go_wp2_with (first | ((with_reducible refine gd_ 2 rfl ?_); refine by_ #[.int .i64 a0_0, .int .i64 a0_1, .string a0_2] 105 ?_; intro gb114 hg w7 BK114 hb; have GE114 := gw_ hg; replace HB := bs_ hb; clear hb hg) | ((with_reducible refine gd_ 3 rfl ?_); refine by_ #[.int .i64 a1_0, .int .i64 a1_1, .string a1_2] 105 ?_; intro gb115 hg w8 BK115 hb; have GE115 := gw_ hg; have NB114_115 := nl_ hg q49_; have NB115_114 := ne_ NB114_115; replace BK114 := bb_ q49_ hb; replace HB := bs_ hb; clear hb hg))
 replace BK114 := dB_ BK114; replace BK115 := dB_ BK115; replace HB := ak_ (zbn HB.out); refine zfi (n := 18) (S := fun w' => w'.cell? ⟨gb114, 0, none⟩ = some (.int .i64 a0_0) ∧ w'.cell? ⟨gb114, 1, none⟩ = some (.int .i64 a0_1) ∧ w'.cell? ⟨gb114, 2, none⟩ = some (.string a0_2) ∧ w'.cell? ⟨gb115, 0, none⟩ = some (.int .i64 a1_0) ∧ w'.cell? ⟨gb115, 1, none⟩ = some (.int .i64 a1_1) ∧ w'.cell? ⟨gb115, 2, none⟩ = some (.string a1_2)) (ds := []) (bz 18 0) (by kernel_rfl) rfl rfl ⟨bt_ BK114.out 0, bt_ BK114.out 1, bt_ BK114.out 2, bt_ BK115.out 0, bt_ BK115.out 1, bt_ BK115.out 2⟩ (fun hHeld => ?_); refine zcw zbu.tab1 zbu.bits1 (fun HT_ HW_ => ?_); generalize w8.drew = w9 at BK114 BK115 HB hHeld ⊢; refine pz_ 0 5 (bz 18 1) ?_; refine pz_ 2 7 b1_2 ?_; refine pz_ 5 10 b1_3 ?_; refine pz_ 7 12 b1_4 ?_; refine pz_ 10 15 b1_5 ?_; refine pz_ 12 17 b1_6 ?_; refine tz6_ 1 6 b1_7 hHeld ?_; refine tz6_ 3 8 b1_8 hHeld ?_; refine tz6_ 6 11 b1_9 hHeld ?_; refine tz6_ 8 13 b1_10 hHeld ?_; refine tz6_ 11 16 b1_11 hHeld ?_; refine tz6_ 13 18 b1_12 hHeld ?_; refine oz_ 4 (some 9) b1_13 (fun K hK => ?_); refine go1_ Tryd.func94 #[.int .i64 a0_0, .int .i64 a1_0] ?_; (with_reducible refine (cmp_Compare_int.calls a0_0 a1_0 t116 _ A3.out).mono ?_); rintro e w' ⟨rfl, ⟨nd, rfl⟩⟩; refine ⟨_, rfl, ?_⟩; refine hK.out _ _ ⟨bt_ BK114.out 0, bt_ BK114.out 1, bt_ BK114.out 2, bt_ BK115.out 0, bt_ BK115.out 1, bt_ BK115.out 2⟩ (fun hHeld => ?_); clear hK K; refine nz_ ?_; refine oz_ 9 (some 14) (bz 18 14) (fun K hK => ?_); refine go1_ Tryd.func94 #[.int .i64 a0_1, .int .i64 a1_1] ?_; (with_reducible refine (cmp_Compare_int.calls a0_1 a1_1 t117 _ A4.out).mono ?_); rintro e w' ⟨rfl, ⟨nd, rfl⟩⟩; refine ⟨_, rfl, ?_⟩; refine hK.out _ _ ⟨bt_ BK114.out 0, bt_ BK114.out 1, bt_ BK114.out 2, bt_ BK115.out 0, bt_ BK115.out 1, bt_ BK115.out 2⟩ (fun hHeld => ?_); clear hK K; refine nz_ ?_; refine oz_ 14 (some 19) (bz 18 15) (fun K hK => ?_); refine go1_ Tryd.func101 #[.string a0_2, .string a1_2] ?_; (with_reducible refine (zcu.calls a0_2 a1_2 t118 _ A5.out).mono ?_); rintro e w' ⟨rfl, ⟨nd, rfl⟩⟩; refine ⟨_, rfl, ?_⟩; refine hK.out _ _ ⟨bt_ BK114.out 0, bt_ BK114.out 1, bt_ BK114.out 2, bt_ BK115.out 0, bt_ BK115.out 1, bt_ BK115.out 2⟩ (fun hHeld => ?_); clear hK K; refine nz_ ?_; refine oz_ 15 (some 20) (bz 18 16) (fun K hK => ?_); refine Kd.R_lit_step (Kd.int .i64) _ 3 ?hg (N := 20) ?hd (xs := ([t116, t117, t118] : List Int)) (inner := [.int .i64 t116, .int .i64 t117, .int .i64 t118]) (ok := fun _ => True) (okp := fun _ => True) ?hr ?hp (fun _ hk => hk) trivial (Below.refl _ _) (Nat.le_refl _) (by simp) ?_; (case hd => rfl); (case hg => rfl); (case hr => first | (go_simp; done) | (go_simp; rfl))
 (case hp => exact (Reps.one (show Kd.M (Kd.int .i64) _ _ _ t116 [.int .i64 t116] from rfl) (Reps.one (show Kd.M (Kd.int .i64) _ _ _ t117 [.int .i64 t117] from rfl) (Reps.one (show Kd.M (Kd.int .i64) _ _ _ t118 [.int .i64 t118] from rfl) (Reps.none _ _))))); intro v120 w10 ho11 hb hg_ hnew_; clear hg_ hnew_; (first | rw [← Ny119.out] at ho11 | (simp only [Int.reduceToNat] at ho11; rw [← Ny119.out] at ho11)); have HO121 := ak_ (Kd.R_lower ho11 (zcb q0_)); replace BK114 := bb_ q49_ hb; replace BK115 := ak_ (zfl (g := gb115) (o := .cells #[.int .i64 a1_0, .int .i64 a1_1, .string a1_2] 105 (0, 0)) (by (with_reducible repeat first | apply bN_ | apply bD_ | apply bA_); exact BK115.out) hb); replace HB := bs_ hb; clear hb ho11; obtain ⟨Ao12, co12, eo12⟩ := Kd.R_slice HO121.out; (first | subst eo12 | (injection eo12 with f1_ f2_ f3_; have f4_ := f1_.symm; have f5_ := f3_.symm; clear f1_ f2_ f3_; subst f4_; subst f5_)); refine hK.out _ _ ⟨bt_ BK114.out 0, bt_ BK114.out 1, bt_ BK114.out 2, bt_ BK115.out 0, bt_ BK115.out 1, bt_ BK115.out 2⟩ (fun hHeld => ?_); clear hK K; refine nz_ ?_; refine oz_ 16 (some 21) (bz 18 17) (fun K hK => ?_); refine go1_ Tryd.func100 #[.slice Ao12 y119.length co12] ?_; (with_reducible refine (zbw.calls k _ _ y119 t122 _ ?side1 ?side2 A6.out).mono ?_); (case side1 => exact cx_ ((Kd.zfv HO121.out).2.2)); (case side2 => exact (Kd.zfv HO121.out).2.1); rintro e w' ⟨rfl, ⟨nd, rfl⟩⟩; refine ⟨_, rfl, ?_⟩; refine hK.out _ _ ⟨bt_ BK114.out 0, bt_ BK114.out 1, bt_ BK114.out 2, bt_ BK115.out 0, bt_ BK115.out 1, bt_ BK115.out 2⟩ (fun hHeld => ?_); clear hK K; refine nz_ ?_; refine pz_ 17 4 (bz 18 18) ?_; refine zfq (zdd HT_.out (by kernel_rfl)) ?_; try go_wp2
 go_ret; exact ⟨q5_, q0_⟩

end Go.Proofs.YtchpbnabbjdfgaaDoor.P
