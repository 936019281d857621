-- HALVED
import Derived.Test.YtnggdcdiachkpaaDoorPx0
namespace Go.Proofs.YtnggdcdiachkpaaDoor.P
open Go.RowKit Go.Proofs.YtnggdcdiachkpaaDoorW.PrintWords Go.Proofs.YtnggdcdiachkpaaDoorW.PrintLast Go.Proofs.YtnggdcdiachkpaaDoorW.PrintMore
attribute [local go_sem] zdl zeh zee zed zdc zdb zdn zdk   -- for this text's walks alone
set_option linter.unusedVariables false
set_option linter.unusedSimpArgs false
set_option maxHeartbeats 8000000
set_option maxRecDepth 100000

theorem eqA48 (d : Nat) (w : World) (x0 y0 : Int) (x1 y1 : Int) (x2 y2 : ByteArray) :
  (Op.equalIn (d + 2) 48 (.agg #[.int .i64 x0, .int .i64 x1, .string x2]) (.agg #[.int .i64 y0, .int .i64 y1, .string y2])).run Tryd.prog w = .ok (x0 == y0 && (x1 == y1 && (x2.toList == y2.toList))) w := by
 refine eqA_of Tryd.underlying48 (by kernel_rfl) ?_
 refine eqf_cons (by rfl) (by go_simp; rfl) (by go_simp; rfl) (by go_simp) ?_
 refine eqf_cons (by rfl) (by go_simp; rfl) (by go_simp; rfl) (by go_simp) ?_
 exact eqf_last (by rfl) (by go_simp; rfl) (by go_simp; rfl) (by go_simp)
def zbc.l0 : Nat → List (S54) → Int → Option (Bool)
 | 0, _, _ => none
 | k + 1, x0, x3 => if x3 < (x0.length : Int) then (if 0 ≤ x3 then (if (((zah x0 x3).f0).length : Int) > 40 then (some false) else (zbc.l0 k x0 (wrap64 (x3 + 1)))) else (none)) else (some true)
def zbc.f (k : Nat) (l0 : List (S54)) : Option (Bool) := if (l0.length : Int) > 60 then (some false) else (zbc.l0 k l0 0)
theorem zbc.zci : ∀ k, (∀ y0 y1, LeO (zbc.l0 k y0 y1) (zbc.l0 (k + 1) y0 y1))
 | 0 => fun _ _ r h => by simp [zbc.l0] at h
 | k + 1 => by
  have ih0 := zbc.zci k
  ·intro y0 y1
   unfold zbc.l0
   with_reducible repeat' first
   | apply ih0
   | apply LeO.refl
   | apply LeO.none
   | refine LeO.ite ?_ ?_
   | refine LeO.bind ?_ (fun _ => ?_)
theorem zbc.mono : ∀ a0 k, LeO (zbc.f k a0) (zbc.f (k + 1) a0) := by
 intro a0 k
 have ih0 := zbc.zci k
 unfold zbc.f
 with_reducible repeat' first
   | apply ih0
   | apply LeO.refl
   | apply LeO.none
   | refine LeO.ite ?_ ?_
   | refine LeO.bind ?_ (fun _ => ?_)
theorem zbc.calls (k : Nat) (A0 : Option Addr) (c0 : Nat) (l0 : List (S54)) (r : Bool) (w : World) (hr0 : Kd.C k54 w A0 l0.length l0) (hc0 : l0.length ≤ c0) (h : zbc.f k l0 = some r) :
  Calls Tryd.prog 19 #[.slice A0 l0.length c0] w fun e w' => e = .returned (.bool r) ∧ zeo w w' := by
 have HR0 := ak_ hr0; have HC0 := ak_ hc0; clear hr0 hc0; have H : (if (l0.length : Int) > 60 then (some false) else (zbc.l0 k l0 0)) = some r := h; clear h; go_enter Tryd.func19, Tryd.ntmps19
 by_cases c2 : (l0.length : Int) > 60
 ·rw [if_pos c2] at H; have c2b0 : decide (60 < (l0.length : Int)) = true := decide_eq_true c2; have c2b1 : decide (60 < l0.length) = true := decide_eq_true (by omega); clear c2; obtain rfl := Option.some.inj H; go_wp2; go_ret; exact ⟨q6_, q18_⟩
 ·rw [if_neg c2] at H; have c2b0 : decide (60 < (l0.length : Int)) = false := decide_eq_false c2; have c2b1 : decide (60 < l0.length) = false := decide_eq_false (by omega); clear c2; have H' := ak_ H; clear H; go_wp2; go_loopg [3] k (fun kq v3 w' => ∃ (x3_1 : Int), v3 = .int .i64 x3_1 ∧ zag (zbc.l0 kq l0 x3_1 = some r) ∧ zag (kq ≤ k) ∧ zeo w w')
  case atStart => exact ⟨(0), q6_, H', ⟨Nat.le_refl _⟩, q18_⟩
  case round =>
   clear H'; (try clear c2b0 c2b1); obtain ⟨x3_1, rfl, HA, HK1, ⟨m1, rfl⟩⟩ := hrel
   cases gk with
   | zero => exact absurd HA.out (by simp [zbc.l0])
   | succ k1 =>
    have H := HA.out; clear HA; simp only [zbc.l0] at H
    by_cases c3 : x3_1 < (l0.length : Int)
    ·rw [if_pos c3] at H; have c3b0 := decide_eq_true c3; clear c3
     by_cases c4 : 0 ≤ x3_1
     ·rw [if_pos c4] at H; have c4b0 := decide_eq_true c4; clear c4; have p101 : 0 ≤ (x3_1 : Int) := of_decide_eq_true q5_; have q101 : x3_1 < (l0.length : Int) := of_decide_eq_true q5_; obtain ⟨ad101, A101_0, c101_0, e101, hx101_0, hx101_1, hl101_0, hi101_0⟩ := zfw HR0.out x3_1 p101 q101; cases e101; have HR101_0 := ak_ hi101_0; have HC101_0 := ak_ hl101_0; clear hi101_0 hl101_0; replace p101 := eq_true p101; replace q101 := eq_true q101
      by_cases c5 : (((zah l0 x3_1).f0).length : Int) > 40
      ·rw [if_pos c5] at H; have c5b0 : decide (40 < (((zah l0 x3_1).f0).length : Int)) = true := decide_eq_true c5; have c5b1 : decide (40 < ((zah l0 x3_1).f0).length) = true := decide_eq_true (by omega); clear c5; obtain rfl := Option.some.inj H; go_wp2; go_ret; exact ⟨q6_, q18_⟩
      ·rw [if_neg c5] at H; have c5b0 : decide (40 < (((zah l0 x3_1).f0).length : Int)) = false := decide_eq_false c5; have c5b1 : decide (40 < ((zah l0 x3_1).f0).length) = false := decide_eq_false (by omega); clear c5; have H' := ak_ H; clear H; go_wp2; go_roundg k1
       case measure => have := HK1.out; omega
       case rel => exact ⟨(wrap64 (x3_1 + 1)), q6_, H', ⟨kq_⟩, q18_⟩
     ·rw [if_neg c4] at H; exact absurd H (by simp)
    ·rw [if_neg c3] at H; have c3b0 := decide_eq_false c3; clear c3; obtain rfl := Option.some.inj H; go_wp2; go_ret; exact ⟨q6_, q18_⟩

end Go.Proofs.YtnggdcdiachkpaaDoor.P
