-- HALVED
import Derived.Test.YtnggdcdiachkpaaDoorPx0
import Derived.Test.YtnggdcdiachkpaaDoorPx4
namespace Go.Proofs.YtnggdcdiachkpaaDoor.P
open Go.RowKit Go.Proofs.YtnggdcdiachkpaaDoorW.PrintWords Go.Proofs.YtnggdcdiachkpaaDoorW.PrintLast Go.Proofs.YtnggdcdiachkpaaDoorW.PrintMore
attribute [local go_sem] zdl zeh zee zed zdc zdb zdn zdk   -- for this text's walks alone
set_option linter.unusedVariables false
set_option linter.unusedSimpArgs false
set_option maxHeartbeats 8000000
set_option maxRecDepth 100000
def zay.l0 : Nat → List (S48) → Int → Int → Option (Int)
 | 0, _, _, _ => none
 | k + 1, x0, x7, x8 => if x8 < x7 then (if 0 ≤ x8 then (if x8 < (x0.length : Int) then ((zhp.f ((zak x0 x8).f0) ((zak x0 x8).f1) ((zak x0 x8).f2)).bind fun t132 => (if t132 = true then (some x8) else (zay.l0 k x0 x7 (wrap64 (x8 + 1))))) else (none)) else (none)) else (some (-1))
def zay.f (k : Nat) (l0 : List (S48))  : Option (Int) := zay.l0 k l0 (l0.length : Int) 0
theorem zay.zci : ∀ k, (∀ y0 y1 y2, LeO (zay.l0 k y0 y1 y2) (zay.l0 (k + 1) y0 y1 y2))
 | 0 => fun _ _ _ r h => by simp [zay.l0] at h
 | k + 1 => by
  have ih0 := zay.zci k
  ·intro y0 y1 y2
   unfold zay.l0
   with_reducible repeat' first
   | apply ih0
   | apply LeO.refl
   | apply LeO.none
   | refine LeO.ite ?_ ?_
   | refine LeO.bind ?_ (fun _ => ?_)
theorem zay.mono : ∀ a0 k, LeO (zay.f k a0) (zay.f (k + 1) a0) := by
 intro a0 k
 have ih0 := zay.zci k
 unfold zay.f
 with_reducible repeat' first
   | apply ih0
   | apply LeO.refl
   | apply LeO.none
   | refine LeO.ite ?_ ?_
   | refine LeO.bind ?_ (fun _ => ?_)
theorem zay.calls (k : Nat) (A0 : Option Addr) (c0 : Nat) (l0 : List (S48))  (r : Int) (w : World) (hr0 : Kd.C k48 w A0 l0.length l0) (hc0 : l0.length ≤ c0) (h : zay.f k l0 = some r) (hG : Glob w) :
  Calls Tryd.prog 70 #[.slice A0 l0.length c0, (.func (.func 38) #[] #[])] w fun e w' => e = .returned (.int .i64 r) ∧ Below w.heap.size w w' := by
 have hu48 := Tryd.underlying48; have HG := ak_ hG; clear hG; have HR0 := ak_ hr0; have HC0 := ak_ hc0; clear hr0 hc0; have HB := ak_ (Below.refl w.heap.size w); have H : (zay.l0 k l0 (l0.length : Int) 0) = some r := h; clear h; have H' := ak_ H; clear H; go_enter Tryd.func70, Tryd.ntmps70; go_wp2; go_loopg [8] k (fun kq v8 w' => ∃ (x8_1 : Int), v8 = .int .i64 x8_1 ∧ zag (zay.l0 kq l0 (l0.length : Int) x8_1 = some r) ∧ zag (kq ≤ k) ∧ zag (Below w.heap.size w w'))
 case atStart => exact ⟨(0), q6_, H', ⟨Nat.le_refl _⟩, ⟨q0_⟩⟩
 case round =>
  clear H'; obtain ⟨x8_1, rfl, HA, HK1, HB⟩ := hrel
  cases gk with
  | zero => exact absurd HA.out (by simp [zay.l0])
  | succ k1 =>
   have H := HA.out; clear HA; simp only [zay.l0] at H
   by_cases c3 : x8_1 < (l0.length : Int)
   ·rw [if_pos c3] at H; have c3b0 := decide_eq_true c3; clear c3
    by_cases c4 : 0 ≤ x8_1
    ·rw [if_pos c4] at H; have c4b0 := decide_eq_true c4; clear c4
     by_cases c5 : x8_1 < (l0.length : Int)
     ·rw [if_pos c5] at H; have c5b0 := decide_eq_true c5; clear c5; obtain ⟨t132, A6, H⟩ := bi_ H; try dsimp only at H
      have p131 : 0 ≤ (x8_1 : Int) := of_decide_eq_true q5_; have q131 : x8_1 < (l0.length : Int) := of_decide_eq_true q5_; obtain ⟨ad131, e131, hx131_0, hx131_1, hx131_2⟩ := zhz HR0.out x8_1 p131 q131; cases e131; replace hx131_0 := hc_ HB.out hx131_0; replace hx131_1 := hc_ HB.out hx131_1; replace hx131_2 := hc_ HB.out hx131_2; replace p131 := eq_true p131; replace q131 := eq_true q131
      by_cases c7 : t132 = true
      ·subst c7; replace H := ifT_ H; obtain rfl := Option.some.inj H; go_wp2_with (first | ((with_reducible refine zej (t := 11) rfl ?_); refine ziz (some 16) rfl rfl Tryd.func38 (by kernel_rfl) rfl #[.agg #[.int .i64 ((zak l0 x8_1).f0), .int .i64 ((zak l0 x8_1).f1), .string ((zak l0 x8_1).f2)]] rfl (by rfl) q2_ ?_; (with_reducible refine ca_ (zhp.calls ((zak l0 x8_1).f0) ((zak l0 x8_1).f1) ((zak l0 x8_1).f2) true _ A6.out q11_) ?_); intro w8 hb; replace HB := bs_ hb; clear hb)); go_ret; exact ⟨q3_, q0_⟩
      ·replace c7 := Bool.eq_false_iff.mpr c7; subst c7; replace H := ifF_ H; have H' := ak_ H; clear H; go_wp2_with (first | ((with_reducible refine zej (t := 11) rfl ?_); refine ziz (some 16) rfl rfl Tryd.func38 (by kernel_rfl) rfl #[.agg #[.int .i64 ((zak l0 x8_1).f0), .int .i64 ((zak l0 x8_1).f1), .string ((zak l0 x8_1).f2)]] rfl (by rfl) q2_ ?_; (with_reducible refine ca_ (zhp.calls ((zak l0 x8_1).f0) ((zak l0 x8_1).f1) ((zak l0 x8_1).f2) false _ A6.out q11_) ?_); intro w9 hb; replace HB := bs_ hb; clear hb)); go_roundg k1
       case measure => have := HK1.out; omega
       case rel => exact ⟨(wrap64 (x8_1 + 1)), q6_, H', ⟨kq_⟩, ⟨q0_⟩⟩
     ·rw [if_neg c5] at H; exact absurd H (by simp)
    ·rw [if_neg c4] at H; exact absurd H (by simp)
   ·rw [if_neg c3] at H; have c3b0 := decide_eq_false c3; clear c3; obtain rfl := Option.some.inj H; go_wp2; go_ret; exact ⟨q3_, q0_⟩
def zbl.f (k : Nat) (l0 : List (S48))  : Option (Bool) := (zay.f k l0).bind fun t133 => (some (decide (t133 ≥ 0)))
theorem zbl.mono : ∀ a0 k, LeO (zbl.f k a0) (zbl.f (k + 1) a0) := by
 intro a0 k
 unfold zbl.f
 with_reducible repeat' first
   | apply zay.mono
   | apply LeO.refl
   | apply LeO.none
   | refine LeO.ite ?_ ?_
   | refine LeO.bind ?_ (fun _ => ?_)
theorem zbl.calls (k : Nat) (A0 : Option Addr) (c0 : Nat) (l0 : List (S48))  (r : Bool) (w : World) (hr0 : Kd.C k48 w A0 l0.length l0) (hc0 : l0.length ≤ c0) (h : zbl.f k l0 = some r) (hG : Glob w) :
  Calls Tryd.prog 37 #[.slice A0 l0.length c0, (.func (.func 38) #[] #[])] w fun e w' => e = .returned (.bool r) ∧ Below w.heap.size w w' := by
 have HG := ak_ hG; clear hG; have HR0 := ak_ hr0; have HC0 := ak_ hc0; clear hr0 hc0; have HB := ak_ (Below.refl w.heap.size w); have H : ((zay.f k l0).bind fun t133 => (some (decide (t133 ≥ 0)))) = some r := h; clear h; obtain ⟨t133, A3, H⟩ := bi_ H; replace H : (some (decide (t133 ≥ 0))) = some r := H; obtain rfl := Option.some.inj H; go_enter Tryd.func37, Tryd.ntmps37; go_wp2_with (first | ((with_reducible refine gc_ 70 rfl ?_); refine gl_ 7 Tryd.func70 #[.slice A0 l0.length c0, (.func (.func 38) #[] #[])] ?_; (with_reducible refine ca_ (zay.calls k _ _ l0  t133 _ ?side1 HC0.out A3.out q11_) ?_); (case side1 => exact cx_ HR0.out); intro w4 hb; replace HB := bs_ hb; clear hb)); go_ret; exact ⟨q3_, q0_⟩

end Go.Proofs.YtnggdcdiachkpaaDoor.P
