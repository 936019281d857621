-- HALVED
import Derived.Test.YtchpbnabbjdfgaaDoorPx0
import Derived.Test.YtchpbnabbjdfgaaDoorPx1
namespace Go.Proofs.YtchpbnabbjdfgaaDoor.P
open Go.RowKit Go.Proofs.YtchpbnabbjdfgaaDoorW.PrintWords Go.Proofs.YtchpbnabbjdfgaaDoorW.PrintLast Go.Proofs.YtchpbnabbjdfgaaDoorW.PrintMore
attribute [local go_sem] zeb zfe zfa zfb zdl zdm zec zed   -- for this text's walks alone
set_option linter.unusedVariables false
set_option linter.unusedSimpArgs false
set_option maxHeartbeats 8000000
set_option maxRecDepth 100000

abbrev b19_4 := sb_ (bz 10 3) 4
abbrev b19_5 := sb_ b19_4 5
abbrev b19_6 := sb_ b19_5 6
def zbe.l0 : Nat → List (S105) → List (S105) → Int → Int → Option (Int)
 | 0, _, _, _, _ => none
 | k + 1, x0, x1, x11, x12 => if x12 < x11 then (if 0 ≤ x12 then (if x12 < (x0.length : Int) then (if x12 < (x1.length : Int) then ((zbu.f k ((zbj x0 x12).f0) ((zbj x0 x12).f1) ((zbj x0 x12).f2) ((zbj x1 x12).f0) ((zbj x1 x12).f1) ((zbj x1 x12).f2)).bind fun t126 => (if t126 = 0 then (zbe.l0 k x0 x1 x11 (wrap64 (x12 + 1))) else (some t126))) else (none)) else (none)) else (none)) else ((cmp_Compare_int.f (x0.length : Int) (x1.length : Int)).bind fun t123 => (some t123))
def zbe.f (k : Nat) (l0 : List (S105)) (l1 : List (S105)) : Option (Int) := zbe.l0 k l0 l1 (mn (l0.length : Int) (l1.length : Int)) 0
theorem zbe.zby : ∀ k, (∀ y0 y1 y2 y3, LeO (zbe.l0 k y0 y1 y2 y3) (zbe.l0 (k + 1) y0 y1 y2 y3))
 | 0 => fun _ _ _ _ r h => by simp [zbe.l0] at h
 | k + 1 => by
  have ih0 := zbe.zby k
  ·intro y0 y1 y2 y3
   unfold zbe.l0
   with_reducible repeat' first
   | apply ih0
   | apply zbu.mono
   | apply LeO.refl
   | apply LeO.none
   | refine LeO.ite ?_ ?_
   | refine LeO.bind ?_ (fun _ => ?_)
theorem zbe.mono : ∀ a0 a1 k, LeO (zbe.f k a0 a1) (zbe.f (k + 1) a0 a1) := by
 intro a0 a1 k
 have ih0 := zbe.zby k
 unfold zbe.f
 with_reducible repeat' first
   | apply ih0
   | apply zbu.mono
   | apply LeO.refl
   | apply LeO.none
   | refine LeO.ite ?_ ?_
   | refine LeO.bind ?_ (fun _ => ?_)
def zbe.T4 : Bool × List (List Nat × List Nat) := (true, [([], []), ([], []), ([0, 1], [0, 1]), ([2], [2]), ([], []), ([], []), ([4, 5], [4, 5]), ([6], [6]), ([3, 7], [3, 7]), ([8, 8, 0, 1, 2, 3, 4, 5, 6, 7, 8], [8])])
def zbe.B4 : List Nat := [0, 0, 3, 7, 0, 0, 48, 112, 255, 511]
theorem zbe.tab4 : rtab .any (opsOf Tryd.f76 4) = zbe.T4 := by kernel_rfl
theorem zbe.bits4 : zgs zbe.T4.2 zbe.B4 = true := by kernel_rfl
theorem zbe.calls (k : Nat) (A0 : Option Addr) (c0 : Nat) (l0 : List (S105)) (A1 : Option Addr) (c1 : Nat) (l1 : List (S105)) (r : Int) (w : World) (hr0 : Kd.C k105 w A0 l0.length l0) (hc0 : l0.length ≤ c0) (hr1 : Kd.C k105 w A1 l1.length l1) (hc1 : l1.length ≤ c1) (h : zbe.f k l0 l1 = some r) :
  Calls Tryd.prog 76 #[.slice A0 l0.length c0, .slice A1 l1.length c1] w fun e w' => e = .returned (.int .i64 r) ∧ Below w.heap.size w w' := by
 have hu105 := Tryd.underlying105; have HR0 := ak_ hr0; have HC0 := ak_ hc0; clear hr0 hc0; have HR1 := ak_ hr1; have HC1 := ak_ hc1; clear hr1 hc1; have HB := ak_ (Below.refl w.heap.size w); have H : (zbe.l0 k l0 l1 (mn (l0.length : Int) (l1.length : Int)) 0) = some r := h; clear h; obtain ⟨ji3, hji3⟩ : ∃ j_ : Int, (mn (l0.length : Int) (l1.length : Int)) = j_ := ⟨_, rfl⟩; replace H : (zbe.l0 k l0 l1 ji3 0) = some r := by first | (rw [hji3] at H; exact H) | (simp only [hji3] at H ⊢; exact H)
 (try (have hji3l : 0 ≤ ji3 := by (rw [← hji3]; unfold mn; (repeat' split) <;> omega))); (try (have hji3m : 0 ≤ ji3 := by omega)); have hji3_ : (if (l1.length : Int) < (l0.length : Int) then (l1.length : Int) else (l0.length : Int)) = ji3 := hji3; have H' := ak_ H; clear H; go_enter Tryd.func76, Tryd.ntmps76; go_wp2; (try rw [hji3]); go_loopg [12] k (fun kq v12 w' => ∃ (x12_1 : Int), v12 = .int .i64 x12_1 ∧ zab (zbe.l0 kq l0 l1 ji3 x12_1 = some r) ∧ zab (kq ≤ k) ∧ zab (Below w.heap.size w w'))
 case atStart => exact ⟨(0), q6_, H', ⟨Nat.le_refl _⟩, ⟨q0_⟩⟩
 case round =>
  clear H'; obtain ⟨x12_1, rfl, HA, HK1, HB⟩ := hrel
  cases gk with
  | zero => exact absurd HA.out (by simp [zbe.l0])
  | succ k1 =>
   have H := HA.out; clear HA; simp only [zbe.l0] at H
   by_cases c4 : x12_1 < ji3
   ·rw [if_pos c4] at H; have c4b0 := decide_eq_true c4; clear c4
    by_cases c5 : 0 ≤ x12_1
    ·rw [if_pos c5] at H; have c5b0 := decide_eq_true c5; clear c5
     by_cases c6 : x12_1 < (l0.length : Int)
     ·rw [if_pos c6] at H; have c6b0 := decide_eq_true c6; clear c6
      by_cases c7 : x12_1 < (l1.length : Int)
      ·rw [if_pos c7] at H; have c7b0 := decide_eq_true c7; clear c7; obtain ⟨t126, A8, H⟩ := bi_ H; replace H : (if t126 = 0 then (zbe.l0 k1 l0 l1 ji3 (wrap64 (x12_1 + 1))) else (some t126)) = some r := H; try go_wp2
       replace HB := ak_ (zbn HB.out); have p124 : 0 ≤ (x12_1 : Int) := of_decide_eq_true q4_; have q124 : x12_1 < (l0.length : Int) := of_decide_eq_true q4_; obtain ⟨ad124, e124, hx124_0, hx124_1, hx124_2⟩ := at_T105 HR0.out x12_1 p124 q124; have hw124_2 := hx124_2; have hw124_1 := hx124_1; have hw124_0 := hx124_0; cases e124; replace hx124_0 := hc_ HB.out hx124_0; replace hx124_1 := hc_ HB.out hx124_1; replace hx124_2 := hc_ HB.out hx124_2; replace p124 := eq_true p124; replace q124 := eq_true q124; have p125 : 0 ≤ (x12_1 : Int) := of_decide_eq_true q4_; have q125 : x12_1 < (l1.length : Int) := of_decide_eq_true q4_; obtain ⟨ad125, e125, hx125_0, hx125_1, hx125_2⟩ := at_T105 HR1.out x12_1 p125 q125; have hw125_2 := hx125_2; have hw125_1 := hx125_1; have hw125_0 := hx125_0; cases e125; replace hx125_0 := hc_ HB.out hx125_0; replace hx125_1 := hc_ HB.out hx125_1; replace hx125_2 := hc_ HB.out hx125_2; replace p125 := eq_true p125; replace q125 := eq_true q125; refine zfi (n := 10) (S := fun w' => w'.cell? (ad124.add ((x12_1).toNat * 3)) = some (.int .i64 ((zbj l0 x12_1).f0)) ∧ w'.cell? ⟨(ad124.add ((x12_1).toNat * 3)).block, (ad124.add ((x12_1).toNat * 3)).off + 1, none⟩ = some (.int .i64 ((zbj l0 x12_1).f1)) ∧ w'.cell? ⟨(ad124.add ((x12_1).toNat * 3)).block, (ad124.add ((x12_1).toNat * 3)).off + 2, none⟩ = some (.string ((zbj l0 x12_1).f2)) ∧ w'.cell? (ad125.add ((x12_1).toNat * 3)) = some (.int .i64 ((zbj l1 x12_1).f0)) ∧ w'.cell? ⟨(ad125.add ((x12_1).toNat * 3)).block, (ad125.add ((x12_1).toNat * 3)).off + 1, none⟩ = some (.int .i64 ((zbj l1 x12_1).f1)) ∧ w'.cell? ⟨(ad125.add ((x12_1).toNat * 3)).block, (ad125.add ((x12_1).toNat * 3)).off + 2, none⟩ = some (.string ((zbj l1 x12_1).f2))) (ds := []) (bz 10 0) (by kernel_rfl) rfl rfl ⟨(hc_ HB.out hw124_0), (hc_ HB.out hw124_1), (hc_ HB.out hw124_2), (hc_ HB.out hw125_0), (hc_ HB.out hw125_1), (hc_ HB.out hw125_2)⟩ (fun hHeld => ?_); refine zcw zbe.tab4 zbe.bits4 (fun HT_ HW_ => ?_); generalize wr.drew = w10 at HB hx124_0 hx124_1 hx124_2 hx125_0 hx125_1 hx125_2 hHeld ⊢; refine pz_ 0 15 (bz 10 1) ?_; refine pz_ 1 16 (bz 10 2) ?_; refine pz_ 2 17 (bz 10 3) ?_; refine pz_ 4 19 b19_4 ?_; refine pz_ 5 20 b19_5 ?_; refine pz_ 6 21 b19_6 ?_; refine tz6_ 3 18 (bz 10 7) hHeld ?_; refine tz6_ 7 22 (bz 10 8) hHeld ?_; refine oz_ 8 (some 23) (bz 10 9) (fun K hK => ?_); refine go1_ Tryd.func93 #[.agg #[.int .i64 ((zbj l0 x12_1).f0), .int .i64 ((zbj l0 x12_1).f1), .string ((zbj l0 x12_1).f2)], .agg #[.int .i64 ((zbj l1 x12_1).f0), .int .i64 ((zbj l1 x12_1).f1), .string ((zbj l1 x12_1).f2)]] ?_; (with_reducible refine ca_ (zbu.calls k1 ((zbj l0 x12_1).f0) ((zbj l0 x12_1).f1) ((zbj l0 x12_1).f2) ((zbj l1 x12_1).f0) ((zbj l1 x12_1).f1) ((zbj l1 x12_1).f2) t126 _ A8.out) ?_); intro w11 hb; replace HB := bs_ hb; clear hb
       refine hK.out _ _ ⟨(hc_ HB.out hw124_0), (hc_ HB.out hw124_1), (hc_ HB.out hw124_2), (hc_ HB.out hw125_0), (hc_ HB.out hw125_1), (hc_ HB.out hw125_2)⟩ (fun hHeld => ?_); clear hK K; refine nz_ ?_
       by_cases c9 : t126 = 0
       ·rw [if_pos c9] at H; have c9b0 := bq_ c9; have c9b1 := bq0_ c9; clear c9; have H' := ak_ H; clear H; refine pz_ 9 6 (bz 10 10) ?_; refine zfq (zdd HT_.out (by kernel_rfl)) ?_; try go_wp2
        go_roundg k1
        case measure => have := HK1.out; omega
        case rel => exact ⟨(wrap64 (x12_1 + 1)), q6_, H', ⟨kq_⟩, ⟨q0_⟩⟩
       ·rw [if_neg c9] at H; have c9b0 := bn_ c9; have c9b1 := bn1_ c9; obtain rfl := Option.some.inj H; refine pz_ 9 6 (bz 10 10) ?_; refine zfq (zdd HT_.out (by kernel_rfl)) ?_; try go_wp2
        go_ret; exact ⟨by first | rfl | (simp [zco, zcp] <;> rfl) | (simp only [← hji3]; first | rfl | (simp [zco, zcp] <;> rfl)) | (simp [*, zco, zcp] <;> rfl), q0_⟩
      ·rw [if_neg c7] at H; exact absurd H (by simp)
     ·rw [if_neg c6] at H; exact absurd H (by simp)
    ·rw [if_neg c5] at H; exact absurd H (by simp)
   ·rw [if_neg c4] at H; have c4b0 := decide_eq_false c4; clear c4; obtain ⟨t123, A14, H⟩ := bi_ H; replace H : (some t123) = some r := H; obtain rfl := Option.some.inj H; go_wp2_with (first | ((with_reducible refine gc_ 94 rfl ?_); refine gl_ 32 Tryd.func94 #[.int .i64 (l0.length : Int), .int .i64 (l1.length : Int)] ?_; (with_reducible refine (cmp_Compare_int.calls (l0.length : Int) (l1.length : Int) t123 _ A14.out).mono ?_); rintro e w' ⟨rfl, ⟨nd, rfl⟩⟩; refine ⟨_, rfl, ?_⟩)); go_ret; exact ⟨by first | rfl | (simp [zco, zcp] <;> rfl) | (simp only [← hji3]; first | rfl | (simp [zco, zcp] <;> rfl)) | (simp [*, zco, zcp] <;> rfl), q0_⟩
def zaq.l0 : Nat → List (S105) → Int → Int → Option (Int)
 | 0, _, _, _ => none
 | k + 1, x0, x7, x8 => if x8 < x7 then (if 0 ≤ x8 then (if x8 < (x0.length : Int) then ((zgp.f ((zbj x0 x8).f0) ((zbj x0 x8).f1) ((zbj x0 x8).f2)).bind fun t128 => (if t128 = true then (some x8) else (zaq.l0 k x0 x7 (wrap64 (x8 + 1))))) else (none)) else (none)) else (some (-1))
def zaq.f (k : Nat) (l0 : List (S105))  : Option (Int) := zaq.l0 k l0 (l0.length : Int) 0
theorem zaq.zby : ∀ k, (∀ y0 y1 y2, LeO (zaq.l0 k y0 y1 y2) (zaq.l0 (k + 1) y0 y1 y2))
 | 0 => fun _ _ _ r h => by simp [zaq.l0] at h
 | k + 1 => by
  have ih0 := zaq.zby k
  ·intro y0 y1 y2
   unfold zaq.l0
   with_reducible repeat' first
   | apply ih0
   | apply LeO.refl
   | apply LeO.none
   | refine LeO.ite ?_ ?_
   | refine LeO.bind ?_ (fun _ => ?_)
theorem zaq.mono : ∀ a0 k, LeO (zaq.f k a0) (zaq.f (k + 1) a0) := by
 intro a0 k
 have ih0 := zaq.zby k
 unfold zaq.f
 with_reducible repeat' first
   | apply ih0
   | apply LeO.refl
   | apply LeO.none
   | refine LeO.ite ?_ ?_
   | refine LeO.bind ?_ (fun _ => ?_)
theorem zaq.calls (k : Nat) (A0 : Option Addr) (c0 : Nat) (l0 : List (S105))  (r : Int) (w : World) (hr0 : Kd.C k105 w A0 l0.length l0) (hc0 : l0.length ≤ c0) (h : zaq.f k l0 = some r) (hG : Glob w) :
  Calls Tryd.prog 91 #[.slice A0 l0.length c0, (.func (.func 75) #[] #[])] w fun e w' => e = .returned (.int .i64 r) ∧ Below w.heap.size w w' := by
 have hu105 := Tryd.underlying105; have HG := ak_ hG; clear hG; have HR0 := ak_ hr0; have HC0 := ak_ hc0; clear hr0 hc0; have HB := ak_ (Below.refl w.heap.size w); have H : (zaq.l0 k l0 (l0.length : Int) 0) = some r := h; clear h; have H' := ak_ H; clear H; go_enter Tryd.func91, Tryd.ntmps91; go_wp2; go_loopg [8] k (fun kq v8 w' => ∃ (x8_1 : Int), v8 = .int .i64 x8_1 ∧ zab (zaq.l0 kq l0 (l0.length : Int) x8_1 = some r) ∧ zab (kq ≤ k) ∧ zab (Below w.heap.size w w'))
 case atStart => exact ⟨(0), q6_, H', ⟨Nat.le_refl _⟩, ⟨q0_⟩⟩
 case round =>
  clear H'; obtain ⟨x8_1, rfl, HA, HK1, HB⟩ := hrel
  cases gk with
  | zero => exact absurd HA.out (by simp [zaq.l0])
  | succ k1 =>
   have H := HA.out; clear HA; simp only [zaq.l0] at H
   by_cases c3 : x8_1 < (l0.length : Int)
   ·rw [if_pos c3] at H; have c3b0 := decide_eq_true c3; clear c3
    by_cases c4 : 0 ≤ x8_1
    ·rw [if_pos c4] at H; have c4b0 := decide_eq_true c4; clear c4
     by_cases c5 : x8_1 < (l0.length : Int)
     ·rw [if_pos c5] at H; have c5b0 := decide_eq_true c5; clear c5; obtain ⟨t128, A6, H⟩ := bi_ H; try dsimp only at H
      have p127 : 0 ≤ (x8_1 : Int) := of_decide_eq_true q4_; have q127 : x8_1 < (l0.length : Int) := of_decide_eq_true q4_; obtain ⟨ad127, e127, hx127_0, hx127_1, hx127_2⟩ := at_T105 HR0.out x8_1 p127 q127; cases e127; replace hx127_0 := hc_ HB.out hx127_0; replace hx127_1 := hc_ HB.out hx127_1; replace hx127_2 := hc_ HB.out hx127_2; replace p127 := eq_true p127; replace q127 := eq_true q127
      by_cases c7 : t128 = true
      ·subst c7; replace H := ifT_ H; obtain rfl := Option.some.inj H; go_wp2_with (first | ((with_reducible refine zcg (t := 11) rfl ?_); refine zez (some 16) rfl rfl Tryd.func75 (by kernel_rfl) rfl #[.agg #[.int .i64 ((zbj l0 x8_1).f0), .int .i64 ((zbj l0 x8_1).f1), .string ((zbj l0 x8_1).f2)]] rfl (by rfl) q2_ ?_; (with_reducible refine ca_ (zgp.calls ((zbj l0 x8_1).f0) ((zbj l0 x8_1).f1) ((zbj l0 x8_1).f2) true _ A6.out q7_) ?_); intro w8 hb; replace HB := bs_ hb; clear hb)); go_ret; exact ⟨q5_, q0_⟩
      ·replace c7 := Bool.eq_false_iff.mpr c7; subst c7; replace H := ifF_ H; have H' := ak_ H; clear H; go_wp2_with (first | ((with_reducible refine zcg (t := 11) rfl ?_); refine zez (some 16) rfl rfl Tryd.func75 (by kernel_rfl) rfl #[.agg #[.int .i64 ((zbj l0 x8_1).f0), .int .i64 ((zbj l0 x8_1).f1), .string ((zbj l0 x8_1).f2)]] rfl (by rfl) q2_ ?_; (with_reducible refine ca_ (zgp.calls ((zbj l0 x8_1).f0) ((zbj l0 x8_1).f1) ((zbj l0 x8_1).f2) false _ A6.out q7_) ?_); intro w9 hb; replace HB := bs_ hb; clear hb)); go_roundg k1
       case measure => have := HK1.out; omega
       case rel => exact ⟨(wrap64 (x8_1 + 1)), q6_, H', ⟨kq_⟩, ⟨q0_⟩⟩
     ·rw [if_neg c5] at H; exact absurd H (by simp)
    ·rw [if_neg c4] at H; exact absurd H (by simp)
   ·rw [if_neg c3] at H; have c3b0 := decide_eq_false c3; clear c3; obtain rfl := Option.some.inj H; go_wp2; go_ret; exact ⟨q5_, q0_⟩
def zba.f (k : Nat) (l0 : List (S105))  : Option (Bool) := (zaq.f k l0).bind fun t129 => (some (decide (t129 ≥ 0)))
theorem zba.mono : ∀ a0 k, LeO (zba.f k a0) (zba.f (k + 1) a0) := by
 intro a0 k
 unfold zba.f
 with_reducible repeat' first
   | apply zaq.mono
   | apply LeO.refl
   | apply LeO.none
   | refine LeO.ite ?_ ?_
   | refine LeO.bind ?_ (fun _ => ?_)
theorem zba.calls (k : Nat) (A0 : Option Addr) (c0 : Nat) (l0 : List (S105))  (r : Bool) (w : World) (hr0 : Kd.C k105 w A0 l0.length l0) (hc0 : l0.length ≤ c0) (h : zba.f k l0 = some r) (hG : Glob w) :
  Calls Tryd.prog 74 #[.slice A0 l0.length c0, (.func (.func 75) #[] #[])] w fun e w' => e = .returned (.bool r) ∧ Below w.heap.size w w' := by
 have HG := ak_ hG; clear hG; have HR0 := ak_ hr0; have HC0 := ak_ hc0; clear hr0 hc0; have HB := ak_ (Below.refl w.heap.size w); have H : ((zaq.f k l0).bind fun t129 => (some (decide (t129 ≥ 0)))) = some r := h; clear h; obtain ⟨t129, A3, H⟩ := bi_ H; replace H : (some (decide (t129 ≥ 0))) = some r := H; obtain rfl := Option.some.inj H; go_enter Tryd.func74, Tryd.ntmps74; go_wp2_with (first | ((with_reducible refine gc_ 91 rfl ?_); refine gl_ 7 Tryd.func91 #[.slice A0 l0.length c0, (.func (.func 75) #[] #[])] ?_; (with_reducible refine ca_ (zaq.calls k _ _ l0  t129 _ ?side1 HC0.out A3.out q7_) ?_); (case side1 => exact cx_ HR0.out); intro w4 hb; replace HB := bs_ hb; clear hb)); go_ret; exact ⟨q5_, q0_⟩

end Go.Proofs.YtchpbnabbjdfgaaDoor.P
