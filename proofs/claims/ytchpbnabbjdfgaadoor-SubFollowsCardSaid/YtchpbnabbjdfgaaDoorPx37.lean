-- HALVED
import Derived.Test.YtchpbnabbjdfgaaDoorPx0
import Derived.Test.YtchpbnabbjdfgaaDoorPx1
import Derived.Test.YtchpbnabbjdfgaaDoorPx19
import Derived.Test.YtchpbnabbjdfgaaDoorPx23
import Derived.Test.YtchpbnabbjdfgaaDoorPx34
namespace Go.Proofs.YtchpbnabbjdfgaaDoor.P
open Go.RowKit Go.Proofs.YtchpbnabbjdfgaaDoorW.PrintWords Go.Proofs.YtchpbnabbjdfgaaDoorW.PrintLast Go.Proofs.YtchpbnabbjdfgaaDoorW.PrintMore
attribute [local go_sem] zeb zfe zfa zfb zdl zdm zec zed   -- for this text's walks alone
set_option linter.unusedVariables false
set_option linter.unusedSimpArgs false
set_option maxHeartbeats 8000000
set_option maxRecDepth 100000

abbrev b37_9 := sb_ (bz 19 8) 9
def zbg.l0 : Nat → List (S56) → List (S56) → Int → Int → Option (Bool)
 | 0, _, _, _, _ => none
 | k + 1, x0, x5, x6, x7 => if x7 < x6 then (if 0 ≤ x7 then (if x7 < (x5.length : Int) then (if x7 > 0 then (if 0 ≤ (wrap64 (x7 - 1)) then (if (wrap64 (x7 - 1)) < (x0.length : Int) then (if ((Op.bytesLess (((zbb x0 (wrap64 (x7 - 1))).f0).toList) (((zbb x5 x7).f0).toList)) = true) then ((zcz.f k ((zbb x5 x7).f1)).bind fun t157 => (if t157 = true then (zbg.l0 k x0 x5 x6 (wrap64 (x7 + 1))) else (some false))) else (some false)) else (none)) else (none)) else ((zcz.f k ((zbb x5 x7).f1)).bind fun t158 => (if t158 = true then (zbg.l0 k x0 x5 x6 (wrap64 (x7 + 1))) else (some false)))) else (none)) else (none)) else ((zen.f k x0).bind fun t153 => (some t153))
def zbg.f (k : Nat) (l0 : List (S56)) : Option (Bool) := zbg.l0 k l0 l0 (l0.length : Int) 0
theorem zbg.zby : ∀ k, (∀ y0 y1 y2 y3, LeO (zbg.l0 k y0 y1 y2 y3) (zbg.l0 (k + 1) y0 y1 y2 y3))
 | 0 => fun _ _ _ _ r h => by simp [zbg.l0] at h
 | k + 1 => by
  have ih0 := zbg.zby k
  ·intro y0 y1 y2 y3
   unfold zbg.l0
   with_reducible repeat' first
   | apply ih0
   | apply zcz.mono
   | apply zen.mono
   | apply LeO.refl
   | apply LeO.none
   | refine LeO.ite ?_ ?_
   | refine LeO.bind ?_ (fun _ => ?_)
theorem zbg.mono : ∀ a0 k, LeO (zbg.f k a0) (zbg.f (k + 1) a0) := by
 intro a0 k
 have ih0 := zbg.zby k
 unfold zbg.f
 with_reducible repeat' first
   | apply ih0
   | apply zcz.mono
   | apply zen.mono
   | apply LeO.refl
   | apply LeO.none
   | refine LeO.ite ?_ ?_
   | refine LeO.bind ?_ (fun _ => ?_)
def zbg.T4 : Bool × List (List Nat × List Nat) := (true, [([], []), ([0], [0]), ([1], [1]), ([2], [2]), ([2], [2]), ([4, 2], [2, 4]), ([3, 5, 2], [2, 3, 5]), ([6, 2], [2, 6]), ([7, 2], [2, 7]), ([2], [2]), ([9, 2], [2, 9]), ([8, 10, 2], [2, 8, 10]), ([2, 11], [2, 11]), ([12, 2], [12]), ([13], [13]), ([14, 13], [13, 14]), ([15, 13, 13], [13, 15]), ([16, 13], [13, 16]), ([13, 17], [13, 17])])
def zbg.B4 : List Nat := [0, 1, 3, 7, 7, 23, 63, 127, 255, 7, 519, 2047, 4095, 8191, 16383, 32767, 65535, 131071, 262143]
theorem zbg.tab4 : rtab .any (opsOf Tryd.f22 4) = zbg.T4 := by kernel_rfl
theorem zbg.bits4 : zgs zbg.T4.2 zbg.B4 = true := by kernel_rfl
theorem zbg.calls (k : Nat) (A0 : Option Addr) (c0 : Nat) (l0 : List (S56)) (r : Bool) (w : World) (hr0 : Kd.C k56 w A0 l0.length l0) (hc0 : l0.length ≤ c0) (h : zbg.f k l0 = some r) (hG : Glob w) :
  Calls Tryd.prog 22 #[.slice A0 l0.length c0] w fun e w' => e = .returned (.bool r) ∧ Below w.heap.size w w' := by
 have hu56 := Tryd.underlying56; have HG := ak_ hG; clear hG; have HR0 := ak_ hr0; have HC0 := ak_ hc0; clear hr0 hc0; have HB := ak_ (Below.refl w.heap.size w); have H : (zbg.l0 k l0 l0 (l0.length : Int) 0) = some r := h; clear h; have H' := ak_ H; clear H; go_enter Tryd.func22, Tryd.ntmps22; go_wp2; go_loopg [7] k (fun kq v7 w' => ∃ (x7_1 : Int), v7 = .int .i64 x7_1 ∧ zab (zbg.l0 kq l0 l0 (l0.length : Int) x7_1 = some r) ∧ zab (kq ≤ k) ∧ zab (Below w.heap.size w w'))
 case atStart => exact ⟨(0), q6_, H', ⟨Nat.le_refl _⟩, ⟨q0_⟩⟩
 case round =>
  clear H'; obtain ⟨x7_1, rfl, HA, HK1, HB⟩ := hrel
  cases gk with
  | zero => exact absurd HA.out (by simp [zbg.l0])
  | succ k1 =>
   have H := HA.out; clear HA; simp only [zbg.l0] at H
   by_cases c2 : x7_1 < (l0.length : Int)
   ·rw [if_pos c2] at H; have c2b0 := decide_eq_true c2; clear c2
    by_cases c3 : 0 ≤ x7_1
    ·rw [if_pos c3] at H; have c3b0 := decide_eq_true c3; clear c3
     by_cases c4 : x7_1 < (l0.length : Int)
     ·rw [if_pos c4] at H; have c4b0 := decide_eq_true c4; clear c4
      by_cases c5 : x7_1 > 0
      ·rw [if_pos c5] at H; have c5b0 : decide (0 < x7_1) = true := decide_eq_true c5; clear c5; obtain ⟨ji6, hji6⟩ : ∃ j_ : Int, (wrap64 (x7_1 - 1)) = j_ := ⟨_, rfl⟩; replace H : (if 0 ≤ (ji6) then (if (ji6) < (l0.length : Int) then (if ((Op.bytesLess (((zbb l0 (ji6)).f0).toList) (((zbb l0 x7_1).f0).toList)) = true) then ((zcz.f k1 ((zbb l0 x7_1).f1)).bind fun t157 => (if t157 = true then (zbg.l0 k1 l0 l0 (l0.length : Int) (wrap64 (x7_1 + 1))) else (some false))) else (some false)) else (none)) else (none)) = some r := by first | (rw [hji6] at H; exact H) | (simp only [hji6] at H ⊢; exact H)
       have hji6w : (IntKind.i64.wrap (x7_1 - 1)) = ji6 := (zhm _).trans hji6
       by_cases c7 : 0 ≤ (ji6)
       ·rw [if_pos c7] at H; have c7b0 := decide_eq_true c7; clear c7
        by_cases c8 : (ji6) < (l0.length : Int)
        ·rw [if_pos c8] at H; have c8b0 := decide_eq_true c8; clear c8; have p154 : 0 ≤ (x7_1 : Int) := of_decide_eq_true q4_; have q154 : x7_1 < (l0.length : Int) := of_decide_eq_true q4_; obtain ⟨ad154, A154_1, c154_1, e154, hx154_0, hx154_1, hl154_1, hi154_1⟩ := zha HR0.out x7_1 p154 q154; cases e154; replace hx154_0 := hc_ HB.out hx154_0; replace hx154_1 := hc_ HB.out hx154_1; have HR154_1 := ak_ hi154_1; have HC154_1 := ak_ hl154_1; clear hi154_1 hl154_1; replace p154 := eq_true p154; replace q154 := eq_true q154; try go_wp2_with (first | ((with_reducible refine gd_ 4 rfl ?_); refine by_ #[.string (⟨#[]⟩ : ByteArray), .slice none 0 0] 56 ?_; intro gb155 hg w12 BK155 hb; have GE155 := gw_ hg; replace HB := bs_ hb; clear hb hg; have hz13 := bc2_ (w := w12) BK155.out))
         have n0_ : zab (((w12.setCell ⟨gb155, 0, none⟩ (.string ((zbb l0 x7_1).f0))).setCell ⟨gb155, 1, none⟩ (.slice A154_1 ((zbb l0 x7_1).f1).length c154_1)).heap[gb155]? = some (.cells #[.string ((zbb l0 x7_1).f0), .slice A154_1 ((zbb l0 x7_1).f1).length c154_1] 56 (0, 0))) := ⟨q19_⟩; have n1_ : zab (Below w.heap.size w ((w12.setCell ⟨gb155, 0, none⟩ (.string ((zbb l0 x7_1).f0))).setCell ⟨gb155, 1, none⟩ (.slice A154_1 ((zbb l0 x7_1).f1).length c154_1))) := ⟨q0_⟩; (try clear BK155 HB); generalize ((w12.setCell ⟨gb155, 0, none⟩ (.string ((zbb l0 x7_1).f0))).setCell ⟨gb155, 1, none⟩ (.slice A154_1 ((zbb l0 x7_1).f1).length c154_1)) = w14 at n0_ n1_ ⊢; have BK155 := n0_; have HB := n1_; clear n0_ n1_; replace BK155 := dB_ BK155; replace HB := ak_ (zbn HB.out); have p156 : 0 ≤ ((ji6) : Int) := of_decide_eq_true q4_; have q156 : (ji6) < (l0.length : Int) := of_decide_eq_true q4_; obtain ⟨ad156, A156_1, c156_1, e156, hx156_0, hx156_1, hl156_1, hi156_1⟩ := zha HR0.out (ji6) p156 q156; have hw156_1 := hx156_1; have hw156_0 := hx156_0; obtain rfl : ad154 = ad156 := (by injection e156); replace hx156_0 := hc_ HB.out hx156_0; replace hx156_1 := hc_ HB.out hx156_1; have HR156_1 := ak_ hi156_1; have HC156_1 := ak_ hl156_1; clear hi156_1 hl156_1; replace p156 := eq_true p156; replace q156 := eq_true q156; refine zfi (n := 19) (S := fun w' => w'.cell? ⟨gb155, 0, none⟩ = some (.string ((zbb l0 x7_1).f0)) ∧ w'.cell? ⟨gb155, 1, none⟩ = some (.slice A154_1 ((zbb l0 x7_1).f1).length c154_1) ∧ w'.cell? (ad154.add (((ji6)).toNat * 2)) = some (.string ((zbb l0 (ji6)).f0)) ∧ w'.cell? ⟨(ad154.add (((ji6)).toNat * 2)).block, (ad154.add (((ji6)).toNat * 2)).off + 1, none⟩ = some (.slice A156_1 ((zbb l0 (ji6)).f1).length c156_1)) (ds := []) (bz 19 0) (by kernel_rfl) rfl rfl ⟨bt_ BK155.out 0, bt_ BK155.out 1, (hc_ HB.out hw156_0), (hc_ HB.out hw156_1)⟩ (fun hHeld => ?_); refine zcw zbg.tab4 zbg.bits4 (fun HT_ HW_ => ?_); generalize w14.drew = w15 at BK155 HB HR156_1 hx156_0 hx156_1 hHeld ⊢
         by_cases c9 : ((Op.bytesLess (((zbb l0 (ji6)).f0).toList) (((zbb l0 x7_1).f0).toList)) = true)
         ·rw [if_pos c9] at H; have c9b0 : (Op.bytesLess (((zbb l0 (ji6)).f0).toList) (((zbb l0 x7_1).f0).toList)) = true := c9; clear c9; obtain ⟨t157, A10, H⟩ := bi_ H; replace H : (if t157 = true then (zbg.l0 k1 l0 l0 (l0.length : Int) (wrap64 (x7_1 + 1))) else (some false)) = some r := H; refine pz_ 0 12 (bz 19 1) ?_; refine pz_ 1 13 (bz 19 2) ?_; refine pz_ 2 14 (bz 19 3) ?_; refine pz_ 3 15 (bz 19 4) ?_; refine pz_ 4 16 (bz 19 5) ?_; refine pz_ 5 17 (bz 19 6) ?_; refine pz_ 6 18 (bz 19 7) ?_; refine pz_ 7 19 (bz 19 8) ?_; refine pz_ 9 21 b37_9 ?_; refine tz4_ 8 20 (bz 19 10) hHeld ?_; refine tz4_ 10 22 (bz 19 11) hHeld ?_; refine pz_ 11 23 (bz 19 12) ?_; refine pz_ 12 24 (bz 19 13) ?_; refine pz_ 13 25 (bz 19 14) ?_; refine pz_ 14 26 (bz 19 15) ?_; refine tz4_ 15 27 (bz 19 16) hHeld ?_; refine oz_ 16 (some 28) (bz 19 17) (fun K hK => ?_); refine go1_ Tryd.func43 #[.slice A154_1 ((zbb l0 x7_1).f1).length c154_1] ?_
          by_cases c11 : t157 = true
          ·subst c11; replace H := ifT_ H; have H' := ak_ H; clear H; (with_reducible refine ca_ (zcz.calls k1 _ _ ((zbb l0 x7_1).f1) true _ ?side1 ?side2 A10.out q23_) ?_); (case side1 => exact cx_ (Kd.zcc HR154_1.out HB.out)); (case side2 => exact HC154_1.out); intro w16 hb; replace BK155 := bb_ q48_ hb; replace HB := bs_ hb; clear hb; refine hK.out _ _ ⟨bt_ BK155.out 0, bt_ BK155.out 1, (hc_ HB.out hw156_0), (hc_ HB.out hw156_1)⟩ (fun hHeld => ?_); clear hK K; refine nz_ ?_; refine pz_ 17 29 (bz 19 18) ?_; refine pz_ 18 30 (bz 19 19) ?_; refine zfq (zdd HT_.out (by kernel_rfl)) ?_; try go_wp2
           go_roundg k1
           case measure => have := HK1.out; omega
           case rel => exact ⟨(wrap64 (x7_1 + 1)), q6_, H', ⟨kq_⟩, ⟨q0_⟩⟩
          ·replace c11 := Bool.eq_false_iff.mpr c11; subst c11; replace H := ifF_ H; obtain rfl := Option.some.inj H; (with_reducible refine ca_ (zcz.calls k1 _ _ ((zbb l0 x7_1).f1) false _ ?side1 ?side2 A10.out q23_) ?_); (case side1 => exact cx_ (Kd.zcc HR154_1.out HB.out)); (case side2 => exact HC154_1.out); intro w21 hb; replace BK155 := bb_ q48_ hb; replace HB := bs_ hb; clear hb; refine hK.out _ _ ⟨bt_ BK155.out 0, bt_ BK155.out 1, (hc_ HB.out hw156_0), (hc_ HB.out hw156_1)⟩ (fun hHeld => ?_); clear hK K; refine nz_ ?_; refine pz_ 17 29 (bz 19 18) ?_; refine pz_ 18 30 (bz 19 19) ?_; refine zfq (zdd HT_.out (by kernel_rfl)) ?_; try go_wp2
           go_ret; exact ⟨by first | rfl | (simp [zco, zcp] <;> rfl) | (simp only [← hji6]; first | rfl | (simp [zco, zcp] <;> rfl)) | (simp [*, zco, zcp] <;> rfl), q0_⟩
         ·rw [if_neg c9] at H; have c9b0 : (Op.bytesLess (((zbb l0 (ji6)).f0).toList) (((zbb l0 x7_1).f0).toList)) = false := by simpa using c9
          clear c9; obtain rfl := Option.some.inj H; refine pz_ 0 12 (bz 19 1) ?_; refine pz_ 1 13 (bz 19 2) ?_; refine pz_ 2 14 (bz 19 3) ?_; refine pz_ 3 15 (bz 19 4) ?_; refine pz_ 4 16 (bz 19 5) ?_; refine pz_ 5 17 (bz 19 6) ?_; refine pz_ 6 18 (bz 19 7) ?_; refine pz_ 7 19 (bz 19 8) ?_; refine pz_ 9 21 b37_9 ?_; refine tz4_ 8 20 (bz 19 10) hHeld ?_; refine tz4_ 10 22 (bz 19 11) hHeld ?_; refine pz_ 11 23 (bz 19 12) ?_; refine pz_ 12 24 (bz 19 13) ?_; refine pz_ 13 25 (bz 19 14) ?_; refine pu_ 14 26 (bz 19 15) ?_; refine pu_ 15 27 (bz 19 16) ?_; refine pu_ 16 28 (bz 19 17) ?_; refine pu_ 17 29 (bz 19 18) ?_; refine pz_ 18 30 (bz 19 19) ?_; refine zfq (zdd HT_.out (by kernel_rfl)) ?_; try go_wp2
          go_ret; exact ⟨by first | rfl | (simp [zco, zcp] <;> rfl) | (simp only [← hji6]; first | rfl | (simp [zco, zcp] <;> rfl)) | (simp [*, zco, zcp] <;> rfl), q0_⟩
        ·rw [if_neg c8] at H; exact absurd H (by simp)
       ·rw [if_neg c7] at H; exact absurd H (by simp)
      ·rw [if_neg c5] at H; have c5b0 : decide (0 < x7_1) = false := decide_eq_false c5; clear c5; obtain ⟨t158, A26, H⟩ := bi_ H; replace H : (if t158 = true then (zbg.l0 k1 l0 l0 (l0.length : Int) (wrap64 (x7_1 + 1))) else (some false)) = some r := H; have p154 : 0 ≤ (x7_1 : Int) := of_decide_eq_true q4_; have q154 : x7_1 < (l0.length : Int) := of_decide_eq_true q4_; obtain ⟨ad154, A154_1, c154_1, e154, hx154_0, hx154_1, hl154_1, hi154_1⟩ := zha HR0.out x7_1 p154 q154; cases e154; replace hx154_0 := hc_ HB.out hx154_0; replace hx154_1 := hc_ HB.out hx154_1; have HR154_1 := ak_ hi154_1; have HC154_1 := ak_ hl154_1; clear hi154_1 hl154_1; replace p154 := eq_true p154; replace q154 := eq_true q154; try go_wp2_with (first | ((with_reducible refine gd_ 4 rfl ?_); refine by_ #[.string (⟨#[]⟩ : ByteArray), .slice none 0 0] 56 ?_; intro gb155 hg w28 BK155 hb; have GE155 := gw_ hg; replace HB := bs_ hb; clear hb hg; have hz29 := bc2_ (w := w28) BK155.out))
       have n0_ : zab (((w28.setCell ⟨gb155, 0, none⟩ (.string ((zbb l0 x7_1).f0))).setCell ⟨gb155, 1, none⟩ (.slice A154_1 ((zbb l0 x7_1).f1).length c154_1)).heap[gb155]? = some (.cells #[.string ((zbb l0 x7_1).f0), .slice A154_1 ((zbb l0 x7_1).f1).length c154_1] 56 (0, 0))) := ⟨q19_⟩; have n1_ : zab (Below w.heap.size w ((w28.setCell ⟨gb155, 0, none⟩ (.string ((zbb l0 x7_1).f0))).setCell ⟨gb155, 1, none⟩ (.slice A154_1 ((zbb l0 x7_1).f1).length c154_1))) := ⟨q0_⟩; (try clear BK155 HB); generalize ((w28.setCell ⟨gb155, 0, none⟩ (.string ((zbb l0 x7_1).f0))).setCell ⟨gb155, 1, none⟩ (.slice A154_1 ((zbb l0 x7_1).f1).length c154_1)) = w30 at n0_ n1_ ⊢; have BK155 := n0_; have HB := n1_; clear n0_ n1_; replace BK155 := dB_ BK155; replace HB := ak_ (zbn HB.out); refine zfi (n := 19) (S := fun w' => w'.cell? ⟨gb155, 0, none⟩ = some (.string ((zbb l0 x7_1).f0)) ∧ w'.cell? ⟨gb155, 1, none⟩ = some (.slice A154_1 ((zbb l0 x7_1).f1).length c154_1)) (ds := []) (bz 19 0) (by kernel_rfl) rfl rfl (bs2_ BK155.out) (fun hHeld => ?_); refine zcw zbg.tab4 zbg.bits4 (fun HT_ HW_ => ?_); generalize w30.drew = w31 at BK155 HB hHeld ⊢; refine pz_ 0 12 (bz 19 1) ?_; refine pz_ 1 13 (bz 19 2) ?_; refine pz_ 2 14 (bz 19 3) ?_; refine pu_ 3 15 (bz 19 4) ?_; refine pu_ 4 16 (bz 19 5) ?_; refine pu_ 5 17 (bz 19 6) ?_; refine pu_ 6 18 (bz 19 7) ?_; refine pu_ 7 19 (bz 19 8) ?_; refine pu_ 8 20 (bz 19 9) ?_; refine pu_ 9 21 (bz 19 10) ?_; refine pu_ 10 22 (bz 19 11) ?_; refine pu_ 11 23 (bz 19 12) ?_; refine pz_ 12 24 (bz 19 13) ?_; refine pz_ 13 25 (bz 19 14) ?_; refine pz_ 14 26 (bz 19 15) ?_; refine tz2_ 15 27 (bz 19 16) hHeld ?_; refine oz_ 16 (some 28) (bz 19 17) (fun K hK => ?_); refine go1_ Tryd.func43 #[.slice A154_1 ((zbb l0 x7_1).f1).length c154_1] ?_
       by_cases c27 : t158 = true
       ·subst c27; replace H := ifT_ H; have H' := ak_ H; clear H; (with_reducible refine ca_ (zcz.calls k1 _ _ ((zbb l0 x7_1).f1) true _ ?side1 ?side2 A26.out q23_) ?_); (case side1 => exact cx_ (Kd.zcc HR154_1.out HB.out)); (case side2 => exact HC154_1.out); intro w32 hb; replace BK155 := bb_ q48_ hb; replace HB := bs_ hb; clear hb; refine hK.out _ _ (bs2_ BK155.out) (fun hHeld => ?_); clear hK K; refine nz_ ?_; refine pz_ 17 29 (bz 19 18) ?_; refine pz_ 18 30 (bz 19 19) ?_; refine zfq (zdd HT_.out (by kernel_rfl)) ?_; try go_wp2
        go_roundg k1
        case measure => have := HK1.out; omega
        case rel => exact ⟨(wrap64 (x7_1 + 1)), q6_, H', ⟨kq_⟩, ⟨q0_⟩⟩
       ·replace c27 := Bool.eq_false_iff.mpr c27; subst c27; replace H := ifF_ H; obtain rfl := Option.some.inj H; (with_reducible refine ca_ (zcz.calls k1 _ _ ((zbb l0 x7_1).f1) false _ ?side1 ?side2 A26.out q23_) ?_); (case side1 => exact cx_ (Kd.zcc HR154_1.out HB.out)); (case side2 => exact HC154_1.out); intro w37 hb; replace BK155 := bb_ q48_ hb; replace HB := bs_ hb; clear hb; refine hK.out _ _ (bs2_ BK155.out) (fun hHeld => ?_); clear hK K; refine nz_ ?_; refine pz_ 17 29 (bz 19 18) ?_; refine pz_ 18 30 (bz 19 19) ?_; refine zfq (zdd HT_.out (by kernel_rfl)) ?_; try go_wp2
        go_ret; exact ⟨q5_, q0_⟩
     ·rw [if_neg c4] at H; exact absurd H (by simp)
    ·rw [if_neg c3] at H; exact absurd H (by simp)
   ·rw [if_neg c2] at H; have c2b0 := decide_eq_false c2; clear c2; obtain ⟨t153, A38, H⟩ := bi_ H; replace H : (some t153) = some r := H; obtain rfl := Option.some.inj H; go_wp2_with (first | ((with_reducible refine gc_ 23 rfl ?_); refine gl_ 33 Tryd.func23 #[.slice A0 l0.length c0] ?_; (with_reducible refine ca_ (zen.calls k1 _ _ l0 t153 _ ?side1 HC0.out A38.out q7_) ?_); (case side1 => exact cx_ (Kd.zcc HR0.out HB.out)); intro w39 hb; replace HB := bs_ hb; clear hb)); go_ret; exact ⟨q5_, q0_⟩
def zeh.f (l0 : List S56) : Option (List S56) := if l0.length ≤ 1000000 then some l0 else none
set_option maxHeartbeats 2000000 in
theorem zeh.calls (P_ : Nat → Prop) (A : Option Addr) (c : Nat) (l0 r : List S56) (w : World) (hs : Kd.V k56 56 w w.heap.size (fun k_ => P_ k_) (.slice A l0.length c) l0) (h : zeh.f l0 = some r) :
  Calls Tryd.prog 24 #[.slice A l0.length c] w fun e w' => ∃ v0_ : Value, e = .returned v0_ ∧ Kd.N k56 56 w' w.heap.size (fun k_ => (P_ k_ ∨ w.heap.size ≤ k_)) v0_ r ∧ Below w.heap.size w w' := by
 unfold zeh.f at h; split at h
 case isFalse => cases h
 rename_i hl; injection h with h
 subst h; have q22 : ∀ (w : World) (a : Option Addr) (n c n' c' : Nat), (binOp .eql 22 (.slice a n c) (.slice none n' c')).run Tryd.prog w = .ok (.bool a.isNone) w := fun w a n c n' c' => Lib.run_eql_slice_nil w _ _ a n c n' c' Tryd.underlying22; have HF := ak_ (Kd.zhu (Kd.zeg (Kd.V_F hs)) (.cells #[] 56))
 cases A with
 | none =>
  have e0 : l0 = [] := by
   have := (Kd.zbx hs).2.2.2.2
   cases l0 with
   | nil => rfl
   | cons x l => obtain ⟨ad, h1, _⟩ := this (by simp); cases h1
  subst e0; clear hs HF; go_enter Tryd.func24, Tryd.ntmps24; go_wp2; go_ret; exact ⟨_, rfl, Kd.zij _ _ _ _ _, Below.refl _ _⟩
 | some ad =>
  clear hs; go_enter Tryd.func24, Tryd.ntmps24; go_wp2_with (at_builtin; refine Kd.zdb k56 (w0 := w) w.heap.size rfl _ _ 22 56 (.agg #[(.string ⟨#[]⟩), (.slice none 0 0)]) 40 rfl Tryd.underlying22 (by kernel_rfl) rfl (by decide) (by omega) (.slice (some ⟨w.heap.size, 0, none⟩) 0 0) ([] : List S56) l0 (some ad) l0.length c (fun k_ => (P_ k_ ∨ w.heap.size ≤ k_)) (fun k => P_ k ∧ k < w.heap.size) rfl rfl (cl_made k56 56 w _ (.inr (Nat.le_refl _))) HF.out (fun k hk => ⟨.inl hk.1, by simp [Value.ownBlock]; have := hk.2; omega⟩) (fun k hk => .inr (by simp at hk; omega)) (zas (Below.refl _ _) _) (by simp) (by simp; omega) ?_); intro v' w1 hown hb hg hat; go_wp2; go_ret; exact ⟨v', rfl, hown, hb⟩
def zfk.f (l0 : List S56) (a1 : Int) (l2 : List S56) : Option (List S56) := if 0 ≤ a1 ∧ a1 ≤ l0.length ∧ l2.length = 1 ∧ l0.length ≤ 1000000 then some (l0.take a1.toNat ++ (l2 ++ l0.drop a1.toNat)) else none
theorem zfk.calls : True := trivial
def zep.f (l0 : List S81) : Option (List S81) := if l0.length ≤ 1000000 then some l0 else none
set_option maxHeartbeats 2000000 in
theorem zep.calls (P_ : Nat → Prop) (A : Option Addr) (c : Nat) (l0 r : List S81) (w : World) (hs : Kd.V k81 81 w w.heap.size (fun k_ => P_ k_) (.slice A l0.length c) l0) (h : zep.f l0 = some r) :
  Calls Tryd.prog 78 #[.slice A l0.length c] w fun e w' => ∃ v0_ : Value, e = .returned v0_ ∧ Kd.N k81 81 w' w.heap.size (fun k_ => (P_ k_ ∨ w.heap.size ≤ k_)) v0_ r ∧ Below w.heap.size w w' := by
 unfold zep.f at h; split at h
 case isFalse => cases h
 rename_i hl; injection h with h
 subst h; have q22 : ∀ (w : World) (a : Option Addr) (n c n' c' : Nat), (binOp .eql 54 (.slice a n c) (.slice none n' c')).run Tryd.prog w = .ok (.bool a.isNone) w := fun w a n c n' c' => Lib.run_eql_slice_nil w _ _ a n c n' c' Tryd.underlying54; have HF := ak_ (Kd.zhu (Kd.zeg (Kd.V_F hs)) (.cells #[] 81))
 cases A with
 | none =>
  have e0 : l0 = [] := by
   have := (Kd.zbx hs).2.2.2.2
   cases l0 with
   | nil => rfl
   | cons x l => obtain ⟨ad, h1, _⟩ := this (by simp); cases h1
  subst e0; clear hs HF; go_enter Tryd.func78, Tryd.ntmps78; go_wp2; go_ret; exact ⟨_, rfl, Kd.zij _ _ _ _ _, Below.refl _ _⟩
 | some ad =>
  clear hs; go_enter Tryd.func78, Tryd.ntmps78; go_wp2_with (at_builtin; refine Kd.zdb k81 (w0 := w) w.heap.size rfl _ _ 54 81 (.agg #[(.slice none 0 0), (.int .i64 0)]) 32 rfl Tryd.underlying54 info81 rfl (by decide) (by omega) (.slice (some ⟨w.heap.size, 0, none⟩) 0 0) ([] : List S81) l0 (some ad) l0.length c (fun k_ => (P_ k_ ∨ w.heap.size ≤ k_)) (fun k => P_ k ∧ k < w.heap.size) rfl rfl (cl_made k81 81 w _ (.inr (Nat.le_refl _))) HF.out (fun k hk => ⟨.inl hk.1, by simp [Value.ownBlock]; have := hk.2; omega⟩) (fun k hk => .inr (by simp at hk; omega)) (zas (Below.refl _ _) _) (by simp) (by simp; omega) ?_); intro v' w1 hown hb hg hat; go_wp2; go_ret; exact ⟨v', rfl, hown, hb⟩
def zeq.f (l0 : List S105) : Option (List S105) := if l0.length ≤ 1000000 then some l0 else none
set_option maxHeartbeats 2000000 in
theorem zeq.calls (A : Option Addr) (c : Nat) (l0 r : List S105) (w : World) (hr : Kd.C k105 w A l0.length l0) (hc : l0.length ≤ c) (h : zeq.f l0 = some r) :
  Calls Tryd.prog 81 #[.slice A l0.length c] w fun e w' => ∃ v0_ : Value, e = .returned v0_ ∧ Kd.R k105 105 w' w.heap.size (fun _ => True) v0_ r ∧ Below w.heap.size w w' := by
 unfold zeq.f at h; split at h
 case isFalse => cases h
 rename_i hl; injection h with h
 subst h; have q22 : ∀ (w : World) (a : Option Addr) (n c n' c' : Nat), (binOp .eql 79 (.slice a n c) (.slice none n' c')).run Tryd.prog w = .ok (.bool a.isNone) w := fun w a n c n' c' => Lib.run_eql_slice_nil w _ _ a n c n' c' Tryd.underlying79; have HF := ak_ (Kd.zcc hr (zas (Below.refl _ _) (.cells #[] 105)))
 cases A with
 | none =>
  have e0 : l0 = [] := by
   have := hr.2.2
   cases l0 with
   | nil => rfl
   | cons x l => obtain ⟨ad, h1, _⟩ := this (by simp); cases h1
  subst e0; clear hr HF; go_enter Tryd.func81, Tryd.ntmps81; go_wp2; go_ret; exact ⟨_, rfl, Kd.R_nil _ _ _ _ _, Below.refl _ _⟩
 | some ad =>
  clear hr; go_enter Tryd.func81, Tryd.ntmps81; go_wp2_with (at_builtin; refine Kd.R_append_rows k105 (w0 := w) w.heap.size rfl _ _ 79 105 (.agg #[.int .i64 0, .int .i64 0, .string ByteArray.empty]) 32 rfl Tryd.underlying79 (by kernel_rfl) rfl (by decide) (by omega) (.slice (some ⟨w.heap.size, 0, none⟩) 0 0) ([] : List S105) l0 (some ad) l0.length c (fun _ => True) (fun _ => False) rfl rfl (cl_madeR k105 105 w) HF.out (fun x cs hk => by rw [k105_open hk]; exact k105_mkM _ _ _ x) (fun k hk => hk.elim) (fun k hk => trivial) (zas (Below.refl _ _) _) (by simp) (by simp; omega) ?_); intro v' w1 hown hb hg hat; go_wp2; go_ret; exact ⟨v', rfl, hown, hb⟩
def zda.f (k : Nat) (l0_0 : List (S105)) (a0_1 : Int) : Option (Bool) := (zdv.f a0_1).bind fun t166 => (if t166 = true then ((zba.f k l0_0).bind fun t167 => (some t167)) else (some true))
theorem zda.mono : ∀ a0 a1 k, LeO (zda.f k a0 a1) (zda.f (k + 1) a0 a1) := by
 intro a0 a1 k
 unfold zda.f
 with_reducible repeat' first
   | apply zba.mono
   | apply LeO.refl
   | apply LeO.none
   | refine LeO.ite ?_ ?_
   | refine LeO.bind ?_ (fun _ => ?_)
theorem zda.calls (k : Nat) (A0_0 : Option Addr) (c0_0 : Nat) (l0_0 : List (S105)) (a0_1 : Int) (r : Bool) (w : World) (hr0_0 : Kd.C k105 w A0_0 l0_0.length l0_0) (hc0_0 : l0_0.length ≤ c0_0) (h : zda.f k l0_0 a0_1 = some r) (hG : Glob w) :
  Calls Tryd.prog 77 #[.agg #[.slice A0_0 l0_0.length c0_0, .int .i64 a0_1]] w fun e w' => e = .returned (.bool r) ∧ Below w.heap.size w w' := by
 have hu81 := Tryd.underlying81; have HG := ak_ hG; clear hG; have HR0_0 := ak_ hr0_0; have HC0_0 := ak_ hc0_0; clear hr0_0 hc0_0; have HB := ak_ (Below.refl w.heap.size w); have H : ((zdv.f a0_1).bind fun t166 => (if t166 = true then ((zba.f k l0_0).bind fun t167 => (some t167)) else (some true))) = some r := h; clear h; obtain ⟨t166, A2, H⟩ := bi_ H; try dsimp only at H
 go_enter Tryd.func77, Tryd.ntmps77
 by_cases c3 : t166 = true
 ·subst c3; replace H := ifT_ H; obtain ⟨t167, A4, H⟩ := bi_ H; replace H : (some t167) = some r := H; obtain rfl := Option.some.inj H; go_wp2_with (first | ((with_reducible refine gd_ 1 rfl ?_); refine by_ #[.slice A0_0 l0_0.length c0_0, .int .i64 a0_1] 81 ?_; intro gb165 hg w5 BK165 hb; have GE165 := gw_ hg; replace HB := bs_ hb; clear hb hg; have hz6 := bc2_ (w := w5) BK165.out) | ((with_reducible refine gc_ 73 rfl ?_); refine gl_ 5 Tryd.func73 #[.int .i64 a0_1] ?_; (with_reducible refine (zdv.calls a0_1 true _ A2.out).mono ?_); rintro e w' ⟨rfl, ⟨nd, rfl⟩⟩; refine ⟨_, rfl, ?_⟩) | (go_at_call 74; (with_reducible refine (zba.calls k _ _ l0_0  t167 _ ?side1 ?side2 A4.out (by first | exact HG.out | (refine Glob.below HG.out ?_; (exact q0_)) | (repeat (first | exact HG.out | apply Glob.drewN | apply Glob.drew | apply Glob.alloc)))).mono ?_); (case side1 => exact cx_ (Kd.zcc HR0_0.out q0_)); (case side2 => exact HC0_0.out); rintro e w7 ⟨rfl, hb⟩; replace BK165 := ak_ (zfl (g := gb165) (o := .cells #[.slice A0_0 l0_0.length c0_0, .int .i64 a0_1] 81 (0, 0)) (by (with_reducible repeat first | apply bN_ | apply bD_ | apply bA_); exact BK165.out) hb); replace HB := bs_ hb; clear hb)); go_ret; exact ⟨q5_, q0_⟩
 ·replace c3 := Bool.eq_false_iff.mpr c3; subst c3; replace H := ifF_ H; obtain rfl := Option.some.inj H; go_wp2_with (first | ((with_reducible refine gd_ 1 rfl ?_); refine by_ #[.slice A0_0 l0_0.length c0_0, .int .i64 a0_1] 81 ?_; intro gb165 hg w8 BK165 hb; have GE165 := gw_ hg; replace HB := bs_ hb; clear hb hg; have hz9 := bc2_ (w := w8) BK165.out) | ((with_reducible refine gc_ 73 rfl ?_); refine gl_ 5 Tryd.func73 #[.int .i64 a0_1] ?_; (with_reducible refine (zdv.calls a0_1 false _ A2.out).mono ?_); rintro e w' ⟨rfl, ⟨nd, rfl⟩⟩; refine ⟨_, rfl, ?_⟩)); go_ret; exact ⟨q5_, q0_⟩

end Go.Proofs.YtchpbnabbjdfgaaDoor.P
