-- HALVED
import Derived.Test.YtchpbnabbjdfgaaDoorPx0
import Derived.Test.YtchpbnabbjdfgaaDoorPx1
import Derived.Test.YtchpbnabbjdfgaaDoorPx19
namespace Go.Proofs.YtchpbnabbjdfgaaDoor.P
open Go.RowKit Go.Proofs.YtchpbnabbjdfgaaDoorW.PrintWords Go.Proofs.YtchpbnabbjdfgaaDoorW.PrintLast Go.Proofs.YtchpbnabbjdfgaaDoorW.PrintMore
attribute [local go_sem] zdz zer zel zem zdi zdj zea zeb   -- for this text's walks alone
set_option linter.unusedVariables false
set_option linter.unusedSimpArgs false
set_option maxHeartbeats 8000000
set_option maxRecDepth 100000

abbrev b22_31 := sb_ (bz 30 23) 24
def zbr.l0 : Nat → List (S81) → List (S81) → Int → Int → Option (Bool)
 | 0, _, _, _, _ => none
 | k + 1, x0, x5, x6, x7 => if x7 < x6 then (if 0 ≤ x7 then (if x7 < (x5.length : Int) then (if ((zbh x5 x7).f1) = 0 then (some false) else ((zeu.f ((zbh x5 x7).f1)).bind fun t132 => (if t132 = true then ((zbj.f k ((zbh x5 x7).f0)).bind fun t133 => (if t133 = true then (some false) else (if x7 > 0 then (if 0 ≤ (wrap64 (x7 - 1)) then (if (wrap64 (x7 - 1)) < (x0.length : Int) then ((zbp.f k ((zbh x0 (wrap64 (x7 - 1))).f0) ((zbh x5 x7).f0)).bind fun t135 => (if t135 ≥ 0 then (some false) else (zbr.l0 k x0 x5 x6 (wrap64 (x7 + 1))))) else (none)) else (none)) else (zbr.l0 k x0 x5 x6 (wrap64 (x7 + 1)))))) else (some false)))) else (none)) else (none)) else (some true)
def zbr.f (k : Nat) (l0 : List (S81)) : Option (Bool) := zbr.l0 k l0 l0 (l0.length : Int) 0
theorem zbr.zch : ∀ k, (∀ y0 y1 y2 y3, LeO (zbr.l0 k y0 y1 y2 y3) (zbr.l0 (k + 1) y0 y1 y2 y3))
 | 0 => fun _ _ _ _ r h => by simp [zbr.l0] at h
 | k + 1 => by
  have ih0 := zbr.zch k
  ·intro y0 y1 y2 y3
   unfold zbr.l0
   with_reducible repeat' first
   | apply ih0
   | apply zbj.mono
   | apply zbp.mono
   | apply LeO.refl
   | apply LeO.none
   | refine LeO.ite ?_ ?_
   | refine LeO.bind ?_ (fun _ => ?_)
theorem zbr.mono : ∀ a0 k, LeO (zbr.f k a0) (zbr.f (k + 1) a0) := by
 intro a0 k
 have ih0 := zbr.zch k
 unfold zbr.f
 with_reducible repeat' first
   | apply ih0
   | apply zbj.mono
   | apply zbp.mono
   | apply LeO.refl
   | apply LeO.none
   | refine LeO.ite ?_ ?_
   | refine LeO.bind ?_ (fun _ => ?_)
def zbr.T4 : Bool × List (List Nat × List Nat) := (true, [([], []), ([0], [0]), ([1], [1]), ([2], [2]), ([3], [3]), ([4, 3], [3, 4]), ([5, 3, 3], [3, 5]), ([6, 3], [3, 6]), ([3, 7], [3, 7]), ([8, 6], [8]), ([9], [9]), ([10, 9], [9, 10]), ([11, 9, 9], [9, 11]), ([9, 12], [9, 12]), ([13, 12], [13]), ([14], [14]), ([15, 14], [14, 15]), ([16, 14, 14], [14, 16]), ([17], [17]), ([17], [17]), ([19, 17], [17, 19]), ([18, 20, 17], [17, 18, 20]), ([21, 17], [17, 21]), ([22, 17], [17, 22]), ([17], [17]), ([24, 17], [17, 24]), ([23, 25, 17, 17], [17, 23, 25]), ([26, 17], [17, 26]), ([17, 27, 14], [14, 17, 27]), ([14, 28], [14, 28])])
def zbr.B4 : List Nat := [0, 1, 3, 7, 15, 31, 63, 127, 255, 511, 1023, 2047, 4095, 8191, 16383, 32767, 65535, 131071, 262143, 262143, 786431, 2097151, 4194303, 8388607, 262143, 17039359, 67108863, 134217727, 268435455, 536870911]
theorem zbr.tab4 : rtab .any (opsOf Tryd.f49 4) = zbr.T4 := by kernel_rfl
theorem zbr.bits4 : zgg zbr.T4.2 zbr.B4 = true := by kernel_rfl
theorem zbr.calls (k : Nat) (A0 : Option Addr) (c0 : Nat) (l0 : List (S81)) (r : Bool) (w : World) (hr0 : Kd.C k81 w A0 l0.length l0) (hc0 : l0.length ≤ c0) (h : zbr.f k l0 = some r) (hG : Glob w) :
  Calls Tryd.prog 49 #[.slice A0 l0.length c0] w fun e w' => e = .returned (.bool r) ∧ Below w.heap.size w w' := by
 have hu81 := Tryd.underlying81
 have HG := ak_ hG
 clear hG
 have HR0 := ak_ hr0
 have HC0 := ak_ hc0
 clear hr0 hc0
 have HB := ak_ (Below.refl w.heap.size w)
 have H : (zbr.l0 k l0 l0 (l0.length : Int) 0) = some r := h
 clear h
 have H' := ak_ H
 clear H
 go_enter Tryd.func49, Tryd.ntmps49
 go_wp2
 go_loopg [7] k (fun kq v7 w' => ∃ (x7_1 : Int), v7 = .int .i64 x7_1 ∧ zab (zbr.l0 kq l0 l0 (l0.length : Int) x7_1 = some r) ∧ zab (kq ≤ k) ∧ zab (Below w.heap.size w w'))
 case atStart => exact ⟨(0), q8_, H', ⟨Nat.le_refl _⟩, ⟨q0_⟩⟩
 case round =>
  clear H'
  obtain ⟨x7_1, rfl, HA, HK1, HB⟩ := hrel
  cases gk with
  | zero => exact absurd HA.out (by simp [zbr.l0])
  | succ k1 =>
   have H := HA.out
   clear HA
   simp only [zbr.l0] at H
   by_cases c2 : x7_1 < (l0.length : Int)
   ·rw [if_pos c2] at H
    have c2b0 := decide_eq_true c2
    clear c2
    by_cases c3 : 0 ≤ x7_1
    ·rw [if_pos c3] at H
     have c3b0 := decide_eq_true c3
     clear c3
     by_cases c4 : x7_1 < (l0.length : Int)
     ·rw [if_pos c4] at H
      have c4b0 := decide_eq_true c4
      clear c4
      by_cases c5 : ((zbh l0 x7_1).f1) = 0
      ·rw [if_pos c5] at H
       have c5b0 := bq_ c5
       have c5b1 := bq0_ c5
       clear c5
       obtain rfl := Option.some.inj H
       have p130 : 0 ≤ (x7_1 : Int) := of_decide_eq_true q4_
       have q130 : x7_1 < (l0.length : Int) := of_decide_eq_true q4_
       obtain ⟨ad130, A130_0, c130_0, e130, hx130_0, hx130_1, hl130_0, hi130_0⟩ := zhg HR0.out x7_1 p130 q130
       cases e130
       replace hx130_0 := hc_ HB.out hx130_0
       replace hx130_1 := hc_ HB.out hx130_1
       have HR130_0 := ak_ hi130_0
       have HC130_0 := ak_ hl130_0
       clear hi130_0 hl130_0
       replace p130 := eq_true p130
       replace q130 := eq_true q130
       try go_wp2_with (first | ((with_reducible refine gd_ 4 rfl ?_); refine by_ #[.slice none 0 0, .int .i64 0] 81 ?_; intro gb131 hg w6 BK131 hb; have GE131 := ak_ (q2_ : w.heap.size ≤ gb131); replace HB := bs_ hb; clear hb hg; have hz7 := bc2_ (w := w6) BK131.out))
       have n0_ : zab (((w6.setCell ⟨gb131, 0, none⟩ (.slice A130_0 ((zbh l0 x7_1).f0).length c130_0)).setCell ⟨gb131, 1, none⟩ (.int .i64 ((zbh l0 x7_1).f1))).heap[gb131]? = some (.cells #[.slice A130_0 ((zbh l0 x7_1).f0).length c130_0, .int .i64 ((zbh l0 x7_1).f1)] 81 (0, 0))) := ⟨q35_⟩
       have n1_ : zab (Below w.heap.size w ((w6.setCell ⟨gb131, 0, none⟩ (.slice A130_0 ((zbh l0 x7_1).f0).length c130_0)).setCell ⟨gb131, 1, none⟩ (.int .i64 ((zbh l0 x7_1).f1)))) := ⟨q0_⟩
       try clear BK131 HB
       generalize ((w6.setCell ⟨gb131, 0, none⟩ (.slice A130_0 ((zbh l0 x7_1).f0).length c130_0)).setCell ⟨gb131, 1, none⟩ (.int .i64 ((zbh l0 x7_1).f1))) = w8 at n0_ n1_ ⊢
       have BK131 := n0_
       have HB := n1_
       clear n0_ n1_
       replace BK131 := dB_ BK131
       replace HB := ak_ (zbn HB.out)
       refine zeq (n := 30) (S := fun w' => w'.cell? ⟨gb131, 0, none⟩ = some (.slice A130_0 ((zbh l0 x7_1).f0).length c130_0) ∧ w'.cell? ⟨gb131, 1, none⟩ = some (.int .i64 ((zbh l0 x7_1).f1))) (ds := []) (bz 30 0) (by kernel_rfl) rfl rfl (bs2_ BK131.out) (fun hHeld => ?_)
       refine zcw zbr.tab4 zbr.bits4 (fun HT_ HW_ => ?_)
       generalize w8.drew = w9 at BK131 HB hHeld ⊢
       refine pz_ 0 12 (bz 30 1) ?_
       refine tz2_ 1 13 (bz 30 2) hHeld ?_
       refine pz_ 2 14 (bz 30 3) ?_
       refine pz_ 3 15 (bz 30 4) ?_
       refine pu_ 4 16 (bz 30 5) ?_
       refine pu_ 5 17 (bz 30 6) ?_
       refine pu_ 6 18 (bz 30 7) ?_
       refine pu_ 7 19 (bz 30 8) ?_
       refine pz_ 8 20 (bz 30 9) ?_
       refine pz_ 9 21 (bz 30 10) ?_
       refine pu_ 10 22 (bz 30 11) ?_
       refine pu_ 11 23 (bz 30 12) ?_
       refine pu_ 12 24 (bz 30 13) ?_
       refine pz_ 13 25 (bz 30 14) ?_
       refine pz_ 14 26 (bz 30 15) ?_
       refine pu_ 15 27 (bz 30 16) ?_
       refine pu_ 16 28 (bz 30 17) ?_
       refine pu_ 17 29 (bz 30 18) ?_
       refine pu_ 18 30 (bz 30 19) ?_
       refine pu_ 19 31 (bz 30 20) ?_
       refine pu_ 20 32 (bz 30 21) ?_
       refine pu_ 21 33 (bz 30 22) ?_
       refine pu_ 22 34 (bz 30 23) ?_
       refine pu_ 23 35 (bz 30 24) ?_
       refine pu_ 24 36 (bz 30 25) ?_
       refine pu_ 25 37 (bz 30 26) ?_
       refine pu_ 26 38 (bz 30 27) ?_
       refine pu_ 27 39 (bz 30 28) ?_
       refine pu_ 28 40 (bz 30 29) ?_
       refine pz_ 29 41 (bz 30 30) ?_
       refine zey (zcz HT_.out (by kernel_rfl)) ?_
       try go_wp2
       go_ret
       exact ⟨q5_, q0_⟩
      ·rw [if_neg c5] at H
       have c5b0 := bn_ c5
       have c5b1 := bn1_ c5
       obtain ⟨t132, A10, H⟩ := bi_ H
       try dsimp only at H
       by_cases c11 : t132 = true
       ·subst c11
        replace H := ifT_ H
        obtain ⟨t133, A12, H⟩ := bi_ H
        try dsimp only at H
        by_cases c13 : t133 = true
        ·subst c13
         replace H := ifT_ H
         obtain rfl := Option.some.inj H
         have p130 : 0 ≤ (x7_1 : Int) := of_decide_eq_true q4_
         have q130 : x7_1 < (l0.length : Int) := of_decide_eq_true q4_
         obtain ⟨ad130, A130_0, c130_0, e130, hx130_0, hx130_1, hl130_0, hi130_0⟩ := zhg HR0.out x7_1 p130 q130
         cases e130
         replace hx130_0 := hc_ HB.out hx130_0
         replace hx130_1 := hc_ HB.out hx130_1
         have HR130_0 := ak_ hi130_0
         have HC130_0 := ak_ hl130_0
         clear hi130_0 hl130_0
         replace p130 := eq_true p130
         replace q130 := eq_true q130
         try go_wp2_with (first | ((with_reducible refine gd_ 4 rfl ?_); refine by_ #[.slice none 0 0, .int .i64 0] 81 ?_; intro gb131 hg w14 BK131 hb; have GE131 := ak_ (q2_ : w.heap.size ≤ gb131); replace HB := bs_ hb; clear hb hg; have hz15 := bc2_ (w := w14) BK131.out))
         have n0_ : zab (((w14.setCell ⟨gb131, 0, none⟩ (.slice A130_0 ((zbh l0 x7_1).f0).length c130_0)).setCell ⟨gb131, 1, none⟩ (.int .i64 ((zbh l0 x7_1).f1))).heap[gb131]? = some (.cells #[.slice A130_0 ((zbh l0 x7_1).f0).length c130_0, .int .i64 ((zbh l0 x7_1).f1)] 81 (0, 0))) := ⟨q35_⟩
         have n1_ : zab (Below w.heap.size w ((w14.setCell ⟨gb131, 0, none⟩ (.slice A130_0 ((zbh l0 x7_1).f0).length c130_0)).setCell ⟨gb131, 1, none⟩ (.int .i64 ((zbh l0 x7_1).f1)))) := ⟨q0_⟩
         try clear BK131 HB
         generalize ((w14.setCell ⟨gb131, 0, none⟩ (.slice A130_0 ((zbh l0 x7_1).f0).length c130_0)).setCell ⟨gb131, 1, none⟩ (.int .i64 ((zbh l0 x7_1).f1))) = w16 at n0_ n1_ ⊢
         have BK131 := n0_
         have HB := n1_
         clear n0_ n1_
         replace BK131 := dB_ BK131
         replace HB := ak_ (zbn HB.out)
         refine zeq (n := 30) (S := fun w' => w'.cell? ⟨gb131, 0, none⟩ = some (.slice A130_0 ((zbh l0 x7_1).f0).length c130_0) ∧ w'.cell? ⟨gb131, 1, none⟩ = some (.int .i64 ((zbh l0 x7_1).f1))) (ds := []) (bz 30 0) (by kernel_rfl) rfl rfl (bs2_ BK131.out) (fun hHeld => ?_)
         refine zcw zbr.tab4 zbr.bits4 (fun HT_ HW_ => ?_)
         generalize w16.drew = w17 at BK131 HB hHeld ⊢
         refine pz_ 0 12 (bz 30 1) ?_
         refine tz2_ 1 13 (bz 30 2) hHeld ?_
         refine pz_ 2 14 (bz 30 3) ?_
         refine pz_ 3 15 (bz 30 4) ?_
         refine pz_ 4 16 (bz 30 5) ?_
         refine tz2_ 5 17 (bz 30 6) hHeld ?_
         refine oz_ 6 (some 18) (bz 30 7) (fun K hK => ?_)
         refine zfh Tryd.func73 (by kernel_rfl) rfl #[.int .i64 ((zbh l0 x7_1).f1)] (by rfl) rfl rfl q3_ ?_
         with_reducible refine (zeu.calls ((zbh l0 x7_1).f1) true _ A10.out).mono ?_
         rintro e w' ⟨rfl, ⟨nd, rfl⟩⟩
         refine ⟨_, rfl, ?_⟩
         refine hK.out _ _ (bs2_ BK131.out) (fun hHeld => ?_)
         clear hK K
         refine nz_ ?_
         refine pz_ 7 19 (bz 30 8) ?_
         refine pz_ 8 20 (bz 30 9) ?_
         refine pz_ 9 21 (bz 30 10) ?_
         refine pz_ 10 22 (bz 30 11) ?_
         refine tz2_ 11 23 (bz 30 12) hHeld ?_
         refine oz_ 12 (some 24) (bz 30 13) (fun K hK => ?_)
         refine zfh Tryd.func74 (by kernel_rfl) rfl #[.slice A130_0 ((zbh l0 x7_1).f0).length c130_0, (.func (.func 75) #[] #[])] (by rfl) rfl rfl q3_ ?_
         with_reducible refine ca_ (zbj.calls k1 _ _ ((zbh l0 x7_1).f0)  true _ ?side1 ?side2 A12.out q61_) ?_
         (case side1 => exact cx_ (Kd.zcc HR130_0.out q0_))
         (case side2 => exact HC130_0.out)
         intro w18 hb
         replace BK131 := bb_ q128_ hb
         replace HB := bs_ hb
         clear hb
         refine hK.out _ _ (bs2_ BK131.out) (fun hHeld => ?_)
         clear hK K
         refine nz_ ?_
         refine pz_ 13 25 (bz 30 14) ?_
         refine pz_ 14 26 (bz 30 15) ?_
         refine pu_ 15 27 (bz 30 16) ?_
         refine pu_ 16 28 (bz 30 17) ?_
         refine pu_ 17 29 (bz 30 18) ?_
         refine pu_ 18 30 (bz 30 19) ?_
         refine pu_ 19 31 (bz 30 20) ?_
         refine pu_ 20 32 (bz 30 21) ?_
         refine pu_ 21 33 (bz 30 22) ?_
         refine pu_ 22 34 (bz 30 23) ?_
         refine pu_ 23 35 (bz 30 24) ?_
         refine pu_ 24 36 (bz 30 25) ?_
         refine pu_ 25 37 (bz 30 26) ?_
         refine pu_ 26 38 (bz 30 27) ?_
         refine pu_ 27 39 (bz 30 28) ?_
         refine pu_ 28 40 (bz 30 29) ?_
         refine pz_ 29 41 (bz 30 30) ?_
         refine zey (zcz HT_.out (by kernel_rfl)) ?_
         try go_wp2
         go_ret
         exact ⟨q5_, q0_⟩
        ·replace c13 := Bool.eq_false_iff.mpr c13
         subst c13
         replace H := ifF_ H
         by_cases c19 : x7_1 > 0
         ·rw [if_pos c19] at H
          have c19b0 : decide (0 < x7_1) = true := decide_eq_true c19
          clear c19
          obtain ⟨ji20, hji20⟩ : ∃ j_ : Int, (wrap64 (x7_1 - 1)) = j_ := ⟨_, rfl⟩
          replace H : (if 0 ≤ (ji20) then (if (ji20) < (l0.length : Int) then ((zbp.f k1 ((zbh l0 (ji20)).f0) ((zbh l0 x7_1).f0)).bind fun t135 => (if t135 ≥ 0 then (some false) else (zbr.l0 k1 l0 l0 (l0.length : Int) (wrap64 (x7_1 + 1))))) else (none)) else (none)) = some r := by first | (rw [hji20] at H; exact H) | (simp only [hji20] at H ⊢; exact H)
          (try rw [hji20] at A10)
          (try rw [hji20] at A12)
          have hji20w : (IntKind.i64.wrap (x7_1 - 1)) = ji20 := (zhe _).trans hji20
          by_cases c21 : 0 ≤ (ji20)
          ·rw [if_pos c21] at H
           have c21b0 := decide_eq_true c21
           clear c21
           by_cases c22 : (ji20) < (l0.length : Int)
           ·rw [if_pos c22] at H
            have c22b0 := decide_eq_true c22
            clear c22
            obtain ⟨t135, A23, H⟩ := bi_ H
            replace H : (if t135 ≥ 0 then (some false) else (zbr.l0 k1 l0 l0 (l0.length : Int) (wrap64 (x7_1 + 1)))) = some r := H
            have p130 : 0 ≤ (x7_1 : Int) := of_decide_eq_true q4_
            have q130 : x7_1 < (l0.length : Int) := of_decide_eq_true q4_
            obtain ⟨ad130, A130_0, c130_0, e130, hx130_0, hx130_1, hl130_0, hi130_0⟩ := zhg HR0.out x7_1 p130 q130
            cases e130
            replace hx130_0 := hc_ HB.out hx130_0
            replace hx130_1 := hc_ HB.out hx130_1
            have HR130_0 := ak_ hi130_0
            have HC130_0 := ak_ hl130_0
            clear hi130_0 hl130_0
            replace p130 := eq_true p130
            replace q130 := eq_true q130
            try go_wp2_with (first | ((with_reducible refine gd_ 4 rfl ?_); refine by_ #[.slice none 0 0, .int .i64 0] 81 ?_; intro gb131 hg w25 BK131 hb; have GE131 := ak_ (q2_ : w.heap.size ≤ gb131); replace HB := bs_ hb; clear hb hg; have hz26 := bc2_ (w := w25) BK131.out))
            have n0_ : zab (((w25.setCell ⟨gb131, 0, none⟩ (.slice A130_0 ((zbh l0 x7_1).f0).length c130_0)).setCell ⟨gb131, 1, none⟩ (.int .i64 ((zbh l0 x7_1).f1))).heap[gb131]? = some (.cells #[.slice A130_0 ((zbh l0 x7_1).f0).length c130_0, .int .i64 ((zbh l0 x7_1).f1)] 81 (0, 0))) := ⟨q35_⟩
            have n1_ : zab (Below w.heap.size w ((w25.setCell ⟨gb131, 0, none⟩ (.slice A130_0 ((zbh l0 x7_1).f0).length c130_0)).setCell ⟨gb131, 1, none⟩ (.int .i64 ((zbh l0 x7_1).f1)))) := ⟨q0_⟩
            try clear BK131 HB
            generalize ((w25.setCell ⟨gb131, 0, none⟩ (.slice A130_0 ((zbh l0 x7_1).f0).length c130_0)).setCell ⟨gb131, 1, none⟩ (.int .i64 ((zbh l0 x7_1).f1))) = w27 at n0_ n1_ ⊢
            have BK131 := n0_
            have HB := n1_
            clear n0_ n1_
            replace BK131 := dB_ BK131
            replace HB := ak_ (zbn HB.out)
            have p134 : 0 ≤ ((ji20) : Int) := of_decide_eq_true q4_
            have q134 : (ji20) < (l0.length : Int) := of_decide_eq_true q4_
            obtain ⟨ad134, A134_0, c134_0, e134, hx134_0, hx134_1, hl134_0, hi134_0⟩ := zhg HR0.out (ji20) p134 q134
            have hw134_1 := hx134_1
            have hw134_0 := hx134_0
            obtain rfl : ad130 = ad134 := (by injection e134)
            replace hx134_0 := hc_ HB.out hx134_0
            replace hx134_1 := hc_ HB.out hx134_1
            have HR134_0 := ak_ hi134_0
            have HC134_0 := ak_ hl134_0
            clear hi134_0 hl134_0
            replace p134 := eq_true p134
            replace q134 := eq_true q134
            refine zeq (n := 30) (S := fun w' => w'.cell? ⟨gb131, 0, none⟩ = some (.slice A130_0 ((zbh l0 x7_1).f0).length c130_0) ∧ w'.cell? ⟨gb131, 1, none⟩ = some (.int .i64 ((zbh l0 x7_1).f1)) ∧ w'.cell? (ad130.add (((ji20)).toNat * 2)) = some (.slice A134_0 ((zbh l0 (ji20)).f0).length c134_0) ∧ w'.cell? ⟨(ad130.add (((ji20)).toNat * 2)).block, (ad130.add (((ji20)).toNat * 2)).off + 1, none⟩ = some (.int .i64 ((zbh l0 (ji20)).f1))) (ds := []) (bz 30 0) (by kernel_rfl) rfl rfl ⟨bt_ BK131.out 0, bt_ BK131.out 1, (hc_ HB.out hw134_0), (hc_ HB.out hw134_1)⟩ (fun hHeld => ?_)
            refine zcw zbr.tab4 zbr.bits4 (fun HT_ HW_ => ?_)
            generalize w27.drew = w28 at BK131 HB HR134_0 hx134_0 hx134_1 hHeld ⊢
            refine pz_ 0 12 (bz 30 1) ?_
            refine tz4_ 1 13 (bz 30 2) hHeld ?_
            refine pz_ 2 14 (bz 30 3) ?_
            refine pz_ 3 15 (bz 30 4) ?_
            refine pz_ 4 16 (bz 30 5) ?_
            refine tz4_ 5 17 (bz 30 6) hHeld ?_
            refine oz_ 6 (some 18) (bz 30 7) (fun K hK => ?_)
            refine zfh Tryd.func73 (by kernel_rfl) rfl #[.int .i64 ((zbh l0 x7_1).f1)] (by rfl) rfl rfl q3_ ?_
            with_reducible refine (zeu.calls ((zbh l0 x7_1).f1) true _ A10.out).mono ?_
            rintro e w' ⟨rfl, ⟨nd, rfl⟩⟩
            refine ⟨_, rfl, ?_⟩
            refine hK.out _ _ ⟨bt_ BK131.out 0, bt_ BK131.out 1, (hc_ HB.out hw134_0), (hc_ HB.out hw134_1)⟩ (fun hHeld => ?_)
            clear hK K
            refine nz_ ?_
            refine pz_ 7 19 (bz 30 8) ?_
            refine pz_ 8 20 (bz 30 9) ?_
            refine pz_ 9 21 (bz 30 10) ?_
            refine pz_ 10 22 (bz 30 11) ?_
            refine tz4_ 11 23 (bz 30 12) hHeld ?_
            refine oz_ 12 (some 24) (bz 30 13) (fun K hK => ?_)
            refine zfh Tryd.func74 (by kernel_rfl) rfl #[.slice A130_0 ((zbh l0 x7_1).f0).length c130_0, (.func (.func 75) #[] #[])] (by rfl) rfl rfl q3_ ?_
            with_reducible refine ca_ (zbj.calls k1 _ _ ((zbh l0 x7_1).f0)  false _ ?side1 ?side2 A12.out q61_) ?_
            (case side1 => exact cx_ (Kd.zcc HR130_0.out q0_))
            (case side2 => exact HC130_0.out)
            intro w29 hb
            replace BK131 := bb_ q128_ hb
            replace HB := bs_ hb
            clear hb
            refine hK.out _ _ ⟨bt_ BK131.out 0, bt_ BK131.out 1, (hc_ HB.out hw134_0), (hc_ HB.out hw134_1)⟩ (fun hHeld => ?_)
            clear hK K
            refine nz_ ?_
            refine pz_ 13 25 (bz 30 14) ?_
            refine pz_ 14 26 (bz 30 15) ?_
            refine pz_ 15 27 (bz 30 16) ?_
            refine pz_ 16 28 (bz 30 17) ?_
            refine pz_ 17 29 (bz 30 18) ?_
            refine pz_ 18 30 (bz 30 19) ?_
            refine pz_ 19 31 (bz 30 20) ?_
            refine pz_ 20 32 (bz 30 21) ?_
            refine pz_ 21 33 (bz 30 22) ?_
            refine pz_ 22 34 (bz 30 23) ?_
            refine pz_ 24 36 b22_31 ?_
            refine tz4_ 23 35 (bz 30 25) hHeld ?_
            refine tz4_ 25 37 (bz 30 26) hHeld ?_
            refine oz_ 26 (some 38) (bz 30 27) (fun K hK => ?_)
            refine zfh Tryd.func76 (by kernel_rfl) rfl #[.slice A134_0 ((zbh l0 (ji20)).f0).length c134_0, .slice A130_0 ((zbh l0 x7_1).f0).length c130_0] (by rfl) rfl rfl (by (try simp only [List.map_toArray, List.map_cons, List.map_nil]); first | done | (simp only [hji20]; rfl) | rfl | (simp only [List.length_drop, List.length_take]; rfl)) ?_
            with_reducible refine ca_ (zbp.calls k1 _ _ ((zbh l0 (ji20)).f0) _ _ ((zbh l0 x7_1).f0) t135 _ ?side1 ?side2 ?side3 ?side4 A23.out) ?_
            (case side1 => exact cx_ (Kd.zcc HR134_0.out HB.out))
            (case side2 => exact HC134_0.out)
            (case side3 => exact cx_ (Kd.zcc HR130_0.out HB.out))
            (case side4 => exact HC130_0.out)
            intro w30 hb
            replace BK131 := bb_ q128_ hb
            replace HB := bs_ hb
            clear hb
            refine hK.out _ _ ⟨bt_ BK131.out 0, bt_ BK131.out 1, (hc_ HB.out hw134_0), (hc_ HB.out hw134_1)⟩ (fun hHeld => ?_)
            clear hK K
            refine nz_ ?_
            by_cases c24 : t135 ≥ 0
            ·rw [if_pos c24] at H
             have c24b0 : decide (0 ≤ t135) = true := decide_eq_true c24
             clear c24
             obtain rfl := Option.some.inj H
             refine pz_ 27 39 (bz 30 28) ?_
             refine pz_ 28 40 (bz 30 29) ?_
             refine pz_ 29 41 (bz 30 30) ?_
             refine zey (zcz HT_.out (by kernel_rfl)) ?_
             try go_wp2
             go_ret
             exact ⟨by first | rfl | (simp [zdr, zds] <;> rfl) | (simp only [← hji20]; first | rfl | (simp [zdr, zds] <;> rfl)) | (simp [*, zdr, zds] <;> rfl), q0_⟩
            ·rw [if_neg c24] at H
             have c24b0 : decide (0 ≤ t135) = false := decide_eq_false c24
             clear c24
             have H' := ak_ H
             clear H
             refine pz_ 27 39 (bz 30 28) ?_
             refine pz_ 28 40 (bz 30 29) ?_
             refine pz_ 29 41 (bz 30 30) ?_
             refine zey (zcz HT_.out (by kernel_rfl)) ?_
             try go_wp2
             go_roundg k1
             case measure => have := HK1.out; omega
             case rel => exact ⟨(wrap64 (x7_1 + 1)), q8_, H', ⟨kq_⟩, ⟨q0_⟩⟩
           ·rw [if_neg c22] at H
            exact absurd H (by simp)
          ·rw [if_neg c21] at H
           exact absurd H (by simp)
         ·rw [if_neg c19] at H
          have c19b0 : decide (0 < x7_1) = false := decide_eq_false c19
          clear c19
          have H' := ak_ H
          clear H
          have p130 : 0 ≤ (x7_1 : Int) := of_decide_eq_true q4_
          have q130 : x7_1 < (l0.length : Int) := of_decide_eq_true q4_
          obtain ⟨ad130, A130_0, c130_0, e130, hx130_0, hx130_1, hl130_0, hi130_0⟩ := zhg HR0.out x7_1 p130 q130
          cases e130
          replace hx130_0 := hc_ HB.out hx130_0
          replace hx130_1 := hc_ HB.out hx130_1
          have HR130_0 := ak_ hi130_0
          have HC130_0 := ak_ hl130_0
          clear hi130_0 hl130_0
          replace p130 := eq_true p130
          replace q130 := eq_true q130
          try go_wp2_with (first | ((with_reducible refine gd_ 4 rfl ?_); refine by_ #[.slice none 0 0, .int .i64 0] 81 ?_; intro gb131 hg w37 BK131 hb; have GE131 := ak_ (q2_ : w.heap.size ≤ gb131); replace HB := bs_ hb; clear hb hg; have hz38 := bc2_ (w := w37) BK131.out))
          have n0_ : zab (((w37.setCell ⟨gb131, 0, none⟩ (.slice A130_0 ((zbh l0 x7_1).f0).length c130_0)).setCell ⟨gb131, 1, none⟩ (.int .i64 ((zbh l0 x7_1).f1))).heap[gb131]? = some (.cells #[.slice A130_0 ((zbh l0 x7_1).f0).length c130_0, .int .i64 ((zbh l0 x7_1).f1)] 81 (0, 0))) := ⟨q35_⟩
          have n1_ : zab (Below w.heap.size w ((w37.setCell ⟨gb131, 0, none⟩ (.slice A130_0 ((zbh l0 x7_1).f0).length c130_0)).setCell ⟨gb131, 1, none⟩ (.int .i64 ((zbh l0 x7_1).f1)))) := ⟨q0_⟩
          try clear BK131 HB
          generalize ((w37.setCell ⟨gb131, 0, none⟩ (.slice A130_0 ((zbh l0 x7_1).f0).length c130_0)).setCell ⟨gb131, 1, none⟩ (.int .i64 ((zbh l0 x7_1).f1))) = w39 at n0_ n1_ ⊢
          have BK131 := n0_
          have HB := n1_
          clear n0_ n1_
          replace BK131 := dB_ BK131
          replace HB := ak_ (zbn HB.out)
          refine zeq (n := 30) (S := fun w' => w'.cell? ⟨gb131, 0, none⟩ = some (.slice A130_0 ((zbh l0 x7_1).f0).length c130_0) ∧ w'.cell? ⟨gb131, 1, none⟩ = some (.int .i64 ((zbh l0 x7_1).f1))) (ds := []) (bz 30 0) (by kernel_rfl) rfl rfl (bs2_ BK131.out) (fun hHeld => ?_)
          refine zcw zbr.tab4 zbr.bits4 (fun HT_ HW_ => ?_)
          generalize w39.drew = w40 at BK131 HB hHeld ⊢
          refine pz_ 0 12 (bz 30 1) ?_
          refine tz2_ 1 13 (bz 30 2) hHeld ?_
          refine pz_ 2 14 (bz 30 3) ?_
          refine pz_ 3 15 (bz 30 4) ?_
          refine pz_ 4 16 (bz 30 5) ?_
          refine tz2_ 5 17 (bz 30 6) hHeld ?_
          refine oz_ 6 (some 18) (bz 30 7) (fun K hK => ?_)
          refine zfh Tryd.func73 (by kernel_rfl) rfl #[.int .i64 ((zbh l0 x7_1).f1)] (by rfl) rfl rfl q3_ ?_
          with_reducible refine (zeu.calls ((zbh l0 x7_1).f1) true _ A10.out).mono ?_
          rintro e w' ⟨rfl, ⟨nd, rfl⟩⟩
          refine ⟨_, rfl, ?_⟩
          refine hK.out _ _ (bs2_ BK131.out) (fun hHeld => ?_)
          clear hK K
          refine nz_ ?_
          refine pz_ 7 19 (bz 30 8) ?_
          refine pz_ 8 20 (bz 30 9) ?_
          refine pz_ 9 21 (bz 30 10) ?_
          refine pz_ 10 22 (bz 30 11) ?_
          refine tz2_ 11 23 (bz 30 12) hHeld ?_
          refine oz_ 12 (some 24) (bz 30 13) (fun K hK => ?_)
          refine zfh Tryd.func74 (by kernel_rfl) rfl #[.slice A130_0 ((zbh l0 x7_1).f0).length c130_0, (.func (.func 75) #[] #[])] (by rfl) rfl rfl q3_ ?_
          with_reducible refine ca_ (zbj.calls k1 _ _ ((zbh l0 x7_1).f0)  false _ ?side1 ?side2 A12.out q61_) ?_
          (case side1 => exact cx_ (Kd.zcc HR130_0.out q0_))
          (case side2 => exact HC130_0.out)
          intro w41 hb
          replace BK131 := bb_ q128_ hb
          replace HB := bs_ hb
          clear hb
          refine hK.out _ _ (bs2_ BK131.out) (fun hHeld => ?_)
          clear hK K
          refine nz_ ?_
          refine pz_ 13 25 (bz 30 14) ?_
          refine pz_ 14 26 (bz 30 15) ?_
          refine pz_ 15 27 (bz 30 16) ?_
          refine pz_ 16 28 (bz 30 17) ?_
          refine pz_ 17 29 (bz 30 18) ?_
          refine pu_ 18 30 (bz 30 19) ?_
          refine pu_ 19 31 (bz 30 20) ?_
          refine pu_ 20 32 (bz 30 21) ?_
          refine pu_ 21 33 (bz 30 22) ?_
          refine pu_ 22 34 (bz 30 23) ?_
          refine pu_ 23 35 (bz 30 24) ?_
          refine pu_ 24 36 (bz 30 25) ?_
          refine pu_ 25 37 (bz 30 26) ?_
          refine pu_ 26 38 (bz 30 27) ?_
          refine pu_ 27 39 (bz 30 28) ?_
          refine pz_ 28 40 (bz 30 29) ?_
          refine pz_ 29 41 (bz 30 30) ?_
          refine zey (zcz HT_.out (by kernel_rfl)) ?_
          try go_wp2
          go_roundg k1
          case measure => have := HK1.out; omega
          case rel => exact ⟨(wrap64 (x7_1 + 1)), q8_, H', ⟨kq_⟩, ⟨q0_⟩⟩
       ·replace c11 := Bool.eq_false_iff.mpr c11
        subst c11
        replace H := ifF_ H
        obtain rfl := Option.some.inj H
        have p130 : 0 ≤ (x7_1 : Int) := of_decide_eq_true q4_
        have q130 : x7_1 < (l0.length : Int) := of_decide_eq_true q4_
        obtain ⟨ad130, A130_0, c130_0, e130, hx130_0, hx130_1, hl130_0, hi130_0⟩ := zhg HR0.out x7_1 p130 q130
        cases e130
        replace hx130_0 := hc_ HB.out hx130_0
        replace hx130_1 := hc_ HB.out hx130_1
        have HR130_0 := ak_ hi130_0
        have HC130_0 := ak_ hl130_0
        clear hi130_0 hl130_0
        replace p130 := eq_true p130
        replace q130 := eq_true q130
        try go_wp2_with (first | ((with_reducible refine gd_ 4 rfl ?_); refine by_ #[.slice none 0 0, .int .i64 0] 81 ?_; intro gb131 hg w42 BK131 hb; have GE131 := ak_ (q2_ : w.heap.size ≤ gb131); replace HB := bs_ hb; clear hb hg; have hz43 := bc2_ (w := w42) BK131.out))
        have n0_ : zab (((w42.setCell ⟨gb131, 0, none⟩ (.slice A130_0 ((zbh l0 x7_1).f0).length c130_0)).setCell ⟨gb131, 1, none⟩ (.int .i64 ((zbh l0 x7_1).f1))).heap[gb131]? = some (.cells #[.slice A130_0 ((zbh l0 x7_1).f0).length c130_0, .int .i64 ((zbh l0 x7_1).f1)] 81 (0, 0))) := ⟨q35_⟩
        have n1_ : zab (Below w.heap.size w ((w42.setCell ⟨gb131, 0, none⟩ (.slice A130_0 ((zbh l0 x7_1).f0).length c130_0)).setCell ⟨gb131, 1, none⟩ (.int .i64 ((zbh l0 x7_1).f1)))) := ⟨q0_⟩
        try clear BK131 HB
        generalize ((w42.setCell ⟨gb131, 0, none⟩ (.slice A130_0 ((zbh l0 x7_1).f0).length c130_0)).setCell ⟨gb131, 1, none⟩ (.int .i64 ((zbh l0 x7_1).f1))) = w44 at n0_ n1_ ⊢
        have BK131 := n0_
        have HB := n1_
        clear n0_ n1_
        replace BK131 := dB_ BK131
        replace HB := ak_ (zbn HB.out)
        refine zeq (n := 30) (S := fun w' => w'.cell? ⟨gb131, 0, none⟩ = some (.slice A130_0 ((zbh l0 x7_1).f0).length c130_0) ∧ w'.cell? ⟨gb131, 1, none⟩ = some (.int .i64 ((zbh l0 x7_1).f1))) (ds := []) (bz 30 0) (by kernel_rfl) rfl rfl (bs2_ BK131.out) (fun hHeld => ?_)
        refine zcw zbr.tab4 zbr.bits4 (fun HT_ HW_ => ?_)
        generalize w44.drew = w45 at BK131 HB hHeld ⊢
        refine pz_ 0 12 (bz 30 1) ?_
        refine tz2_ 1 13 (bz 30 2) hHeld ?_
        refine pz_ 2 14 (bz 30 3) ?_
        refine pz_ 3 15 (bz 30 4) ?_
        refine pz_ 4 16 (bz 30 5) ?_
        refine tz2_ 5 17 (bz 30 6) hHeld ?_
        refine oz_ 6 (some 18) (bz 30 7) (fun K hK => ?_)
        refine zfh Tryd.func73 (by kernel_rfl) rfl #[.int .i64 ((zbh l0 x7_1).f1)] (by rfl) rfl rfl q3_ ?_
        with_reducible refine (zeu.calls ((zbh l0 x7_1).f1) false _ A10.out).mono ?_
        rintro e w' ⟨rfl, ⟨nd, rfl⟩⟩
        refine ⟨_, rfl, ?_⟩
        refine hK.out _ _ (bs2_ BK131.out) (fun hHeld => ?_)
        clear hK K
        refine nz_ ?_
        refine pz_ 7 19 (bz 30 8) ?_
        refine pz_ 8 20 (bz 30 9) ?_
        refine pz_ 9 21 (bz 30 10) ?_
        refine pu_ 10 22 (bz 30 11) ?_
        refine pu_ 11 23 (bz 30 12) ?_
        refine pu_ 12 24 (bz 30 13) ?_
        refine pz_ 13 25 (bz 30 14) ?_
        refine pz_ 14 26 (bz 30 15) ?_
        refine pu_ 15 27 (bz 30 16) ?_
        refine pu_ 16 28 (bz 30 17) ?_
        refine pu_ 17 29 (bz 30 18) ?_
        refine pu_ 18 30 (bz 30 19) ?_
        refine pu_ 19 31 (bz 30 20) ?_
        refine pu_ 20 32 (bz 30 21) ?_
        refine pu_ 21 33 (bz 30 22) ?_
        refine pu_ 22 34 (bz 30 23) ?_
        refine pu_ 23 35 (bz 30 24) ?_
        refine pu_ 24 36 (bz 30 25) ?_
        refine pu_ 25 37 (bz 30 26) ?_
        refine pu_ 26 38 (bz 30 27) ?_
        refine pu_ 27 39 (bz 30 28) ?_
        refine pu_ 28 40 (bz 30 29) ?_
        refine pz_ 29 41 (bz 30 30) ?_
        refine zey (zcz HT_.out (by kernel_rfl)) ?_
        try go_wp2
        go_ret
        exact ⟨q5_, q0_⟩
     ·rw [if_neg c4] at H
      exact absurd H (by simp)
    ·rw [if_neg c3] at H
     exact absurd H (by simp)
   ·rw [if_neg c2] at H
    have c2b0 := decide_eq_false c2
    clear c2
    obtain rfl := Option.some.inj H
    go_wp2
    go_ret
    exact ⟨q5_, q0_⟩

end Go.Proofs.YtchpbnabbjdfgaaDoor.P
