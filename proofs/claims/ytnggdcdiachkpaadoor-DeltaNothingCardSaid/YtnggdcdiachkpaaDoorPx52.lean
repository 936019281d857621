-- HALVED
import Derived.Test.YtnggdcdiachkpaaDoorPx0
import Derived.Test.YtnggdcdiachkpaaDoorPx30
import Derived.Test.YtnggdcdiachkpaaDoorPx4
namespace Go.Proofs.YtnggdcdiachkpaaDoor.P
open Go.RowKit Go.Proofs.YtnggdcdiachkpaaDoorW.PrintWords Go.Proofs.YtnggdcdiachkpaaDoorW.PrintLast Go.Proofs.YtnggdcdiachkpaaDoorW.PrintMore
attribute [local go_sem] zdl zeh zee zed zdc zdb zdn zdk   -- for this text's walks alone
set_option linter.unusedVariables false
set_option linter.unusedSimpArgs false
set_option maxHeartbeats 8000000
set_option maxRecDepth 100000

def zad.l0 : Nat → List (S80) → Int → Int → Int → Int → Int → ByteArray → Option (Int × Bool)
 | 0, _, _, _, _, _, _, _ => none
 | k + 1, x0, x8, x9, x10, x169000, x169001, x169002 => if x9 < x10 then (if 0 ≤ (wrap64 ((IntKind.u64.wrap (wrap64 (x9 + x10))) / 2)) then (if (wrap64 ((IntKind.u64.wrap (wrap64 (x9 + x10))) / 2)) < (x0.length : Int) then ((zda.f k ((zat x0 (wrap64 ((IntKind.u64.wrap (wrap64 (x9 + x10))) / 2))).f0.f0) ((zat x0 (wrap64 ((IntKind.u64.wrap (wrap64 (x9 + x10))) / 2))).f0.f1) ((zat x0 (wrap64 ((IntKind.u64.wrap (wrap64 (x9 + x10))) / 2))).f0.f2) ((zat x0 (wrap64 ((IntKind.u64.wrap (wrap64 (x9 + x10))) / 2))).f1.f0) ((zat x0 (wrap64 ((IntKind.u64.wrap (wrap64 (x9 + x10))) / 2))).f1.f1) x169000 x169001 x169002).bind fun t172 => (if t172 < 0 then (zad.l0 k x0 x8 (wrap64 ((wrap64 ((IntKind.u64.wrap (wrap64 (x9 + x10))) / 2)) + 1)) x10 x169000 x169001 x169002) else (zad.l0 k x0 x8 x9 (wrap64 ((IntKind.u64.wrap (wrap64 (x9 + x10))) / 2)) x169000 x169001 x169002))) else (none)) else (none)) else (if x9 < x8 then (if 0 ≤ x9 then (if x9 < (x0.length : Int) then ((zda.f k ((zat x0 x9).f0.f0) ((zat x0 x9).f0.f1) ((zat x0 x9).f0.f2) ((zat x0 x9).f1.f0) ((zat x0 x9).f1.f1) x169000 x169001 x169002).bind fun t170 => (some (x9, (t170 == 0)))) else (none)) else (none)) else (some (x9, false)))
def zad.f (k : Nat) (l0 : List (S80)) (a1_0 : Int) (a1_1 : Int) (a1_2 : ByteArray)  : Option (Int × Bool) := zad.l0 k l0 (l0.length : Int) 0 (l0.length : Int) a1_0 a1_1 a1_2
theorem zad.zci : ∀ k, (∀ y0 y1 y2 y3 y4 y5 y6, LeO (zad.l0 k y0 y1 y2 y3 y4 y5 y6) (zad.l0 (k + 1) y0 y1 y2 y3 y4 y5 y6))
 | 0 => fun _ _ _ _ _ _ _ r h => by simp [zad.l0] at h
 | k + 1 => by
  have ih0 := zad.zci k
  ·intro y0 y1 y2 y3 y4 y5 y6
   unfold zad.l0
   with_reducible repeat' first
   | apply ih0
   | apply zda.mono
   | apply LeO.refl
   | apply LeO.none
   | refine LeO.ite ?_ ?_
   | refine LeO.bind ?_ (fun _ => ?_)
theorem zad.mono : ∀ a0 a1 a2 a3 k, LeO (zad.f k a0 a1 a2 a3) (zad.f (k + 1) a0 a1 a2 a3) := by
 intro a0 a1 a2 a3 k
 have ih0 := zad.zci k
 unfold zad.f
 with_reducible repeat' first
   | apply ih0
   | apply zda.mono
   | apply LeO.refl
   | apply LeO.none
   | refine LeO.ite ?_ ?_
   | refine LeO.bind ?_ (fun _ => ?_)
def zad.T5 : Bool × List (List Nat × List Nat) := (true, [([], []), ([], []), ([], []), ([1, 2], [1, 2]), ([3], [3]), ([], []), ([0, 4, 5], [0, 4, 5]), ([6], [6])])
def zad.B5 : List Nat := [0, 0, 0, 6, 14, 0, 63, 127]
theorem zad.tab5 : rtab .any (opsOf Tryd.f44 5) = zad.T5 := by kernel_rfl
theorem zad.bits5 : zfc zad.T5.2 zad.B5 = true := by kernel_rfl
def zad.T8 : Bool × List (List Nat × List Nat) := (true, [([], []), ([], []), ([], []), ([1, 2], [1, 2]), ([3], [3]), ([4], [4]), ([4], [4]), ([4], [4]), ([6, 7, 4], [4, 6, 7]), ([8, 4], [4, 8]), ([4], [4]), ([5, 9, 10, 4, 4], [4, 5, 9, 10]), ([11, 4], [4, 11]), ([4, 12], [4, 12]), ([0, 11, 0], [0]), ([13, 14, 0, 1, 2, 3, 4, 5, 6, 7, 8, 9, 10, 11, 12, 13, 14], [13])])
def zad.B8 : List Nat := [0, 0, 0, 6, 14, 30, 30, 30, 222, 478, 30, 2046, 4094, 8190, 4095, 32767]
theorem zad.tab8 : rtab .any (opsOf Tryd.f44 8) = zad.T8 := by kernel_rfl
theorem zad.bits8 : zfc zad.T8.2 zad.B8 = true := by kernel_rfl
theorem zad.calls (k : Nat) (A0 : Option Addr) (c0 : Nat) (l0 : List (S80)) (a1_0 : Int) (a1_1 : Int) (a1_2 : ByteArray)  (r1 : Int) (r2 : Bool) (w : World) (hr0 : Kd.C k80 w A0 l0.length l0) (hc0 : l0.length ≤ c0) (h : zad.f k l0 a1_0 a1_1 a1_2 = some (r1, r2)) :
  Calls Tryd.prog 44 #[.slice A0 l0.length c0, .agg #[.int .i64 a1_0, .int .i64 a1_1, .string a1_2], (.func (.func 45) #[] #[])] w fun e w' => e = .returned (.tuple #[.int .i64 r1, .bool r2]) ∧ Below w.heap.size w w' := by
 have hu48 := Tryd.underlying48; have hu80 := Tryd.underlying80; have HR0 := ak_ hr0; have HC0 := ak_ hc0; clear hr0 hc0; have HB := ak_ (Below.refl w.heap.size w); have H : (zad.l0 k l0 (l0.length : Int) 0 (l0.length : Int) a1_0 a1_1 a1_2) = some (r1, r2) := h; clear h; have H' := ak_ H; clear H; go_enter Tryd.func44, Tryd.ntmps44; go_wp2_with (first | ((with_reducible refine gd_ 4 rfl ?_); refine by_ #[.int .i64 a1_0, .int .i64 a1_1, .string a1_2] 48 ?_; intro gb168 hg w4 BK168 hb; have GE168 := gw_ hg; replace HB := bs_ hb; clear hb hg)); go_loopg [9, 10] k (fun kq v9 v10 w' => ∃ (x9_1 : Int) (x10_1 : Int), v9 = .int .i64 x9_1 ∧ v10 = .int .i64 x10_1 ∧ zag (zad.l0 kq l0 (l0.length : Int) x9_1 x10_1 a1_0 a1_1 a1_2 = some (r1, r2)) ∧ zag (kq ≤ k) ∧ zag (w'.heap[gb168]? = some (.cells #[.int .i64 a1_0, .int .i64 a1_1, .string a1_2] 48 (0, 0))) ∧ zag (Below w.heap.size w w'))
 case atStart => exact ⟨(0), ((l0.length : Int)), q6_, q6_, H', ⟨Nat.le_refl _⟩, ⟨q161_⟩, ⟨q0_⟩⟩
 case round =>
  clear H'; obtain ⟨x9_1, x10_1, rfl, rfl, HA, HK1, BK168, HB⟩ := hrel
  cases gk with
  | zero => exact absurd HA.out (by simp [zad.l0])
  | succ k1 =>
   have H := HA.out; clear HA; simp only [zad.l0] at H
   by_cases c5 : x9_1 < x10_1
   ·rw [if_pos c5] at H; have c5b0 := decide_eq_true c5; clear c5; obtain ⟨ji6, hji6⟩ : ∃ j_ : Int, (wrap64 ((IntKind.u64.wrap (wrap64 (x9_1 + x10_1))) / 2)) = j_ := ⟨_, rfl⟩; replace H : (if 0 ≤ (ji6) then (if (ji6) < (l0.length : Int) then ((zda.f k1 ((zat l0 (ji6)).f0.f0) ((zat l0 (ji6)).f0.f1) ((zat l0 (ji6)).f0.f2) ((zat l0 (ji6)).f1.f0) ((zat l0 (ji6)).f1.f1) a1_0 a1_1 a1_2).bind fun t172 => (if t172 < 0 then (zad.l0 k1 l0 (l0.length : Int) (wrap64 ((ji6) + 1)) x10_1 a1_0 a1_1 a1_2) else (zad.l0 k1 l0 (l0.length : Int) x9_1 ji6 a1_0 a1_1 a1_2))) else (none)) else (none)) = some (r1, r2) := by first | (rw [hji6] at H; exact H) | (simp only [hji6] at H ⊢; exact H)
    have hji6w : (IntKind.i64.wrap ((IntKind.u64.wrap (wrap64 (x9_1 + x10_1))) / 2)) = ji6 := (zef _).trans hji6
    by_cases c7 : 0 ≤ (ji6)
    ·rw [if_pos c7] at H; have c7b0 := decide_eq_true c7; clear c7
     by_cases c8 : (ji6) < (l0.length : Int)
     ·rw [if_pos c8] at H; have c8b0 := decide_eq_true c8; clear c8; obtain ⟨t172, A9, H⟩ := bi_ H; try dsimp only at H
      try go_wp2
      replace BK168 := dB_ BK168; replace HB := ak_ (zbh HB.out); have p171 : 0 ≤ ((ji6) : Int) := of_decide_eq_true q5_; have q171 : (ji6) < (l0.length : Int) := of_decide_eq_true q5_; obtain ⟨ad171, A171_3, c171_3, e171, hx171_0, hx171_1, hx171_2, hx171_3, hx171_4, hl171_3, hi171_3⟩ := at_T80 HR0.out (ji6) p171 q171; have hw171_4 := hx171_4; have hw171_3 := hx171_3; have hw171_2 := hx171_2; have hw171_1 := hx171_1; have hw171_0 := hx171_0; cases e171; replace hx171_0 := hc_ HB.out hx171_0; replace hx171_1 := hc_ HB.out hx171_1; replace hx171_2 := hc_ HB.out hx171_2; replace hx171_3 := hc_ HB.out hx171_3; replace hx171_4 := hc_ HB.out hx171_4; have HR171_3 := ak_ hi171_3; have HC171_3 := ak_ hl171_3; clear hi171_3 hl171_3; replace p171 := eq_true p171; replace q171 := eq_true q171; refine zep (n := 8) (S := fun w' => w'.cell? ⟨gb168, 0, none⟩ = some (.int .i64 a1_0) ∧ w'.cell? ⟨gb168, 1, none⟩ = some (.int .i64 a1_1) ∧ w'.cell? ⟨gb168, 2, none⟩ = some (.string a1_2) ∧ w'.cell? (ad171.add (((ji6)).toNat * 5)) = some (.int .i64 ((zat l0 (ji6)).f0.f0)) ∧ w'.cell? ⟨(ad171.add (((ji6)).toNat * 5)).block, (ad171.add (((ji6)).toNat * 5)).off + 1, none⟩ = some (.int .i64 ((zat l0 (ji6)).f0.f1)) ∧ w'.cell? ⟨(ad171.add (((ji6)).toNat * 5)).block, (ad171.add (((ji6)).toNat * 5)).off + 2, none⟩ = some (.string ((zat l0 (ji6)).f0.f2)) ∧ w'.cell? ⟨(ad171.add (((ji6)).toNat * 5)).block, (ad171.add (((ji6)).toNat * 5)).off + 3, none⟩ = some (.slice A171_3 ((zat l0 (ji6)).f1.f0).length c171_3) ∧ w'.cell? ⟨(ad171.add (((ji6)).toNat * 5)).block, (ad171.add (((ji6)).toNat * 5)).off + 4, none⟩ = some (.int .i64 ((zat l0 (ji6)).f1.f1))) (ds := []) (bz 8 0) (by kernel_rfl) rfl rfl ⟨bt_ BK168.out 0, bt_ BK168.out 1, bt_ BK168.out 2, (hc_ HB.out hw171_0), (hc_ HB.out hw171_1), (hc_ HB.out hw171_2), (hc_ HB.out hw171_3), (hc_ HB.out hw171_4)⟩ (fun hHeld => ?_); refine zcv zad.tab5 zad.bits5 (fun HT_ HW_ => ?_); generalize wr.drew = w11 at BK168 HB HR171_3 hx171_0 hx171_1 hx171_2 hx171_3 hx171_4 hHeld ⊢; refine pz_ 0 24 (bz 8 1) ?_; refine pz_ 1 25 (bz 8 2) ?_; refine pz_ 2 26 (bz 8 3) ?_; refine pz_ 3 27 (bz 8 4) ?_; refine tz8_ 4 28 (bz 8 5) hHeld ?_; refine tz8_ 5 29 (bz 8 6) hHeld ?_; refine oz_ 6 (some 30) (bz 8 7) (fun K hK => ?_); refine goesT_ Tryd.func45 (by kernel_rfl) rfl #[.agg #[.int .i64 ((zat l0 (ji6)).f0.f0), .int .i64 ((zat l0 (ji6)).f0.f1), .string ((zat l0 (ji6)).f0.f2), .slice A171_3 ((zat l0 (ji6)).f1.f0).length c171_3, .int .i64 ((zat l0 (ji6)).f1.f1)], .agg #[.int .i64 a1_0, .int .i64 a1_1, .string a1_2]] (by rfl) rfl rfl (by rfl) (by (try simp only [List.map_toArray, List.map_cons, List.map_nil]); first | done | (simp only [hji6]; rfl) | rfl | (simp only [List.length_drop, List.length_take]; rfl)) ?_
      (with_reducible refine ca_ (zda.calls k1 ((zat l0 (ji6)).f0.f0) ((zat l0 (ji6)).f0.f1) ((zat l0 (ji6)).f0.f2) _ _ ((zat l0 (ji6)).f1.f0) ((zat l0 (ji6)).f1.f1) a1_0 a1_1 a1_2 t172 _ ?side1 ?side2 A9.out) ?_); (case side1 => exact cx_ (Kd.zam HR171_3.out HB.out)); (case side2 => exact HC171_3.out); intro w12 hb; replace BK168 := bb_ q161_ hb; replace HB := bs_ hb; clear hb; refine hK.out _ _ ⟨bt_ BK168.out 0, bt_ BK168.out 1, bt_ BK168.out 2, (hc_ HB.out hw171_0), (hc_ HB.out hw171_1), (hc_ HB.out hw171_2), (hc_ HB.out hw171_3), (hc_ HB.out hw171_4)⟩ (fun hHeld => ?_); clear hK K; refine nz_ ?_
      by_cases c10 : t172 < 0
      ·rw [if_pos c10] at H; have c10b0 := decide_eq_true c10; clear c10; have H' := ak_ H; clear H; refine pz_ 7 31 (bz 8 8) ?_; refine zfk (zdh HT_.out (by kernel_rfl)) ?_; try go_wp2
       go_roundg k1
       case measure => have := HK1.out; omega
       case rel => exact ⟨(wrap64 ((ji6) + 1)), (x10_1), (by first | rfl | (simp; done) | (simp only [← hji6] <;> (first | rfl | simp)) | (simp [*]; done)), q6_, H', ⟨kq_⟩, ⟨q161_⟩, ⟨q0_⟩⟩
      ·rw [if_neg c10] at H; have c10b0 := decide_eq_false c10; clear c10; have H' := ak_ H; clear H; refine pz_ 7 31 (bz 8 8) ?_; refine zfk (zdh HT_.out (by kernel_rfl)) ?_; try go_wp2
       go_roundg k1
       case measure => have := HK1.out; omega
       case rel => exact ⟨(x9_1), (ji6), q6_, (by first | rfl | (simp; done) | (simp only [← hji6] <;> (first | rfl | simp)) | (simp [*]; done)), H', ⟨kq_⟩, ⟨q161_⟩, ⟨q0_⟩⟩
     ·rw [if_neg c8] at H; exact absurd H (by simp)
    ·rw [if_neg c7] at H; exact absurd H (by simp)
   ·rw [if_neg c5] at H; have c5b0 := decide_eq_false c5; clear c5
    by_cases c15 : x9_1 < (l0.length : Int)
    ·rw [if_pos c15] at H; have c15b0 := decide_eq_true c15; clear c15
     by_cases c16 : 0 ≤ x9_1
     ·rw [if_pos c16] at H; have c16b0 := decide_eq_true c16; clear c16
      by_cases c17 : x9_1 < (l0.length : Int)
      ·rw [if_pos c17] at H; have c17b0 := decide_eq_true c17; clear c17; obtain ⟨t170, A18, H⟩ := bi_ H; replace H : (some (x9_1, (t170 == 0))) = some (r1, r2) := H; simp only [Option.some.injEq, Prod.mk.injEq] at H; obtain ⟨rfl, rfl⟩ := H; try go_wp2
       replace BK168 := dB_ BK168; replace HB := ak_ (zbh HB.out); have p169 : 0 ≤ (x9_1 : Int) := of_decide_eq_true q5_; have q169 : x9_1 < (l0.length : Int) := of_decide_eq_true q5_; obtain ⟨ad169, A169_3, c169_3, e169, hx169_0, hx169_1, hx169_2, hx169_3, hx169_4, hl169_3, hi169_3⟩ := at_T80 HR0.out x9_1 p169 q169; have hw169_4 := hx169_4; have hw169_3 := hx169_3; have hw169_2 := hx169_2; have hw169_1 := hx169_1; have hw169_0 := hx169_0; cases e169; replace hx169_0 := hc_ HB.out hx169_0; replace hx169_1 := hc_ HB.out hx169_1; replace hx169_2 := hc_ HB.out hx169_2; replace hx169_3 := hc_ HB.out hx169_3; replace hx169_4 := hc_ HB.out hx169_4; have HR169_3 := ak_ hi169_3; have HC169_3 := ak_ hl169_3; clear hi169_3 hl169_3; replace p169 := eq_true p169; replace q169 := eq_true q169; refine zep (n := 16) (S := fun w' => w'.cell? ⟨gb168, 0, none⟩ = some (.int .i64 a1_0) ∧ w'.cell? ⟨gb168, 1, none⟩ = some (.int .i64 a1_1) ∧ w'.cell? ⟨gb168, 2, none⟩ = some (.string a1_2) ∧ w'.cell? (ad169.add ((x9_1).toNat * 5)) = some (.int .i64 ((zat l0 x9_1).f0.f0)) ∧ w'.cell? ⟨(ad169.add ((x9_1).toNat * 5)).block, (ad169.add ((x9_1).toNat * 5)).off + 1, none⟩ = some (.int .i64 ((zat l0 x9_1).f0.f1)) ∧ w'.cell? ⟨(ad169.add ((x9_1).toNat * 5)).block, (ad169.add ((x9_1).toNat * 5)).off + 2, none⟩ = some (.string ((zat l0 x9_1).f0.f2)) ∧ w'.cell? ⟨(ad169.add ((x9_1).toNat * 5)).block, (ad169.add ((x9_1).toNat * 5)).off + 3, none⟩ = some (.slice A169_3 ((zat l0 x9_1).f1.f0).length c169_3) ∧ w'.cell? ⟨(ad169.add ((x9_1).toNat * 5)).block, (ad169.add ((x9_1).toNat * 5)).off + 4, none⟩ = some (.int .i64 ((zat l0 x9_1).f1.f1))) (ds := []) (bz 16 0) (by kernel_rfl) rfl rfl ⟨bt_ BK168.out 0, bt_ BK168.out 1, bt_ BK168.out 2, (hc_ HB.out hw169_0), (hc_ HB.out hw169_1), (hc_ HB.out hw169_2), (hc_ HB.out hw169_3), (hc_ HB.out hw169_4)⟩ (fun hHeld => ?_); refine zcv zad.tab8 zad.bits8 (fun HT_ HW_ => ?_); generalize wr.drew = w19 at BK168 HB HR169_3 hx169_0 hx169_1 hx169_2 hx169_3 hx169_4 hHeld ⊢; refine pz_ 0 35 (bz 16 1) ?_; refine pz_ 1 36 (bz 16 2) ?_; refine pz_ 2 37 (bz 16 3) ?_; refine pz_ 3 38 (bz 16 4) ?_; refine pz_ 4 39 (bz 16 5) ?_; refine pz_ 5 40 (bz 16 6) ?_; refine pz_ 6 41 (bz 16 7) ?_; refine pz_ 7 42 (bz 16 8) ?_; refine pz_ 8 43 (bz 16 9) ?_; refine tz8_ 9 44 (bz 16 10) hHeld ?_; refine tz8_ 10 45 (bz 16 11) hHeld ?_; refine oz_ 11 (some 46) (bz 16 12) (fun K hK => ?_); refine goesT_ Tryd.func45 (by kernel_rfl) rfl #[.agg #[.int .i64 ((zat l0 x9_1).f0.f0), .int .i64 ((zat l0 x9_1).f0.f1), .string ((zat l0 x9_1).f0.f2), .slice A169_3 ((zat l0 x9_1).f1.f0).length c169_3, .int .i64 ((zat l0 x9_1).f1.f1)], .agg #[.int .i64 a1_0, .int .i64 a1_1, .string a1_2]] (by rfl) rfl rfl (by rfl) q2_ ?_
       (with_reducible refine ca_ (zda.calls k1 ((zat l0 x9_1).f0.f0) ((zat l0 x9_1).f0.f1) ((zat l0 x9_1).f0.f2) _ _ ((zat l0 x9_1).f1.f0) ((zat l0 x9_1).f1.f1) a1_0 a1_1 a1_2 t170 _ ?side1 ?side2 A18.out) ?_); (case side1 => exact cx_ (Kd.zam HR169_3.out HB.out)); (case side2 => exact HC169_3.out); intro w20 hb; replace BK168 := bb_ q161_ hb; replace HB := bs_ hb; clear hb; refine hK.out _ _ ⟨bt_ BK168.out 0, bt_ BK168.out 1, bt_ BK168.out 2, (hc_ HB.out hw169_0), (hc_ HB.out hw169_1), (hc_ HB.out hw169_2), (hc_ HB.out hw169_3), (hc_ HB.out hw169_4)⟩ (fun hHeld => ?_); clear hK K; refine nz_ ?_; refine pz_ 12 47 (bz 16 13) ?_; refine pz_ 13 48 (bz 16 14) ?_; refine pz_ 14 6 (bz 16 15) ?_; refine pz_ 15 7 (bz 16 16) ?_; refine zfk (zdh HT_.out (by kernel_rfl)) ?_; try go_wp2
       go_ret2; exact ⟨q3_, q0_⟩
      ·rw [if_neg c17] at H; exact absurd H (by simp)
     ·rw [if_neg c16] at H; exact absurd H (by simp)
    ·rw [if_neg c15] at H; have c15b0 := decide_eq_false c15; clear c15; simp only [Option.some.injEq, Prod.mk.injEq] at H; obtain ⟨rfl, rfl⟩ := H; try go_wp2
     replace BK168 := dB_ BK168; replace HB := ak_ (zbh HB.out); refine zep (n := 16) (S := fun w' => True) (ds := []) (bz 16 0) (by kernel_rfl) rfl rfl trivial (fun hHeld => ?_); refine zcv zad.tab8 zad.bits8 (fun HT_ HW_ => ?_); generalize wr.drew = w21 at BK168 HB hHeld ⊢; refine pz_ 0 35 (bz 16 1) ?_; refine pz_ 1 36 (bz 16 2) ?_; refine pz_ 2 37 (bz 16 3) ?_; refine pz_ 3 38 (bz 16 4) ?_; refine pz_ 4 39 (bz 16 5) ?_; refine pu_ 5 40 (bz 16 6) ?_; refine pu_ 6 41 (bz 16 7) ?_; refine pu_ 7 42 (bz 16 8) ?_; refine pu_ 8 43 (bz 16 9) ?_; refine pu_ 9 44 (bz 16 10) ?_; refine pu_ 10 45 (bz 16 11) ?_; refine pu_ 11 46 (bz 16 12) ?_; refine pu_ 12 47 (bz 16 13) ?_; refine pz_ 13 48 (bz 16 14) ?_; refine pz_ 14 6 (bz 16 15) ?_; refine pz_ 15 7 (bz 16 16) ?_; refine zfk (zdh HT_.out (by kernel_rfl)) ?_; try go_wp2
     go_ret2; exact ⟨q3_, q0_⟩
def zdx.f (k : Nat) (l0_0 : List (S48)) (a0_1 : Int) (l1_0 : List (S48)) (a1_1 : Int) : Option (Int) := (zbp.f k l0_0 l1_0).bind fun t175 => (some t175)
theorem zdx.mono : ∀ a0 a1 a2 a3 k, LeO (zdx.f k a0 a1 a2 a3) (zdx.f (k + 1) a0 a1 a2 a3) := by
 intro a0 a1 a2 a3 k
 unfold zdx.f
 with_reducible repeat' first
   | apply zbp.mono
   | apply LeO.refl
   | apply LeO.none
   | refine LeO.ite ?_ ?_
   | refine LeO.bind ?_ (fun _ => ?_)
theorem zdx.calls (k : Nat) (A0_0 : Option Addr) (c0_0 : Nat) (l0_0 : List (S48)) (a0_1 : Int) (A1_0 : Option Addr) (c1_0 : Nat) (l1_0 : List (S48)) (a1_1 : Int) (r : Int) (w : World) (hr0_0 : Kd.C k48 w A0_0 l0_0.length l0_0) (hc0_0 : l0_0.length ≤ c0_0) (hr1_0 : Kd.C k48 w A1_0 l1_0.length l1_0) (hc1_0 : l1_0.length ≤ c1_0) (h : zdx.f k l0_0 a0_1 l1_0 a1_1 = some r) :
  Calls Tryd.prog 50 #[.agg #[.slice A0_0 l0_0.length c0_0, .int .i64 a0_1], .agg #[.slice A1_0 l1_0.length c1_0, .int .i64 a1_1]] w fun e w' => e = .returned (.int .i64 r) ∧ Below w.heap.size w w' := by
 have hu54 := Tryd.underlying54; have HR0_0 := ak_ hr0_0; have HC0_0 := ak_ hc0_0; clear hr0_0 hc0_0; have HR1_0 := ak_ hr1_0; have HC1_0 := ak_ hc1_0; clear hr1_0 hc1_0; have HB := ak_ (Below.refl w.heap.size w); have H : ((zbp.f k l0_0 l1_0).bind fun t175 => (some t175)) = some r := h; clear h; obtain ⟨t175, A3, H⟩ := bi_ H; replace H : (some t175) = some r := H; obtain rfl := Option.some.inj H; go_enter Tryd.func50, Tryd.ntmps50; go_wp2_with (first | ((with_reducible refine gd_ 2 rfl ?_); refine by_ #[.slice A0_0 l0_0.length c0_0, .int .i64 a0_1] 54 ?_; intro gb173 hg w4 BK173 hb; have GE173 := gw_ hg; replace HB := bs_ hb; clear hb hg) | ((with_reducible refine gd_ 3 rfl ?_); refine by_ #[.slice A1_0 l1_0.length c1_0, .int .i64 a1_1] 54 ?_; intro gb174 hg w5 BK174 hb; have GE174 := gw_ hg; have NB173_174 := nl_ hg q204_; have NB174_173 := ne_ NB173_174; replace BK173 := bb_ q204_ hb; replace HB := bs_ hb; clear hb hg; have hn6 := np_ NB173_174; have hz7 := bc2_ (w := w5) BK173.out; have hz8 := bc2_ (w := w5) BK174.out) | ((with_reducible refine gc_ 39 rfl ?_); refine gl_ 9 Tryd.func39 #[.slice A0_0 l0_0.length c0_0, .slice A1_0 l1_0.length c1_0] ?_; (with_reducible refine ca_ (zbp.calls k _ _ l0_0 _ _ l1_0 t175 _ ?side1 HC0_0.out ?side3 HC1_0.out A3.out) ?_); (case side1 => exact cx_ (Kd.zam HR0_0.out HB.out)); (case side3 => exact cx_ (Kd.zam HR1_0.out HB.out)); intro w9 hb; replace BK173 := bb_ q204_ hb; replace BK174 := ak_ (zdj (g := gb174) (o := .cells #[.slice A1_0 l1_0.length c1_0, .int .i64 a1_1] 54 (0, 0)) (by (with_reducible repeat first | apply bN_ | apply bD_ | apply bA_); exact BK174.out) hb); replace HB := bs_ hb; clear hb)); go_ret; exact ⟨q3_, q0_⟩
def s3_i (a b : Int) : Int := if a < b then -1 else if a > b then 1 else 0
def s3_b (a b : ByteArray) : Int := if Op.bytesLess a.toList b.toList = true then -1 else if Op.bytesLess b.toList a.toList = true then 1 else 0
def s3_o (a b c : Int) : Int := if a = 0 then (if b = 0 then c else b) else a
def s3_v (a b : S48) : Int := s3_o (s3_i a.f0 b.f0) (s3_i a.f1 b.f1) (s3_b a.f2 b.f2)
def zjf : List S48 → List S48 → Int
 | [], [] => 0
 | [], _ :: _ => -1
 | _ :: _, [] => 1
 | a :: l, b :: m => if s3_v a b = 0 then zjf l m else s3_v a b
def s3_lt (x y : S54) : Bool := decide (zjf x.f0 y.f0 < 0)
instance s3_inh : Inhabited S54 := ⟨z54⟩
def s3_ok (k : Nat) (l : List S54) : Prop := l.length ≤ 1000000 ∧ ∀ x ∈ z54 :: l, ∀ y ∈ z54 :: l, zdx.f k x.f0 x.f1 y.f0 y.f1 = some (zjf x.f0 y.f0)
instance s3_dec (k : Nat) (l : List S54) : Decidable (s3_ok k l) := by unfold s3_ok; infer_instance
def zbo.f (k : Nat) (l0 : List S54) : Option (List S54) := if s3_ok k l0 then some (Go.Stb.stable s3_lt l0.toArray).toList else none
theorem zbo.mono : ∀ a0 k, LeO (zbo.f k a0) (zbo.f (k + 1) a0) := by
 intro l k r h
 unfold zbo.f at h ⊢
 split at h
 ·rename_i hk
  rw [if_pos ⟨hk.1, fun x hx y hy => zdx.mono _ _ _ _ k _ (hk.2 x hx y hy)⟩]
  exact h
 ·cases h
theorem zbo.calls (k : Nat) (ok : Nat → Prop) (P_ : Nat → Prop) (u : Value) (l0 r : List S54) (w0 w : World) (hB : Below w0.heap.size w0 w) (ho : Kd.N k54 54 w w0.heap.size ok u l0 ∧ ∀ k, some k = u.ownBlock → P_ k) (h : zbo.f k l0 = some r) :
  Calls Tryd.prog 49 #[u, (.func (.func 50) #[] #[])] w fun e w' => e = .returned (.tuple #[]) ∧ Kd.N k54 54 w' w0.heap.size ok u r ∧ Below w0.heap.size w0 w' ∧ Kept w w' P_ := by
 unfold zbo.f at h; split at h
 case isFalse => cases h
 rename_i hk; injection h with h
 subst h
 exact sort_N (d := k54) (show Go.Proofs.Stb.zfg Tryd.prog k54.sz from Go.Proofs.Stb.stLays) 50 (fun x y => zjf x.f0 y.f0) _ (fun W ok => ziu W ok z54 (A0 := none) (c0 := 0) (Nat.le_refl _) (Kd.F_nil _ _ _)) l0
  (fun args w => enters_of Tryd.func50 (by decide) rfl args w) Tryd.underlying104
  (fun x hx y hy W cx cy kx ky => by
   obtain ⟨A0, c0, rfl, h1, h2⟩ := zhw kx; obtain ⟨A1, c1, rfl, h3, h4⟩ := zhw ky; exact zdx.calls k A0 c0 x.f0 x.f1 A1 c1 y.f0 y.f1 _ W h2 h1 h4 h3 (hk.2 x hx y hy))
  hk.1 P_ u w0 w hB ho.1 ho.2

end Go.Proofs.YtnggdcdiachkpaaDoor.P
