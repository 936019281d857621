-- HALVED
import Derived.Test.YtchpbnabbjdfgaaDoorPx0
namespace Go.Proofs.YtchpbnabbjdfgaaDoor.P
open Go.RowKit Go.Proofs.YtchpbnabbjdfgaaDoorW.PrintWords Go.Proofs.YtchpbnabbjdfgaaDoorW.PrintLast Go.Proofs.YtchpbnabbjdfgaaDoorW.PrintMore
attribute [local go_sem] zdo zfb zes zet zdb zdc zdp zdq   -- for this text's walks alone
set_option linter.unusedVariables false
set_option linter.unusedSimpArgs false
set_option maxHeartbeats 8000000
set_option maxRecDepth 100000
def zco.f  : Option (List ByteArray) := some (([(⟨#[115, 101, 108, 101, 99, 116]⟩ : ByteArray), (⟨#[102, 114, 111, 109]⟩ : ByteArray), (⟨#[106, 111, 105, 110]⟩ : ByteArray), (⟨#[111, 110]⟩ : ByteArray), (⟨#[119, 104, 101, 114, 101]⟩ : ByteArray), (⟨#[103, 114, 111, 117, 112]⟩ : ByteArray), (⟨#[98, 121]⟩ : ByteArray), (⟨#[97, 110, 100]⟩ : ByteArray), (⟨#[111, 114]⟩ : ByteArray), (⟨#[110, 111, 116]⟩ : ByteArray), (⟨#[105, 115]⟩ : ByteArray), (⟨#[110, 117, 108, 108]⟩ : ByteArray), (⟨#[116, 114, 117, 101]⟩ : ByteArray), (⟨#[102, 97, 108, 115, 101]⟩ : ByteArray), (⟨#[99, 111, 117, 110, 116]⟩ : ByteArray), (⟨#[115, 117, 109]⟩ : ByteArray), (⟨#[109, 105, 110]⟩ : ByteArray), (⟨#[109, 97, 120]⟩ : ByteArray)] : List ByteArray))
theorem zco.calls  (r : List ByteArray) (w : World) (h : zco.f  = some r) :
  Calls Tryd.prog 96 #[] w fun e w' => ∃ v0_ : Value, e = .returned (v0_) ∧ Kd.R Kd.string 9 w' w.heap.size (fun _ => True) v0_ r ∧ Below w.heap.size w w' := by
 have HB := ak_ (Below.refl w.heap.size w); have H := h; unfold zco.f at H; clear h; obtain ⟨y276, hy276⟩ : ∃ y_ : List ByteArray, y_ = (([(⟨#[115, 101, 108, 101, 99, 116]⟩ : ByteArray), (⟨#[102, 114, 111, 109]⟩ : ByteArray), (⟨#[106, 111, 105, 110]⟩ : ByteArray), (⟨#[111, 110]⟩ : ByteArray), (⟨#[119, 104, 101, 114, 101]⟩ : ByteArray), (⟨#[103, 114, 111, 117, 112]⟩ : ByteArray), (⟨#[98, 121]⟩ : ByteArray), (⟨#[97, 110, 100]⟩ : ByteArray), (⟨#[111, 114]⟩ : ByteArray), (⟨#[110, 111, 116]⟩ : ByteArray), (⟨#[105, 115]⟩ : ByteArray), (⟨#[110, 117, 108, 108]⟩ : ByteArray), (⟨#[116, 114, 117, 101]⟩ : ByteArray), (⟨#[102, 97, 108, 115, 101]⟩ : ByteArray), (⟨#[99, 111, 117, 110, 116]⟩ : ByteArray), (⟨#[115, 117, 109]⟩ : ByteArray), (⟨#[109, 105, 110]⟩ : ByteArray), (⟨#[109, 97, 120]⟩ : ByteArray)] : List ByteArray)) := ⟨_, rfl⟩; replace H : (some y276) = some r := by first | (rw [hy276]; with_reducible exact H) | (have H2_ := (Option.bind_some _ _).symm.trans H; rw [hy276]; with_reducible exact H2_) | (have H2_ := (Option.bind_some _ _).symm.trans H; with_reducible exact H2_) | with_reducible exact H | (rw [hy276]; exact H) | exact H
 have Ny276 := ak_ hy276; clear hy276; obtain rfl := Option.some.inj H; go_enter Tryd.func96, Tryd.ntmps96
 go_wp2_with (first | ((with_reducible refine gd_ 1 rfl ?_); refine Kd.R_lit Kd.string _ 9 ?hg (N := 1) ?hd (xs := ([(⟨#[115, 101, 108, 101, 99, 116]⟩ : ByteArray), (⟨#[102, 114, 111, 109]⟩ : ByteArray), (⟨#[106, 111, 105, 110]⟩ : ByteArray), (⟨#[111, 110]⟩ : ByteArray), (⟨#[119, 104, 101, 114, 101]⟩ : ByteArray), (⟨#[103, 114, 111, 117, 112]⟩ : ByteArray), (⟨#[98, 121]⟩ : ByteArray), (⟨#[97, 110, 100]⟩ : ByteArray), (⟨#[111, 114]⟩ : ByteArray), (⟨#[110, 111, 116]⟩ : ByteArray), (⟨#[105, 115]⟩ : ByteArray), (⟨#[110, 117, 108, 108]⟩ : ByteArray), (⟨#[116, 114, 117, 101]⟩ : ByteArray), (⟨#[102, 97, 108, 115, 101]⟩ : ByteArray), (⟨#[99, 111, 117, 110, 116]⟩ : ByteArray), (⟨#[115, 117, 109]⟩ : ByteArray), (⟨#[109, 105, 110]⟩ : ByteArray), (⟨#[109, 97, 120]⟩ : ByteArray)] : List ByteArray)) (inner := [.string (⟨#[115, 101, 108, 101, 99, 116]⟩ : ByteArray), .string (⟨#[102, 114, 111, 109]⟩ : ByteArray), .string (⟨#[106, 111, 105, 110]⟩ : ByteArray), .string (⟨#[111, 110]⟩ : ByteArray), .string (⟨#[119, 104, 101, 114, 101]⟩ : ByteArray), .string (⟨#[103, 114, 111, 117, 112]⟩ : ByteArray), .string (⟨#[98, 121]⟩ : ByteArray), .string (⟨#[97, 110, 100]⟩ : ByteArray), .string (⟨#[111, 114]⟩ : ByteArray), .string (⟨#[110, 111, 116]⟩ : ByteArray), .string (⟨#[105, 115]⟩ : ByteArray), .string (⟨#[110, 117, 108, 108]⟩ : ByteArray), .string (⟨#[116, 114, 117, 101]⟩ : ByteArray), .string (⟨#[102, 97, 108, 115, 101]⟩ : ByteArray), .string (⟨#[99, 111, 117, 110, 116]⟩ : ByteArray), .string (⟨#[115, 117, 109]⟩ : ByteArray), .string (⟨#[109, 105, 110]⟩ : ByteArray), .string (⟨#[109, 97, 120]⟩ : ByteArray)]) (ok := fun _ => True) (okp := fun _ => True) ?hr ?hp (fun _ hk => hk) trivial (Below.refl _ _) (Nat.le_refl _) (by simp) ?_; (case hd => rfl); (case hg => rfl); (case hr => first | (go_simp; done) | (go_simp; rfl)); (case hp => exact (Reps.one (show Kd.M Kd.string _ _ _ (⟨#[115, 101, 108, 101, 99, 116]⟩ : ByteArray) [.string (⟨#[115, 101, 108, 101, 99, 116]⟩ : ByteArray)] from rfl) (Reps.one (show Kd.M Kd.string _ _ _ (⟨#[102, 114, 111, 109]⟩ : ByteArray) [.string (⟨#[102, 114, 111, 109]⟩ : ByteArray)] from rfl) (Reps.one (show Kd.M Kd.string _ _ _ (⟨#[106, 111, 105, 110]⟩ : ByteArray) [.string (⟨#[106, 111, 105, 110]⟩ : ByteArray)] from rfl) (Reps.one (show Kd.M Kd.string _ _ _ (⟨#[111, 110]⟩ : ByteArray) [.string (⟨#[111, 110]⟩ : ByteArray)] from rfl) (Reps.one (show Kd.M Kd.string _ _ _ (⟨#[119, 104, 101, 114, 101]⟩ : ByteArray) [.string (⟨#[119, 104, 101, 114, 101]⟩ : ByteArray)] from rfl) (Reps.one (show Kd.M Kd.string _ _ _ (⟨#[103, 114, 111, 117, 112]⟩ : ByteArray) [.string (⟨#[103, 114, 111, 117, 112]⟩ : ByteArray)] from rfl) (Reps.one (show Kd.M Kd.string _ _ _ (⟨#[98, 121]⟩ : ByteArray) [.string (⟨#[98, 121]⟩ : ByteArray)] from rfl) (Reps.one (show Kd.M Kd.string _ _ _ (⟨#[97, 110, 100]⟩ : ByteArray) [.string (⟨#[97, 110, 100]⟩ : ByteArray)] from rfl) (Reps.one (show Kd.M Kd.string _ _ _ (⟨#[111, 114]⟩ : ByteArray) [.string (⟨#[111, 114]⟩ : ByteArray)] from rfl) (Reps.one (show Kd.M Kd.string _ _ _ (⟨#[110, 111, 116]⟩ : ByteArray) [.string (⟨#[110, 111, 116]⟩ : ByteArray)] from rfl) (Reps.one (show Kd.M Kd.string _ _ _ (⟨#[105, 115]⟩ : ByteArray) [.string (⟨#[105, 115]⟩ : ByteArray)] from rfl) (Reps.one (show Kd.M Kd.string _ _ _ (⟨#[110, 117, 108, 108]⟩ : ByteArray) [.string (⟨#[110, 117, 108, 108]⟩ : ByteArray)] from rfl) (Reps.one (show Kd.M Kd.string _ _ _ (⟨#[116, 114, 117, 101]⟩ : ByteArray) [.string (⟨#[116, 114, 117, 101]⟩ : ByteArray)] from rfl) (Reps.one (show Kd.M Kd.string _ _ _ (⟨#[102, 97, 108, 115, 101]⟩ : ByteArray) [.string (⟨#[102, 97, 108, 115, 101]⟩ : ByteArray)] from rfl) (Reps.one (show Kd.M Kd.string _ _ _ (⟨#[99, 111, 117, 110, 116]⟩ : ByteArray) [.string (⟨#[99, 111, 117, 110, 116]⟩ : ByteArray)] from rfl) (Reps.one (show Kd.M Kd.string _ _ _ (⟨#[115, 117, 109]⟩ : ByteArray) [.string (⟨#[115, 117, 109]⟩ : ByteArray)] from rfl) (Reps.one (show Kd.M Kd.string _ _ _ (⟨#[109, 105, 110]⟩ : ByteArray) [.string (⟨#[109, 105, 110]⟩ : ByteArray)] from rfl) (Reps.one (show Kd.M Kd.string _ _ _ (⟨#[109, 97, 120]⟩ : ByteArray) [.string (⟨#[109, 97, 120]⟩ : ByteArray)] from rfl) (Reps.none _ _)))))))))))))))))))); intro v277 w1 ho2 hb hg_ hnew_; clear hg_ hnew_; (first | rw [← Ny276.out] at ho2 | (simp only [Int.reduceToNat] at ho2; rw [← Ny276.out] at ho2)); have HO278 := ak_ (Kd.R_lower ho2 (zcf q0_)); replace HB := bs_ hb; clear hb ho2))
 go_ret; exact ⟨_, q4_, by (with_reducible repeat (first | apply Kd.zhx | apply Kd.zhy | apply Kd.zie)); exact HO278.out, q0_⟩
def zbf.l0 : Nat → ByteArray → List ByteArray → Int → Option (Bool)
 | 0, _, _, _ => none
 | k + 1, x0, x3, x4 => if x4 < (x3.length : Int) then (if 0 ≤ x4 then (if (rdOf ByteArray.empty x3 x4).toList = x0.toList then (some true) else (zbf.l0 k x0 x3 (wrap64 (x4 + 1)))) else (none)) else (some false)
def zbf.f (k : Nat) (a0 : ByteArray) : Option (Bool) := (zco.f).bind fun t279 => (zbf.l0 k a0 t279 0)
theorem zbf.zbt : ∀ k, (∀ y0 y1 y2, LeO (zbf.l0 k y0 y1 y2) (zbf.l0 (k + 1) y0 y1 y2))
 | 0 => fun _ _ _ r h => by simp [zbf.l0] at h
 | k + 1 => by
  have ih0 := zbf.zbt k
  ·intro y0 y1 y2
   unfold zbf.l0
   with_reducible repeat' first
   | apply ih0
   | apply LeO.refl
   | apply LeO.none
   | refine LeO.ite ?_ ?_
   | refine LeO.bind ?_ (fun _ => ?_)
theorem zbf.mono : ∀ a0 k, LeO (zbf.f k a0) (zbf.f (k + 1) a0) := by
 intro a0 k
 have ih0 := zbf.zbt k
 unfold zbf.f
 with_reducible repeat' first
   | apply ih0
   | apply LeO.refl
   | apply LeO.none
   | refine LeO.ite ?_ ?_
   | refine LeO.bind ?_ (fun _ => ?_)
theorem zbf.calls (k : Nat) (a0 : ByteArray) (r : Bool) (w : World) (h : zbf.f k a0 = some r) :
  Calls Tryd.prog 83 #[.string a0] w fun e w' => e = .returned (.bool r) ∧ Below w.heap.size w w' := by
 have HB := ak_ (Below.refl w.heap.size w); have H : ((zco.f).bind fun t279 => (zbf.l0 k a0 t279 0)) = some r := h; clear h; obtain ⟨t279, A2, H⟩ := bi_ H; replace H : (zbf.l0 k a0 t279 0) = some r := H; have H' := ak_ H; clear H; go_enter Tryd.func83, Tryd.ntmps83; go_wp2_with (first | ((with_reducible refine gc_ 96 rfl ?_); refine gl_ 5 Tryd.func96 #[] ?_; (with_reducible refine (zco.calls  t279 _ A2.out).mono ?_); rintro e w3 ⟨v280, rfl, ho0, hb⟩; refine ⟨_, rfl, ?_⟩; have HO281 := ak_ (Kd.R_lower ho0 (zcf q0_)); replace HB := bs_ hb; clear hb; (try clear ho0))); go_loopg [4] k (fun kq v4 w' => ∃ (x4_1 : Int), v4 = .int .i64 x4_1 ∧ zad (zbf.l0 kq a0 t279 x4_1 = some r) ∧ zad (kq ≤ k) ∧ zad (Kd.R Kd.string 9 w' w.heap.size (fun _ => True) v280 t279) ∧ zad (Below w.heap.size w w'))
 case atStart => exact ⟨(0), q5_, H', ⟨Nat.le_refl _⟩, ⟨by (with_reducible repeat (first | apply Kd.zhx | apply Kd.zhy | apply Kd.zie)); exact HO281.out⟩, ⟨q0_⟩⟩
 case round =>
  clear H'; obtain ⟨x4_1, rfl, HA, HK1, HO_3, HB⟩ := hrel
  cases gk with
  | zero => exact absurd HA.out (by simp [zbf.l0])
  | succ k1 =>
   have H := HA.out; clear HA; simp only [zbf.l0] at H; obtain ⟨Ao7, co7, eo7⟩ := Kd.R_slice HO_3.out; subst eo7
   by_cases c4 : x4_1 < (t279.length : Int)
   ·rw [if_pos c4] at H; have c4b0 := decide_eq_true c4; clear c4
    by_cases c5 : 0 ≤ x4_1
    ·rw [if_pos c5] at H; have c5b0 := decide_eq_true c5; clear c5; have p282 : 0 ≤ (x4_1 : Int) := of_decide_eq_true q3_; have q282 : x4_1 < (t279.length : Int) := of_decide_eq_true q3_; obtain ⟨ad282, e282, hx282_0⟩ := Kd.at_string (Kd.zfv HO_3.out).2.2 x4_1 p282 q282; cases e282; replace p282 := eq_true p282; replace q282 := eq_true q282
     by_cases c6 : (rdOf ByteArray.empty t279 x4_1).toList = a0.toList
     ·rw [if_pos c6] at H; have c6b0 : ((rdOf ByteArray.empty t279 x4_1).toList == a0.toList) = true := beq_iff_eq.mpr c6; have c6b1 : ((rdOf ByteArray.empty t279 x4_1).toList != a0.toList) = false := bne_eq_false_iff_eq.mpr c6; clear c6; obtain rfl := Option.some.inj H; go_wp2; go_ret; exact ⟨q4_, q0_⟩
     ·rw [if_neg c6] at H; have c6b0 : ((rdOf ByteArray.empty t279 x4_1).toList == a0.toList) = false := beq_eq_false_iff_ne.mpr c6; have c6b1 : ((rdOf ByteArray.empty t279 x4_1).toList != a0.toList) = true := bne_iff_ne.mpr c6; have H' := ak_ H; clear H; go_wp2; go_roundg k1
      case measure => have := HK1.out; omega
      case rel => exact ⟨(wrap64 (x4_1 + 1)), q5_, H', ⟨kq_⟩, ⟨by (with_reducible repeat (first | apply Kd.zhx | apply Kd.zhy | apply Kd.zie)); exact HO_3.out⟩, ⟨q0_⟩⟩
    ·rw [if_neg c5] at H; exact absurd H (by simp)
   ·rw [if_neg c4] at H; have c4b0 := decide_eq_false c4; clear c4; obtain rfl := Option.some.inj H; go_wp2; go_ret; exact ⟨q4_, q0_⟩
mutual
def zaj.j0 : Nat → ByteArray → Bool → Option (Bool)
 | 0, _, _ => none
 | k + 1, x0, x21 => if x21 = true then (some false) else (zaj.l0 k x0 0)
def zaj.l0 : Nat → ByteArray → Int → Option (Bool)
 | 0, _, _ => none
 | k + 1, x0, x3 => if x3 < (x0.size : Int) then (if 0 ≤ x3 then (if (bt x0 x3) ≥ 97 then (if (bt x0 x3) ≤ 122 then (zaj.l0 k x0 (wrap64 (x3 + 1))) else (if (bt x0 x3) ≥ 48 then (if (bt x0 x3) ≤ 57 then (zaj.l0 k x0 (wrap64 (x3 + 1))) else (if ((bt x0 x3) = 95) then (zaj.l0 k x0 (wrap64 (x3 + 1))) else (some false))) else (if ((bt x0 x3) = 95) then (zaj.l0 k x0 (wrap64 (x3 + 1))) else (some false)))) else (if (bt x0 x3) ≥ 48 then (if (bt x0 x3) ≤ 57 then (zaj.l0 k x0 (wrap64 (x3 + 1))) else (if ((bt x0 x3) = 95) then (zaj.l0 k x0 (wrap64 (x3 + 1))) else (some false))) else (if ((bt x0 x3) = 95) then (zaj.l0 k x0 (wrap64 (x3 + 1))) else (some false)))) else (none)) else (if 0 < (x0.size : Int) then (if (bt x0 0) = 95 then (some false) else (some (decide ((bt x0 0) ≤ 122)))) else (none))
end
def zaj.f (k : Nat) (a0 : ByteArray) : Option (Bool) := if (a0.size : Int) = 0 then (zaj.j0 k a0 true) else (if (a0.size : Int) > 16 then (zaj.j0 k a0 true) else (if 0 < (a0.size : Int) then (if (bt a0 0) < 97 then (zaj.j0 k a0 true) else ((zbf.f k a0).bind fun t283 => (zaj.j0 k a0 t283))) else (none)))
theorem zaj.zbt : ∀ k, (∀ y0 y1, LeO (zaj.j0 k y0 y1) (zaj.j0 (k + 1) y0 y1)) ∧ (∀ y0 y1, LeO (zaj.l0 k y0 y1) (zaj.l0 (k + 1) y0 y1))
 | 0 => ⟨fun _ _ r h => by simp [zaj.j0] at h, fun _ _ r h => by simp [zaj.l0] at h⟩
 | k + 1 => by
  obtain ⟨ih0, ih1⟩ := zaj.zbt k
  refine ⟨?_, ?_⟩
  all_goals intros
  all_goals first
   | unfold zaj.j0
   | unfold zaj.l0
  all_goals with_reducible repeat' first
   | apply ih0
   | apply ih1
   | apply zbf.mono
   | apply LeO.refl
   | apply LeO.none
   | refine LeO.ite ?_ ?_
   | refine LeO.bind ?_ (fun _ => ?_)
theorem zaj.mono : ∀ a0 k, LeO (zaj.f k a0) (zaj.f (k + 1) a0) := by
 intro a0 k
 obtain ⟨ih0, ih1⟩ := zaj.zbt k
 unfold zaj.f
 with_reducible repeat' first
   | apply ih0
   | apply ih1
   | apply zbf.mono
   | apply LeO.refl
   | apply LeO.none
   | refine LeO.ite ?_ ?_
   | refine LeO.bind ?_ (fun _ => ?_)
theorem zaj.calls (k : Nat) (a0 : ByteArray) (r : Bool) (w : World) (h : zaj.f k a0 = some r) :
  Calls Tryd.prog 53 #[.string a0] w fun e w' => e = .returned (.bool r) ∧ Below w.heap.size w w' := by
 have HB := ak_ (Below.refl w.heap.size w); have H := h; unfold zaj.f at H; clear h; have HC2 := ak_ H; clear H; go_enter Tryd.func53, Tryd.ntmps53; go_upto_region 1 with (fail)
 go_cut [21] (fun v21 wc => ∃ (kq : Nat) (x21_1 : Bool), v21 = .bool x21_1 ∧ zad (zaj.j0 kq a0 x21_1 = some r) ∧ zad (kq ≤ k) ∧ zad (Below w.heap.size w wc))
 case first =>
  have H := HC2.out; clear HC2
  by_cases c3 : (a0.size : Int) = 0
  ·rw [if_pos c3] at H; have c3b0 := bq_ c3; have c3b1 := bq0_ c3; clear c3; (first | rw [c3b0] | (simp only [zfu, zgu]; rw [c3b0]) | skip); have H' := ak_ H; clear H; go_wp2; go_meet
   case rel => exact ⟨_, (true), q5_, H', ⟨by first | omega | exact Nat.le_refl _⟩, ⟨q0_⟩⟩
  ·rw [if_neg c3] at H; have c3b0 := bn_ c3; have c3b1 := bn1_ c3; (first | rw [c3b0] | (simp only [zfu, zgu]; rw [c3b0]) | skip)
   by_cases c4 : (a0.size : Int) > 16
   ·rw [if_pos c4] at H; have c4b0 : decide (16 < (a0.size : Int)) = true := decide_eq_true c4; have c4b1 : decide (16 < a0.size) = true := decide_eq_true (by omega); clear c4; have H' := ak_ H; clear H; go_wp2; go_meet
    case rel => exact ⟨_, (true), q5_, H', ⟨by first | omega | exact Nat.le_refl _⟩, ⟨q0_⟩⟩
   ·rw [if_neg c4] at H; have c4b0 : decide (16 < (a0.size : Int)) = false := decide_eq_false c4; have c4b1 : decide (16 < a0.size) = false := decide_eq_false (by omega); clear c4
    by_cases c5 : 0 < (a0.size : Int)
    ·rw [if_pos c5] at H; have c5b0 := decide_eq_true c5; have c5b1 : decide (0 < a0.size) = true := decide_eq_true (by omega); clear c5; have p6 : 0 ≤ (0 : Int) := (by omega); have q6 : 0 < a0.size := (by have : (0 : Int) < (a0.size : Int) := of_decide_eq_true q3_; omega); have hx6 : ∀ h : 0 < a0.size, ((a0[0]'h).toNat : Int) = bt a0 0 := zii a0 0; clear p6; have qi6 : (0 < (a0.size : Int)) = True := eq_true (of_decide_eq_true q3_); replace q6 := eq_true q6
     by_cases c7 : (bt a0 0) < 97
     ·rw [if_pos c7] at H; have c7b0 := decide_eq_true c7; clear c7; have H' := ak_ H; clear H; go_wp2; go_meet
      case rel => exact ⟨_, (true), q5_, H', ⟨by first | omega | exact Nat.le_refl _⟩, ⟨q0_⟩⟩
     ·rw [if_neg c7] at H; have c7b0 := decide_eq_false c7; clear c7; obtain ⟨t283, A8, H⟩ := bi_ H; replace H : (zaj.j0 k a0 t283) = some r := H; have H' := ak_ H; clear H; go_wp2_with (first | (go_at_call 83; (with_reducible refine (zbf.calls k a0 t283 _ A8.out).mono ?_); rintro e w9 ⟨rfl, hb⟩; replace HB := bs_ hb; clear hb)); go_meet
      case rel => exact ⟨_, (t283), q5_, H', ⟨by first | omega | exact Nat.le_refl _⟩, ⟨q0_⟩⟩
    ·rw [if_neg c5] at H; exact absurd H (by simp)
 case rest =>
  clear HC2; obtain ⟨kq, x21_1, rfl, HA, HJ1, HB⟩ := hcut
  cases kq with
  | zero => exact absurd HA.out (by simp [zaj.j0])
  | succ kj1 =>
   have H := HA.out; clear HA; simp only [zaj.j0] at H
   by_cases c10 : x21_1 = true
   ·subst c10; replace H := ifT_ H; obtain rfl := Option.some.inj H; go_wp2; go_ret; exact ⟨q4_, q0_⟩
   ·replace c10 := Bool.eq_false_iff.mpr c10; subst c10; replace H := ifF_ H; have H' := ak_ H; clear H; go_wp2; go_loopg [3] kj1 (fun kq v3 w' => ∃ (x3_2 : Int), v3 = .int .i64 x3_2 ∧ zad (zaj.l0 kq a0 x3_2 = some r) ∧ zad (kq ≤ kj1) ∧ zad (Below w.heap.size w w'))
    case atStart => exact ⟨(0), q5_, H', ⟨Nat.le_refl _⟩, ⟨q0_⟩⟩
    case round =>
     clear H'; (try clear c10); obtain ⟨x3_2, rfl, HA, HK2, HB⟩ := hrel
     cases gk with
     | zero => exact absurd HA.out (by simp [zaj.l0])
     | succ k2 =>
      have H := HA.out; clear HA; simp only [zaj.l0] at H
      by_cases c11 : x3_2 < (a0.size : Int)
      ·rw [if_pos c11] at H; have c11b0 := decide_eq_true c11; clear c11
       by_cases c12 : 0 ≤ x3_2
       ·rw [if_pos c12] at H; have c12b0 := decide_eq_true c12; clear c12; have p13 : 0 ≤ (x3_2 : Int) := of_decide_eq_true q3_
        by_cases c14 : (bt a0 x3_2) ≥ 97
        ·rw [if_pos c14] at H; have c14b0 : decide (97 ≤ (bt a0 x3_2)) = true := decide_eq_true c14; clear c14; have q13 : x3_2 < (a0.size : Int) := of_decide_eq_true q3_
         by_cases c15 : (bt a0 x3_2) ≤ 122
         ·rw [if_pos c15] at H; have c15b0 := decide_eq_true c15; clear c15; have H' := ak_ H; clear H; have hx13 := zii a0 x3_2; replace p13 := eq_true p13; replace q13 := eq_true q13; go_wp2; go_roundg k2
          case measure => have := HJ1.out; have := HK2.out; omega
          case rel => exact ⟨(wrap64 (x3_2 + 1)), q5_, H', ⟨q45_⟩, ⟨q0_⟩⟩
         ·rw [if_neg c15] at H; have c15b0 := decide_eq_false c15; clear c15; have hx13 := zii a0 x3_2
          by_cases c16 : (bt a0 x3_2) ≥ 48
          ·rw [if_pos c16] at H; have c16b0 : decide (48 ≤ (bt a0 x3_2)) = true := decide_eq_true c16; clear c16; replace p13 := eq_true p13
           by_cases c17 : (bt a0 x3_2) ≤ 57
           ·rw [if_pos c17] at H; have c17b0 := decide_eq_true c17; clear c17; have H' := ak_ H; clear H; replace q13 := eq_true q13; go_wp2; go_roundg k2
            case measure => have := HJ1.out; have := HK2.out; omega
            case rel => exact ⟨(wrap64 (x3_2 + 1)), q5_, H', ⟨q45_⟩, ⟨q0_⟩⟩
           ·rw [if_neg c17] at H; have c17b0 := decide_eq_false c17; clear c17; replace q13 := eq_true q13
            by_cases c18 : ((bt a0 x3_2) = 95)
            ·rw [if_pos c18] at H; have c18b0 : ((bt a0 x3_2) == 95) = true := beq_iff_eq.mpr c18; have c18b1 : ((bt a0 x3_2) != 95) = false := bne_eq_false_iff_eq.mpr c18; clear c18; have H' := ak_ H; clear H; go_wp2; go_roundg k2
             case measure => have := HJ1.out; have := HK2.out; omega
             case rel => exact ⟨(wrap64 (x3_2 + 1)), q5_, H', ⟨q45_⟩, ⟨q0_⟩⟩
            ·rw [if_neg c18] at H; have c18b0 : ((bt a0 x3_2) == 95) = false := beq_eq_false_iff_ne.mpr c18; have c18b1 : ((bt a0 x3_2) != 95) = true := bne_iff_ne.mpr c18; obtain rfl := Option.some.inj H; go_wp2; go_ret; exact ⟨q4_, q0_⟩
          ·rw [if_neg c16] at H; have c16b0 : decide (48 ≤ (bt a0 x3_2)) = false := decide_eq_false c16; clear c16; replace p13 := eq_true p13; replace q13 := eq_true q13
           by_cases c19 : ((bt a0 x3_2) = 95)
           ·rw [if_pos c19] at H; have c19b0 : ((bt a0 x3_2) == 95) = true := beq_iff_eq.mpr c19; have c19b1 : ((bt a0 x3_2) != 95) = false := bne_eq_false_iff_eq.mpr c19; clear c19; have H' := ak_ H; clear H; go_wp2; go_roundg k2
            case measure => have := HJ1.out; have := HK2.out; omega
            case rel => exact ⟨(wrap64 (x3_2 + 1)), q5_, H', ⟨q45_⟩, ⟨q0_⟩⟩
           ·rw [if_neg c19] at H; have c19b0 : ((bt a0 x3_2) == 95) = false := beq_eq_false_iff_ne.mpr c19; have c19b1 : ((bt a0 x3_2) != 95) = true := bne_iff_ne.mpr c19; obtain rfl := Option.some.inj H; go_wp2; go_ret; exact ⟨q4_, q0_⟩
        ·rw [if_neg c14] at H; have c14b0 : decide (97 ≤ (bt a0 x3_2)) = false := decide_eq_false c14; clear c14; have q13 : x3_2 < (a0.size : Int) := of_decide_eq_true q3_; have hx13 := zii a0 x3_2
         by_cases c20 : (bt a0 x3_2) ≥ 48
         ·rw [if_pos c20] at H; have c20b0 : decide (48 ≤ (bt a0 x3_2)) = true := decide_eq_true c20; clear c20; replace p13 := eq_true p13
          by_cases c21 : (bt a0 x3_2) ≤ 57
          ·rw [if_pos c21] at H; have c21b0 := decide_eq_true c21; clear c21; have H' := ak_ H; clear H; replace q13 := eq_true q13; go_wp2; go_roundg k2
           case measure => have := HJ1.out; have := HK2.out; omega
           case rel => exact ⟨(wrap64 (x3_2 + 1)), q5_, H', ⟨q45_⟩, ⟨q0_⟩⟩
          ·rw [if_neg c21] at H; have c21b0 := decide_eq_false c21; clear c21; replace q13 := eq_true q13
           by_cases c22 : ((bt a0 x3_2) = 95)
           ·rw [if_pos c22] at H; have c22b0 : ((bt a0 x3_2) == 95) = true := beq_iff_eq.mpr c22; have c22b1 : ((bt a0 x3_2) != 95) = false := bne_eq_false_iff_eq.mpr c22; clear c22; have H' := ak_ H; clear H; go_wp2; go_roundg k2
            case measure => have := HJ1.out; have := HK2.out; omega
            case rel => exact ⟨(wrap64 (x3_2 + 1)), q5_, H', ⟨q45_⟩, ⟨q0_⟩⟩
           ·rw [if_neg c22] at H; have c22b0 : ((bt a0 x3_2) == 95) = false := beq_eq_false_iff_ne.mpr c22; have c22b1 : ((bt a0 x3_2) != 95) = true := bne_iff_ne.mpr c22; obtain rfl := Option.some.inj H; go_wp2; go_ret; exact ⟨q4_, q0_⟩
         ·rw [if_neg c20] at H; have c20b0 : decide (48 ≤ (bt a0 x3_2)) = false := decide_eq_false c20; clear c20; replace p13 := eq_true p13; replace q13 := eq_true q13
          by_cases c23 : ((bt a0 x3_2) = 95)
          ·rw [if_pos c23] at H; have c23b0 : ((bt a0 x3_2) == 95) = true := beq_iff_eq.mpr c23; have c23b1 : ((bt a0 x3_2) != 95) = false := bne_eq_false_iff_eq.mpr c23; clear c23; have H' := ak_ H; clear H; go_wp2; go_roundg k2
           case measure => have := HJ1.out; have := HK2.out; omega
           case rel => exact ⟨(wrap64 (x3_2 + 1)), q5_, H', ⟨q45_⟩, ⟨q0_⟩⟩
          ·rw [if_neg c23] at H; have c23b0 : ((bt a0 x3_2) == 95) = false := beq_eq_false_iff_ne.mpr c23; have c23b1 : ((bt a0 x3_2) != 95) = true := bne_iff_ne.mpr c23; obtain rfl := Option.some.inj H; go_wp2; go_ret; exact ⟨q4_, q0_⟩
       ·rw [if_neg c12] at H; exact absurd H (by simp)
      ·rw [if_neg c11] at H; have c11b0 := decide_eq_false c11; clear c11
       by_cases c24 : 0 < (a0.size : Int)
       ·rw [if_pos c24] at H; have c24b0 := decide_eq_true c24; have c24b1 : decide (0 < a0.size) = true := decide_eq_true (by omega); clear c24; have p25 : 0 ≤ (0 : Int) := (by omega); have q25 : 0 < a0.size := (by have : (0 : Int) < (a0.size : Int) := of_decide_eq_true q3_; omega); have hx25 : ∀ h : 0 < a0.size, ((a0[0]'h).toNat : Int) = bt a0 0 := zii a0 0; clear p25; have qi25 : (0 < (a0.size : Int)) = True := eq_true (of_decide_eq_true q3_); replace q25 := eq_true q25
        by_cases c26 : (bt a0 0) = 95
        ·rw [if_pos c26] at H; have c26b0 := bq_ c26; have c26b1 := bq0_ c26; clear c26; obtain rfl := Option.some.inj H; go_wp2; go_ret; exact ⟨q4_, q0_⟩
        ·rw [if_neg c26] at H; have c26b0 := bn_ c26; have c26b1 := bn1_ c26; obtain rfl := Option.some.inj H; have p27 : 0 ≤ (0 : Int) := (by omega); have q27 : 0 < a0.size := (by have : (0 : Int) < (a0.size : Int) := of_decide_eq_true q3_; omega); have hx27 : ∀ h : 0 < a0.size, ((a0[0]'h).toNat : Int) = bt a0 0 := zii a0 0; clear p27; have qi27 : (0 < (a0.size : Int)) = True := eq_true (of_decide_eq_true q3_); replace q27 := eq_true q27; go_wp2; go_ret; exact ⟨q4_, q0_⟩
       ·rw [if_neg c24] at H; exact absurd H (by simp)
mutual
def zae.l0 : Nat → ByteArray → Option (Bool)
 | 0, _ => none
 | k + 1, x0 => if (x0.size : Int) > 0 then (if 0 < (x0.size : Int) then (if (wrap64 (bt x0 0)) < 128 then (zae.j3 k x0 (wrap64 (bt x0 0)) 1 0) else (if (wrap64 (bt x0 0)) ≥ 194 then (zae.j1 k x0 (wrap64 (bt x0 0)) (decide ((wrap64 (bt x0 0)) < 224))) else (zae.j1 k x0 (wrap64 (bt x0 0)) false))) else (none)) else (some true)
def zae.j3 : Nat → ByteArray → Int → Int → Int → Option (Bool)
 | 0, _, _, _, _ => none
 | k + 1, x0, x3, x4, x5 => if (x0.size : Int) < x4 then (some false) else (zae.l1 k x0 x3 x4 x5 1)
def zae.l1 : Nat → ByteArray → Int → Int → Int → Int → Option (Bool)
 | 0, _, _, _, _, _ => none
 | k + 1, x0, x3, x4, x5, x6 => if x6 < x4 then (if 0 ≤ x6 then (if x6 < (x0.size : Int) then (if ((Int.tdiv (bt x0 x6) 64) % 256) = 2 then (zae.l1 k x0 (wrap64 ((wrap64 (64 * x3)) + (Int.tmod (wrap64 (bt x0 x6)) 64))) x4 x5 (wrap64 (x6 + 1))) else (some false)) else (none)) else (none)) else (if x3 < x5 then (some false) else (if x3 > 1114111 then (some false) else (if x3 ≥ 55296 then (if x3 < 57344 then (some false) else (if 0 ≤ x4 then (if x4 ≤ (x0.size : Int) then (zae.l0 k (x0.extract (x4 : Int).toNat x0.size)) else (none)) else (none))) else (if 0 ≤ x4 then (if x4 ≤ (x0.size : Int) then (zae.l0 k (x0.extract (x4 : Int).toNat x0.size)) else (none)) else (none)))))
def zae.j1 : Nat → ByteArray → Int → Bool → Option (Bool)
 | 0, _, _, _ => none
 | k + 1, x0, x3, x16 => if x16 = true then (zae.j3 k x0 (wrap64 (x3 - 192)) 2 128) else (if x3 ≥ 224 then (zae.j2 k x0 x3 (decide (x3 < 240))) else (zae.j2 k x0 x3 false))
def zae.j2 : Nat → ByteArray → Int → Bool → Option (Bool)
 | 0, _, _, _ => none
 | k + 1, x0, x3, x25 => if x25 = true then (zae.j3 k x0 (wrap64 (x3 - 224)) 3 2048) else (if x3 ≥ 240 then (if x3 < 245 then (zae.j3 k x0 (wrap64 (x3 - 240)) 4 65536) else (some false)) else (some false))
end
def zae.f (k : Nat) (a0 : ByteArray) : Option (Bool) := zae.l0 k a0
theorem zae.zbt : ∀ k, (∀ y0, LeO (zae.l0 k y0) (zae.l0 (k + 1) y0)) ∧ (∀ y0 y1 y2 y3, LeO (zae.j3 k y0 y1 y2 y3) (zae.j3 (k + 1) y0 y1 y2 y3)) ∧ (∀ y0 y1 y2 y3 y4, LeO (zae.l1 k y0 y1 y2 y3 y4) (zae.l1 (k + 1) y0 y1 y2 y3 y4)) ∧ (∀ y0 y1 y2, LeO (zae.j1 k y0 y1 y2) (zae.j1 (k + 1) y0 y1 y2)) ∧ (∀ y0 y1 y2, LeO (zae.j2 k y0 y1 y2) (zae.j2 (k + 1) y0 y1 y2))
 | 0 => ⟨fun _ r h => by simp [zae.l0] at h, fun _ _ _ _ r h => by simp [zae.j3] at h, fun _ _ _ _ _ r h => by simp [zae.l1] at h, fun _ _ _ r h => by simp [zae.j1] at h, fun _ _ _ r h => by simp [zae.j2] at h⟩
 | k + 1 => by
  obtain ⟨ih0, ih1, ih2, ih3, ih4⟩ := zae.zbt k
  refine ⟨?_, ?_, ?_, ?_, ?_⟩
  all_goals intros
  all_goals first
   | unfold zae.l0
   | unfold zae.j3
   | unfold zae.l1
   | unfold zae.j1
   | unfold zae.j2
  all_goals with_reducible repeat' first
   | apply ih0
   | apply ih1
   | apply ih2
   | apply ih3
   | apply ih4
   | apply LeO.refl
   | apply LeO.none
   | refine LeO.ite ?_ ?_
   | refine LeO.bind ?_ (fun _ => ?_)
theorem zae.mono : ∀ a0 k, LeO (zae.f k a0) (zae.f (k + 1) a0) := by
 intro a0 k
 obtain ⟨ih0, ih1, ih2, ih3, ih4⟩ := zae.zbt k
 unfold zae.f
 with_reducible repeat' first
   | apply ih0
   | apply ih1
   | apply ih2
   | apply ih3
   | apply ih4
   | apply LeO.refl
   | apply LeO.none
   | refine LeO.ite ?_ ?_
   | refine LeO.bind ?_ (fun _ => ?_)
theorem zae.calls (k : Nat) (a0 : ByteArray) (r : Bool) (w : World) (h : zae.f k a0 = some r) :
  Calls Tryd.prog 97 #[.string a0] w fun e w' => e = .returned (.bool r) ∧ zcx w w' := by
 have H : (zae.l0 k a0) = some r := h; clear h; have H' := ak_ H; clear H; go_enter Tryd.func97, Tryd.ntmps97; go_wp2; go_loopg [0] k (fun kq v0 w' => ∃ (x0_1 : ByteArray), v0 = .string x0_1 ∧ zad (zae.l0 kq x0_1 = some r) ∧ zad (kq ≤ k) ∧ zcx w w')
 case atStart => exact ⟨(a0), q5_, H', ⟨Nat.le_refl _⟩, q7_⟩
 case round =>
  clear H'; obtain ⟨x0_1, rfl, HA, HK1, ⟨m1, rfl⟩⟩ := hrel
  cases gk with
  | zero => exact absurd HA.out (by simp [zae.l0])
  | succ k1 =>
   have H := HA.out; clear HA; simp only [zae.l0] at H
   by_cases c2 : (x0_1.size : Int) > 0
   ·rw [if_pos c2] at H; have c2b0 : decide (0 < (x0_1.size : Int)) = true := decide_eq_true c2; have c2b1 : decide (0 < x0_1.size) = true := decide_eq_true (by omega); clear c2
    by_cases c3 : 0 < (x0_1.size : Int)
    ·rw [if_pos c3] at H; have c3b0 := decide_eq_true c3; have c3b1 : decide (0 < x0_1.size) = true := decide_eq_true (by omega); clear c3; have HC5 := ak_ H; clear H; have p4 : 0 ≤ (0 : Int) := (by omega); have q4 : 0 < x0_1.size := (by have : (0 : Int) < (x0_1.size : Int) := of_decide_eq_true q3_; omega); have hx4 : ∀ h : 0 < x0_1.size, ((x0_1[0]'h).toNat : Int) = bt x0_1 0 := zii x0_1 0; clear p4; have qi4 : (0 < (x0_1.size : Int)) = True := eq_true (of_decide_eq_true q3_); replace q4 := eq_true q4; go_upto_block 2 with (fail)
     go_cut [3, 4, 5] (fun v3 v4 v5 wc => ∃ (kq : Nat) (x3_4 : Int) (x4_4 : Int) (x5_4 : Int), v3 = .int .i64 x3_4 ∧ v4 = .int .i64 x4_4 ∧ v5 = .int .i64 x5_4 ∧ zad (zae.j3 kq x0_1 x3_4 x4_4 x5_4 = some r) ∧ zad (kq ≤ k1) ∧ zcx w wc)
     case first =>
      have H := HC5.out; clear HC5
      by_cases c6 : (wrap64 (bt x0_1 0)) < 128
      ·rw [if_pos c6] at H; have c6b0 := decide_eq_true c6; clear c6; (first | rw [c6b0] | (simp only [zfu, zgu]; rw [c6b0]) | skip); have H' := ak_ H; clear H; go_wp2; go_meet
       case rel => exact ⟨_, (wrap64 (bt x0_1 0)), (1), (0), q5_, q5_, q5_, H', ⟨q27_⟩, q7_⟩
      ·rw [if_neg c6] at H; have c6b0 := decide_eq_false c6; clear c6; (first | rw [c6b0] | (simp only [zfu, zgu]; rw [c6b0]) | skip); have HC7 := ak_ H; clear H; go_upto_region 6 with (fail)
       go_cut [16] (fun v16 wc => ∃ (kq : Nat) (x16_6 : Bool), v16 = .bool x16_6 ∧ zad (zae.j1 kq x0_1 (wrap64 (bt x0_1 0)) x16_6 = some r) ∧ zad (kq ≤ k1) ∧ zcx w wc)
       case first =>
        have H := HC7.out; clear HC7
        by_cases c8 : (wrap64 (bt x0_1 0)) ≥ 194
        ·rw [if_pos c8] at H; have c8b0 : decide (194 ≤ (wrap64 (bt x0_1 0))) = true := decide_eq_true c8; clear c8; (first | rw [c8b0] | (simp only [zfu, zgu]; rw [c8b0]) | skip); have H' := ak_ H; clear H; go_wp2; go_meet
         case rel => exact ⟨_, (decide ((wrap64 (bt x0_1 0)) < 224)), q5_, H', ⟨q27_⟩, q7_⟩
        ·rw [if_neg c8] at H; have c8b0 : decide (194 ≤ (wrap64 (bt x0_1 0))) = false := decide_eq_false c8; clear c8; (first | rw [c8b0] | (simp only [zfu, zgu]; rw [c8b0]) | skip); have H' := ak_ H; clear H; go_wp2; go_meet
         case rel => exact ⟨_, (false), q5_, H', ⟨q27_⟩, q7_⟩
       case rest =>
        clear HC7; (try clear c2b0 c2b1 c3b0 c3b1 q4 hx4 qi4 c6b0); obtain ⟨kq, x16_6, rfl, HA, HJ6, ⟨mc6, rfl⟩⟩ := hcut
        cases kq with
        | zero => exact absurd HA.out (by simp [zae.j1])
        | succ kj6 =>
         have H := HA.out; clear HA; simp only [zae.j1] at H
         by_cases c9 : x16_6 = true
         ·subst c9; replace H := ifT_ H; have H' := ak_ H; clear H; go_wp2; go_meet
          case rel => exact ⟨_, (wrap64 ((wrap64 (bt x0_1 0)) - 192)), (2), (128), q5_, q5_, q5_, H', ⟨by have := HK1.out; have := HJ6.out; first | omega | exact Nat.le_refl _⟩, q7_⟩
         ·replace c9 := Bool.eq_false_iff.mpr c9; subst c9; replace H := ifF_ H; have HC10 := ak_ H; clear H; go_upto_region 8 with (fail)
          go_cut [25] (fun v25 wc => ∃ (kq : Nat) (x25_9 : Bool), v25 = .bool x25_9 ∧ zad (zae.j2 kq x0_1 (wrap64 (bt x0_1 0)) x25_9 = some r) ∧ zad (kq ≤ kj6) ∧ zcx w wc)
          case first =>
           have H := HC10.out; clear HC10
           by_cases c11 : (wrap64 (bt x0_1 0)) ≥ 224
           ·rw [if_pos c11] at H; have c11b0 : decide (224 ≤ (wrap64 (bt x0_1 0))) = true := decide_eq_true c11; clear c11; (first | rw [c11b0] | (simp only [zfu, zgu]; rw [c11b0]) | skip); have H' := ak_ H; clear H; go_wp2; go_meet
            case rel => exact ⟨_, (decide ((wrap64 (bt x0_1 0)) < 240)), q5_, H', ⟨by have := HK1.out; have := HJ6.out; first | omega | exact Nat.le_refl _⟩, q7_⟩
           ·rw [if_neg c11] at H; have c11b0 : decide (224 ≤ (wrap64 (bt x0_1 0))) = false := decide_eq_false c11; clear c11; (first | rw [c11b0] | (simp only [zfu, zgu]; rw [c11b0]) | skip); have H' := ak_ H; clear H; go_wp2; go_meet
            case rel => exact ⟨_, (false), q5_, H', ⟨by have := HK1.out; have := HJ6.out; first | omega | exact Nat.le_refl _⟩, q7_⟩
          case rest =>
           clear HC10; (try clear c9); obtain ⟨kq, x25_9, rfl, HA, HJ9, ⟨mc9, rfl⟩⟩ := hcut
           cases kq with
           | zero => exact absurd HA.out (by simp [zae.j2])
           | succ kj9 =>
            have H := HA.out; clear HA; simp only [zae.j2] at H
            by_cases c12 : x25_9 = true
            ·subst c12; replace H := ifT_ H; have H' := ak_ H; clear H; go_wp2; go_meet
             case rel => exact ⟨_, (wrap64 ((wrap64 (bt x0_1 0)) - 224)), (3), (2048), q5_, q5_, q5_, H', ⟨by have := HK1.out; have := HJ6.out; have := HJ9.out; first | omega | exact Nat.le_refl _⟩, q7_⟩
            ·replace c12 := Bool.eq_false_iff.mpr c12; subst c12; replace H := ifF_ H
             by_cases c13 : (wrap64 (bt x0_1 0)) ≥ 240
             ·rw [if_pos c13] at H; have c13b0 : decide (240 ≤ (wrap64 (bt x0_1 0))) = true := decide_eq_true c13; clear c13
              by_cases c14 : (wrap64 (bt x0_1 0)) < 245
              ·rw [if_pos c14] at H; have c14b0 := decide_eq_true c14; clear c14; have H' := ak_ H; clear H; go_wp2; go_meet
               case rel => exact ⟨_, (wrap64 ((wrap64 (bt x0_1 0)) - 240)), (4), (65536), q5_, q5_, q5_, H', ⟨by have := HK1.out; have := HJ6.out; have := HJ9.out; first | omega | exact Nat.le_refl _⟩, q7_⟩
              ·rw [if_neg c14] at H; have c14b0 := decide_eq_false c14; clear c14; obtain rfl := Option.some.inj H; go_wp2; go_ret; exact ⟨q5_, q7_⟩
             ·rw [if_neg c13] at H; have c13b0 : decide (240 ≤ (wrap64 (bt x0_1 0))) = false := decide_eq_false c13; clear c13; obtain rfl := Option.some.inj H; go_wp2; go_ret; exact ⟨q5_, q7_⟩
     case rest =>
      clear HC5; (try clear c2b0 c2b1 c3b0 c3b1 q4 hx4 qi4); obtain ⟨kq, x3_4, x4_4, x5_4, rfl, rfl, rfl, HA, HJ4, ⟨mc4, rfl⟩⟩ := hcut
      cases kq with
      | zero => exact absurd HA.out (by simp [zae.j3])
      | succ kj4 =>
       have H := HA.out; clear HA; simp only [zae.j3] at H
       by_cases c15 : (x0_1.size : Int) < x4_4
       ·rw [if_pos c15] at H; have c15b0 := decide_eq_true c15; clear c15; obtain rfl := Option.some.inj H; go_wp2; go_ret; exact ⟨q5_, q7_⟩
       ·rw [if_neg c15] at H; have c15b0 := decide_eq_false c15; clear c15; have H' := ak_ H; clear H; go_wp2; go_loopg [3, 6] kj4 (fun kq v3 v6 w' => ∃ (x3_3 : Int) (x6_3 : Int), v3 = .int .i64 x3_3 ∧ v6 = .int .i64 x6_3 ∧ zad (zae.l1 kq x0_1 x3_3 x4_4 x5_4 x6_3 = some r) ∧ zad (kq ≤ kj4) ∧ zcx w w')
        case atStart => exact ⟨(x3_4), (1), q5_, q5_, H', ⟨Nat.le_refl _⟩, q7_⟩
        case round =>
         clear H'; (try clear c15b0); obtain ⟨x3_3, x6_3, rfl, rfl, HA, HK3, ⟨m3, rfl⟩⟩ := hrel
         cases gk with
         | zero => exact absurd HA.out (by simp [zae.l1])
         | succ k3 =>
          have H := HA.out; clear HA; simp only [zae.l1] at H
          by_cases c16 : x6_3 < x4_4
          ·rw [if_pos c16] at H; have c16b0 := decide_eq_true c16; clear c16
           by_cases c17 : 0 ≤ x6_3
           ·rw [if_pos c17] at H; have c17b0 := decide_eq_true c17; clear c17
            by_cases c18 : x6_3 < (x0_1.size : Int)
            ·rw [if_pos c18] at H; have c18b0 := decide_eq_true c18; clear c18; have p19 : 0 ≤ (x6_3 : Int) := of_decide_eq_true q3_; have q19 : x6_3 < (x0_1.size : Int) := of_decide_eq_true q3_; have hx19 := zii x0_1 x6_3; replace p19 := eq_true p19; replace q19 := eq_true q19
             by_cases c20 : ((Int.tdiv (bt x0_1 x6_3) 64) % 256) = 2
             ·rw [if_pos c20] at H; have c20b0 := bq_ c20; have c20b1 := bq0_ c20; clear c20; have H' := ak_ H; clear H; have p21 : 0 ≤ (x6_3 : Int) := of_decide_eq_true q3_; have q21 : x6_3 < (x0_1.size : Int) := of_decide_eq_true q3_; have hx21 := zii x0_1 x6_3; replace p21 := eq_true p21; replace q21 := eq_true q21; go_wp2; go_roundg k3
              case measure => have := HK1.out; have := HJ4.out; have := HK3.out; omega
              case rel => exact ⟨(wrap64 ((wrap64 (64 * x3_3)) + (Int.tmod (wrap64 (bt x0_1 x6_3)) 64))), (wrap64 (x6_3 + 1)), q5_, q5_, H', ⟨by have := HK1.out; have := HJ4.out; have := HK3.out; omega⟩, q7_⟩
             ·rw [if_neg c20] at H; have c20b0 := bn_ c20; have c20b1 := bn1_ c20; obtain rfl := Option.some.inj H; go_wp2; go_ret; exact ⟨q5_, q7_⟩
            ·rw [if_neg c18] at H; exact absurd H (by simp)
           ·rw [if_neg c17] at H; exact absurd H (by simp)
          ·rw [if_neg c16] at H; have c16b0 := decide_eq_false c16; clear c16
           by_cases c22 : x3_3 < x5_4
           ·rw [if_pos c22] at H; have c22b0 := decide_eq_true c22; clear c22; obtain rfl := Option.some.inj H; go_wp2; go_ret; exact ⟨q5_, q7_⟩
           ·rw [if_neg c22] at H; have c22b0 := decide_eq_false c22; clear c22
            by_cases c23 : x3_3 > 1114111
            ·rw [if_pos c23] at H; have c23b0 : decide (1114111 < x3_3) = true := decide_eq_true c23; clear c23; obtain rfl := Option.some.inj H; go_wp2; go_ret; exact ⟨q5_, q7_⟩
            ·rw [if_neg c23] at H; have c23b0 : decide (1114111 < x3_3) = false := decide_eq_false c23; clear c23
             by_cases c24 : x3_3 ≥ 55296
             ·rw [if_pos c24] at H; have c24b0 : decide (55296 ≤ x3_3) = true := decide_eq_true c24; clear c24
              by_cases c25 : x3_3 < 57344
              ·rw [if_pos c25] at H; have c25b0 := decide_eq_true c25; clear c25; obtain rfl := Option.some.inj H; go_wp2; go_ret; exact ⟨q5_, q7_⟩
              ·rw [if_neg c25] at H; have c25b0 := decide_eq_false c25; clear c25
               by_cases c26 : 0 ≤ x4_4
               ·rw [if_pos c26] at H; have c26b0 := eq_true c26; have c26b1 := decide_eq_true c26; clear c26
                by_cases c27 : x4_4 ≤ (x0_1.size : Int)
                ·rw [if_pos c27] at H; have c27b0 := eq_true c27; have c27b1 := decide_eq_true c27; clear c27; have H' := ak_ H; clear H; go_wp2; go_roundg k3
                 case measure => have := HK1.out; have := HJ4.out; have := HK3.out; omega
                 case rel => exact ⟨(x0_1.extract (x4_4 : Int).toNat x0_1.size), q5_, H', ⟨by have := HK1.out; have := HJ4.out; have := HK3.out; omega⟩, q7_⟩
                ·rw [if_neg c27] at H; exact absurd H (by simp)
               ·rw [if_neg c26] at H; exact absurd H (by simp)
             ·rw [if_neg c24] at H; have c24b0 : decide (55296 ≤ x3_3) = false := decide_eq_false c24; clear c24
              by_cases c28 : 0 ≤ x4_4
              ·rw [if_pos c28] at H; have c28b0 := eq_true c28; have c28b1 := decide_eq_true c28; clear c28
               by_cases c29 : x4_4 ≤ (x0_1.size : Int)
               ·rw [if_pos c29] at H; have c29b0 := eq_true c29; have c29b1 := decide_eq_true c29; clear c29; have H' := ak_ H; clear H; go_wp2; go_roundg k3
                case measure => have := HK1.out; have := HJ4.out; have := HK3.out; omega
                case rel => exact ⟨(x0_1.extract (x4_4 : Int).toNat x0_1.size), q5_, H', ⟨by have := HK1.out; have := HJ4.out; have := HK3.out; omega⟩, q7_⟩
               ·rw [if_neg c29] at H; exact absurd H (by simp)
              ·rw [if_neg c28] at H; exact absurd H (by simp)
    ·rw [if_neg c3] at H; exact absurd H (by simp)
   ·rw [if_neg c2] at H; have c2b0 : decide (0 < (x0_1.size : Int)) = false := decide_eq_false c2; have c2b1 : decide (0 < x0_1.size) = false := decide_eq_false (by omega); clear c2; obtain rfl := Option.some.inj H; go_wp2; go_ret; exact ⟨q5_, q7_⟩
def zas.j0 : Nat → Bool → Int → Int → ByteArray → Option (Bool)
 | 0, _, _, _, _ => none
 | k + 1, x36, x285000, x285001, x285002 => if x36 = true then (some false) else (if x285000 = 1 then (if x285001 = 0 then (some true) else (some (x285001 == 1))) else (if (x285002.size : Int) ≤ 64 then (if x285000 = 3 then ((zae.f k x285002).bind fun t285 => (some t285)) else (some true)) else (some false)))
def zas.f (k : Nat) (a0_0 : Int) (a0_1 : Int) (a0_2 : ByteArray) : Option (Bool) := if a0_0 < 0 then (zas.j0 k true a0_0 a0_1 a0_2) else (if a0_0 > 4 then (zas.j0 k true a0_0 a0_1 a0_2) else (if a0_0 < 3 then (if (a0_2.size : Int) > 0 then (zas.j0 k true a0_0 a0_1 a0_2) else (if a0_0 = 1 then (zas.j0 k false a0_0 a0_1 a0_2) else (if a0_0 = 2 then (zas.j0 k false a0_0 a0_1 a0_2) else (zas.j0 k (a0_1 != 0) a0_0 a0_1 a0_2)))) else (if a0_0 = 1 then (zas.j0 k false a0_0 a0_1 a0_2) else (if a0_0 = 2 then (zas.j0 k false a0_0 a0_1 a0_2) else (zas.j0 k (a0_1 != 0) a0_0 a0_1 a0_2)))))
theorem zas.zbt : ∀ k, (∀ y0 y1 y2 y3, LeO (zas.j0 k y0 y1 y2 y3) (zas.j0 (k + 1) y0 y1 y2 y3))
 | 0 => fun _ _ _ _ r h => by simp [zas.j0] at h
 | k + 1 => by
  have ih0 := zas.zbt k
  ·intro y0 y1 y2 y3
   unfold zas.j0
   with_reducible repeat' first
   | apply ih0
   | apply zae.mono
   | apply LeO.refl
   | apply LeO.none
   | refine LeO.ite ?_ ?_
   | refine LeO.bind ?_ (fun _ => ?_)
theorem zas.mono : ∀ a0 a1 a2 k, LeO (zas.f k a0 a1 a2) (zas.f (k + 1) a0 a1 a2) := by
 intro a0 a1 a2 k
 have ih0 := zas.zbt k
 unfold zas.f
 with_reducible repeat' first
   | apply ih0
   | apply zae.mono
   | apply LeO.refl
   | apply LeO.none
   | refine LeO.ite ?_ ?_
   | refine LeO.bind ?_ (fun _ => ?_)
theorem zas.calls (k : Nat) (a0_0 : Int) (a0_1 : Int) (a0_2 : ByteArray) (r : Bool) (w : World) (h : zas.f k a0_0 a0_1 a0_2 = some r) :
  Calls Tryd.prog 84 #[.agg #[.int .i64 a0_0, .int .i64 a0_1, .string a0_2]] w fun e w' => e = .returned (.bool r) ∧ Below w.heap.size w w' := by
 have hu105 := Tryd.underlying105; have HB := ak_ (Below.refl w.heap.size w); have H := h; unfold zas.f at H; clear h; have HC2 := ak_ H; clear H; go_enter Tryd.func84, Tryd.ntmps84; go_upto_region 1 with (first | ((with_reducible refine gd_ 1 rfl ?_); (try (refine zbw (by rfl) ?_; dsimp only)); refine by_ #[.int .i64 a0_0, .int .i64 a0_1, .string a0_2] 105 ?_; intro gb284 hg w3 BK284 hb; have GE284 := gw_ hg; replace HB := bs_ hb; clear hb hg))
 (try simp only [Act.put, List.setIfInBounds_toArray, List.set_cons_zero, List.set_cons_succ]); go_cut [36] (fun v36 wc => ∃ (kq : Nat) (x36_1 : Bool), v36 = .bool x36_1 ∧ zad (zas.j0 kq x36_1 a0_0 a0_1 a0_2 = some r) ∧ zad (kq ≤ k) ∧ zad (wc.heap[gb284]? = some (.cells #[.int .i64 a0_0, .int .i64 a0_1, .string a0_2] 105 (0, 0))) ∧ zad (Below w.heap.size w wc))
 case first =>
  have H := HC2.out; clear HC2; have hcz5_0 : w3.cell? ⟨gb284, 0, none⟩ = some (.int .i64 a0_0) := bt_ BK284.out 0
  by_cases c4 : a0_0 < 0
  ·rw [if_pos c4] at H; have c4b0 := decide_eq_true c4; clear c4; (first | rw [c4b0] | (simp only [zfu, zgu]; rw [c4b0]) | skip); have H' := ak_ H; clear H; have hcz5_1 : w3.cell? ⟨gb284, 1, none⟩ = some (.int .i64 a0_1) := bt_ BK284.out 1; have hcz5_2 : w3.cell? ⟨gb284, 2, none⟩ = some (.string a0_2) := bt_ BK284.out 2; have hfz5_0 := zao BK284.out 0; have hfz5_1 := zao BK284.out 1; have hfz5_2 := zao BK284.out 2; go_wp2; go_meet
   case rel => exact ⟨_, (true), q5_, H', ⟨by first | omega | exact Nat.le_refl _⟩, ⟨q21_⟩, ⟨q0_⟩⟩
  ·rw [if_neg c4] at H; have c4b0 := decide_eq_false c4; clear c4; (first | rw [c4b0] | (simp only [zfu, zgu]; rw [c4b0]) | skip); have hcz7_1 : w3.cell? ⟨gb284, 1, none⟩ = some (.int .i64 a0_1) := bt_ BK284.out 1
   by_cases c6 : a0_0 > 4
   ·rw [if_pos c6] at H; have c6b0 : decide (4 < a0_0) = true := decide_eq_true c6; clear c6; have H' := ak_ H; clear H; have hcz7_2 : w3.cell? ⟨gb284, 2, none⟩ = some (.string a0_2) := bt_ BK284.out 2; have hfz7_0 := zao BK284.out 0; have hfz7_1 := zao BK284.out 1; have hfz7_2 := zao BK284.out 2; go_wp2; go_meet
    case rel => exact ⟨_, (true), q5_, H', ⟨by first | omega | exact Nat.le_refl _⟩, ⟨q21_⟩, ⟨q0_⟩⟩
   ·rw [if_neg c6] at H; have c6b0 : decide (4 < a0_0) = false := decide_eq_false c6; clear c6; have hcz10_2 : w3.cell? ⟨gb284, 2, none⟩ = some (.string a0_2) := bt_ BK284.out 2
    by_cases c8 : a0_0 < 3
    ·rw [if_pos c8] at H; have c8b0 := decide_eq_true c8; clear c8; have hfz10_0 := zao BK284.out 0
     by_cases c9 : (a0_2.size : Int) > 0
     ·rw [if_pos c9] at H; have c9b0 : decide (0 < (a0_2.size : Int)) = true := decide_eq_true c9; have c9b1 : decide (0 < a0_2.size) = true := decide_eq_true (by omega); clear c9; have H' := ak_ H; clear H; have hfz10_1 := zao BK284.out 1; have hfz10_2 := zao BK284.out 2; go_wp2; go_meet
      case rel => exact ⟨_, (true), q5_, H', ⟨by first | omega | exact Nat.le_refl _⟩, ⟨q21_⟩, ⟨q0_⟩⟩
     ·rw [if_neg c9] at H; have c9b0 : decide (0 < (a0_2.size : Int)) = false := decide_eq_false c9; have c9b1 : decide (0 < a0_2.size) = false := decide_eq_false (by omega); clear c9; have hfz12_1 := zao BK284.out 1
      by_cases c11 : a0_0 = 1
      ·rw [if_pos c11] at H; have c11b0 := bq_ c11; have c11b1 := bq0_ c11; clear c11; have H' := ak_ H; clear H; have hfz12_2 := zao BK284.out 2; go_wp2; go_meet
       case rel => exact ⟨_, (false), q5_, H', ⟨by first | omega | exact Nat.le_refl _⟩, ⟨q21_⟩, ⟨q0_⟩⟩
      ·rw [if_neg c11] at H; have c11b0 := bn_ c11; have c11b1 := bn1_ c11; have hfz14_2 := zao BK284.out 2
       by_cases c13 : a0_0 = 2
       ·rw [if_pos c13] at H; have c13b0 := bq_ c13; have c13b1 := bq0_ c13; clear c13; have H' := ak_ H; clear H; go_wp2; go_meet
        case rel => exact ⟨_, (false), q5_, H', ⟨by first | omega | exact Nat.le_refl _⟩, ⟨q21_⟩, ⟨q0_⟩⟩
       ·rw [if_neg c13] at H; have c13b0 := bn_ c13; have c13b1 := bn1_ c13; have H' := ak_ H; clear H; go_wp2; go_meet
        case rel => exact ⟨_, ((a0_1 != 0)), q5_, H', ⟨by first | omega | exact Nat.le_refl _⟩, ⟨q21_⟩, ⟨q0_⟩⟩
    ·rw [if_neg c8] at H; have c8b0 := decide_eq_false c8; clear c8; have hfz17_0 := zao BK284.out 0; have hfz17_1 := zao BK284.out 1
     by_cases c16 : a0_0 = 1
     ·rw [if_pos c16] at H; have c16b0 := bq_ c16; have c16b1 := bq0_ c16; clear c16; have H' := ak_ H; clear H; have hfz17_2 := zao BK284.out 2; go_wp2; go_meet
      case rel => exact ⟨_, (false), q5_, H', ⟨by first | omega | exact Nat.le_refl _⟩, ⟨q21_⟩, ⟨q0_⟩⟩
     ·rw [if_neg c16] at H; have c16b0 := bn_ c16; have c16b1 := bn1_ c16; have hfz19_2 := zao BK284.out 2
      by_cases c18 : a0_0 = 2
      ·rw [if_pos c18] at H; have c18b0 := bq_ c18; have c18b1 := bq0_ c18; clear c18; have H' := ak_ H; clear H; go_wp2; go_meet
       case rel => exact ⟨_, (false), q5_, H', ⟨by first | omega | exact Nat.le_refl _⟩, ⟨q21_⟩, ⟨q0_⟩⟩
      ·rw [if_neg c18] at H; have c18b0 := bn_ c18; have c18b1 := bn1_ c18; have H' := ak_ H; clear H; go_wp2; go_meet
       case rel => exact ⟨_, ((a0_1 != 0)), q5_, H', ⟨by first | omega | exact Nat.le_refl _⟩, ⟨q21_⟩, ⟨q0_⟩⟩
 case rest =>
  clear HC2; obtain ⟨kq, x36_1, rfl, HA, HJ1, BK284, HB⟩ := hcut
  cases kq with
  | zero => exact absurd HA.out (by simp [zas.j0])
  | succ kj1 =>
   have H := HA.out; clear HA; simp only [zas.j0] at H
   by_cases c21 : x36_1 = true
   ·subst c21; replace H := ifT_ H; obtain rfl := Option.some.inj H; go_wp2; go_ret; exact ⟨q4_, q0_⟩
   ·replace c21 := Bool.eq_false_iff.mpr c21; subst c21; replace H := ifF_ H; have hcz24_0 : wc.cell? ⟨gb284, 0, none⟩ = some (.int .i64 a0_0) := bt_ BK284.out 0; have hcz24_1 : wc.cell? ⟨gb284, 1, none⟩ = some (.int .i64 a0_1) := bt_ BK284.out 1; have hcz24_2 : wc.cell? ⟨gb284, 2, none⟩ = some (.string a0_2) := bt_ BK284.out 2; have hfz24_0 := zao BK284.out 0
    by_cases c22 : a0_0 = 1
    ·rw [if_pos c22] at H; have c22b0 := bq_ c22; have c22b1 := bq0_ c22; clear c22; have hfz24_1 := zao BK284.out 1; have hfz24_2 := zao BK284.out 2
     by_cases c23 : a0_1 = 0
     ·rw [if_pos c23] at H; have c23b0 := bq_ c23; have c23b1 := bq0_ c23; clear c23; obtain rfl := Option.some.inj H; go_wp2; go_ret; exact ⟨q4_, q0_⟩
     ·rw [if_neg c23] at H; have c23b0 := bn_ c23; have c23b1 := bn1_ c23; obtain rfl := Option.some.inj H; go_wp2; go_ret; exact ⟨q4_, q0_⟩
    ·rw [if_neg c22] at H; have c22b0 := bn_ c22; have c22b1 := bn1_ c22; have hfz29_1 := zao BK284.out 1
     by_cases c26 : (a0_2.size : Int) ≤ 64
     ·rw [if_pos c26] at H; have c26b0 := decide_eq_true c26; have c26b1 : decide (a0_2.size ≤ 64) = true := decide_eq_true (by omega); clear c26; have hfz29_2 := zao BK284.out 2
      by_cases c27 : a0_0 = 3
      ·rw [if_pos c27] at H; have c27b0 := bq_ c27; have c27b1 := bq0_ c27; clear c27; obtain ⟨t285, A28, H⟩ := bi_ H; replace H : (some t285) = some r := H; obtain rfl := Option.some.inj H; go_wp2_with (first | (go_at_call 97; (with_reducible refine (zae.calls kj1 a0_2 t285 _ A28.out).mono ?_); rintro e w' ⟨rfl, ⟨nd, rfl⟩⟩)); go_ret; exact ⟨q4_, q0_⟩
      ·rw [if_neg c27] at H; have c27b0 := bn_ c27; have c27b1 := bn1_ c27; obtain rfl := Option.some.inj H; go_wp2; go_ret; exact ⟨q4_, q0_⟩
     ·rw [if_neg c26] at H; have c26b0 := decide_eq_false c26; have c26b1 : decide (a0_2.size ≤ 64) = false := decide_eq_false (by omega); clear c26; obtain rfl := Option.some.inj H; have hfz31_2 := zao BK284.out 2; go_wp2; go_ret; exact ⟨q4_, q0_⟩
def zav.l0 : Nat → List (S105) → Int → Option (Bool)
 | 0, _, _ => none
 | k + 1, x0, x3 => if x3 < (x0.length : Int) then (if 0 ≤ x3 then ((zas.f k ((zbb x0 x3).f0) ((zbb x0 x3).f1) ((zbb x0 x3).f2)).bind fun t287 => (if t287 = true then (zav.l0 k x0 (wrap64 (x3 + 1))) else (some false))) else (none)) else (some true)
def zav.f (k : Nat) (l0 : List (S105)) : Option (Bool) := zav.l0 k l0 0
theorem zav.zbt : ∀ k, (∀ y0 y1, LeO (zav.l0 k y0 y1) (zav.l0 (k + 1) y0 y1))
 | 0 => fun _ _ r h => by simp [zav.l0] at h
 | k + 1 => by
  have ih0 := zav.zbt k
  ·intro y0 y1
   unfold zav.l0
   with_reducible repeat' first
   | apply ih0
   | apply zas.mono
   | apply LeO.refl
   | apply LeO.none
   | refine LeO.ite ?_ ?_
   | refine LeO.bind ?_ (fun _ => ?_)
theorem zav.mono : ∀ a0 k, LeO (zav.f k a0) (zav.f (k + 1) a0) := by
 intro a0 k
 have ih0 := zav.zbt k
 unfold zav.f
 with_reducible repeat' first
   | apply ih0
   | apply zas.mono
   | apply LeO.refl
   | apply LeO.none
   | refine LeO.ite ?_ ?_
   | refine LeO.bind ?_ (fun _ => ?_)
theorem zav.calls (k : Nat) (A0 : Option Addr) (c0 : Nat) (l0 : List (S105)) (r : Bool) (w : World) (hr0 : Kd.C k105 w A0 l0.length l0) (hc0 : l0.length ≤ c0) (h : zav.f k l0 = some r) :
  Calls Tryd.prog 55 #[.slice A0 l0.length c0] w fun e w' => e = .returned (.bool r) ∧ Below w.heap.size w w' := by
 have hu105 := Tryd.underlying105; have HR0 := ak_ hr0; have HC0 := ak_ hc0; clear hr0 hc0; have HB := ak_ (Below.refl w.heap.size w); have H : (zav.l0 k l0 0) = some r := h; clear h; have H' := ak_ H; clear H; go_enter Tryd.func55, Tryd.ntmps55; go_wp2; go_loopg [3] k (fun kq v3 w' => ∃ (x3_1 : Int), v3 = .int .i64 x3_1 ∧ zad (zav.l0 kq l0 x3_1 = some r) ∧ zad (kq ≤ k) ∧ zad (Below w.heap.size w w'))
 case atStart => exact ⟨(0), q5_, H', ⟨Nat.le_refl _⟩, ⟨q0_⟩⟩
 case round =>
  clear H'; obtain ⟨x3_1, rfl, HA, HK1, HB⟩ := hrel
  cases gk with
  | zero => exact absurd HA.out (by simp [zav.l0])
  | succ k1 =>
   have H := HA.out; clear HA; simp only [zav.l0] at H
   by_cases c2 : x3_1 < (l0.length : Int)
   ·rw [if_pos c2] at H; have c2b0 := decide_eq_true c2; clear c2
    by_cases c3 : 0 ≤ x3_1
    ·rw [if_pos c3] at H; have c3b0 := decide_eq_true c3; clear c3; obtain ⟨t287, A4, H⟩ := bi_ H; replace H : (if t287 = true then (zav.l0 k1 l0 (wrap64 (x3_1 + 1))) else (some false)) = some r := H; have p286 : 0 ≤ (x3_1 : Int) := of_decide_eq_true q3_; have q286 : x3_1 < (l0.length : Int) := of_decide_eq_true q3_; obtain ⟨ad286, e286, hx286_0, hx286_1, hx286_2⟩ := zhm HR0.out x3_1 p286 q286; cases e286; replace hx286_0 := hc_ HB.out hx286_0; replace hx286_1 := hc_ HB.out hx286_1; replace hx286_2 := hc_ HB.out hx286_2; replace p286 := eq_true p286; replace q286 := eq_true q286
     by_cases c5 : t287 = true
     ·subst c5; replace H := ifT_ H; have H' := ak_ H; clear H; go_wp2_with (first | ((with_reducible refine gc_ 84 rfl ?_); refine gl_ 14 Tryd.func84 #[.agg #[.int .i64 ((zbb l0 x3_1).f0), .int .i64 ((zbb l0 x3_1).f1), .string ((zbb l0 x3_1).f2)]] ?_; (with_reducible refine ca_ (zas.calls k1 ((zbb l0 x3_1).f0) ((zbb l0 x3_1).f1) ((zbb l0 x3_1).f2) true _ A4.out) ?_); intro w6 hb; replace HB := bs_ hb; clear hb)); go_roundg k1
      case measure => have := HK1.out; omega
      case rel => exact ⟨(wrap64 (x3_1 + 1)), q5_, H', ⟨kq_⟩, ⟨q0_⟩⟩
     ·replace c5 := Bool.eq_false_iff.mpr c5; subst c5; replace H := ifF_ H; obtain rfl := Option.some.inj H; go_wp2_with (first | ((with_reducible refine gc_ 84 rfl ?_); refine gl_ 14 Tryd.func84 #[.agg #[.int .i64 ((zbb l0 x3_1).f0), .int .i64 ((zbb l0 x3_1).f1), .string ((zbb l0 x3_1).f2)]] ?_; (with_reducible refine ca_ (zas.calls k1 ((zbb l0 x3_1).f0) ((zbb l0 x3_1).f1) ((zbb l0 x3_1).f2) false _ A4.out) ?_); intro w7 hb; replace HB := bs_ hb; clear hb)); go_ret; exact ⟨q4_, q0_⟩
    ·rw [if_neg c3] at H; exact absurd H (by simp)
   ·rw [if_neg c2] at H; have c2b0 := decide_eq_false c2; clear c2; obtain rfl := Option.some.inj H; go_wp2; go_ret; exact ⟨q4_, q0_⟩
def zbz.f (a0 : Int) : Option (Bool) := if a0 ≥ (-1099511627776) then (some (decide (a0 ≤ 1099511627776))) else (some false)
theorem zbz.calls (a0 : Int) (r : Bool) (w : World) (h : zbz.f a0 = some r) :
  Calls Tryd.prog 56 #[.int .i64 a0] w fun e w' => e = .returned (.bool r) ∧ zcx w w' := by
 have H : (if a0 ≥ (-1099511627776) then (some (decide (a0 ≤ 1099511627776))) else (some false)) = some r := h; clear h; go_enter Tryd.func56, Tryd.ntmps56
 by_cases c2 : a0 ≥ (-1099511627776)
 ·rw [if_pos c2] at H; have c2b0 : decide ((-1099511627776) ≤ a0) = true := decide_eq_true c2; clear c2; obtain rfl := Option.some.inj H; go_wp2; go_ret; exact ⟨q5_, q7_⟩
 ·rw [if_neg c2] at H; have c2b0 : decide ((-1099511627776) ≤ a0) = false := decide_eq_false c2; clear c2; obtain rfl := Option.some.inj H; go_wp2; go_ret; exact ⟨q5_, q7_⟩

end Go.Proofs.YtchpbnabbjdfgaaDoor.P
