-- HALVED
import Derived.Test.YtnggdcdiachkpaaDoorPx0
namespace Go.Proofs.YtnggdcdiachkpaaDoor.P
open Go.RowKit Go.Proofs.YtnggdcdiachkpaaDoorW.PrintWords Go.Proofs.YtnggdcdiachkpaaDoorW.PrintLast Go.Proofs.YtnggdcdiachkpaaDoorW.PrintMore
attribute [local go_sem] zdl zeh zee zed zdc zdb zdn zdk   -- for this text's walks alone
set_option linter.unusedVariables false
set_option linter.unusedSimpArgs false
set_option maxHeartbeats 8000000
set_option maxRecDepth 100000

abbrev b4_2 := sb_ (bz 18 1) 2
abbrev b4_3 := sb_ b4_2 5
abbrev b4_4 := sb_ b4_3 7
abbrev b4_5 := sb_ b4_4 10
abbrev b4_6 := sb_ b4_5 12
abbrev b4_7 := sb_ b4_6 1
abbrev b4_8 := sb_ b4_7 3
abbrev b4_9 := sb_ b4_8 6
abbrev b4_10 := sb_ b4_9 8
abbrev b4_11 := sb_ b4_10 11
abbrev b4_12 := sb_ b4_11 13
abbrev b4_13 := sb_ b4_12 4
abbrev b4_23 := sb_ (bz 10 3) 4
abbrev b4_24 := sb_ b4_23 5
abbrev b4_25 := sb_ b4_24 6
def zdp.f (a0_0 : ByteArray) (a0_1 : ByteArray) (l0_2 : List Int) (l0_3 : List (S50)) (l0_4 : List (List (S50))) (l0_5 : List Int) (l0_6 : List (S150)) : Option (Bool) := some (decide ((wrap64 ((l0_6.length : Int) + (l0_5.length : Int))) > 0))
theorem zdp.calls (a0_0 : ByteArray) (a0_1 : ByteArray) (A0_2 : Option Addr) (c0_2 : Nat) (l0_2 : List Int) (A0_3 : Option Addr) (c0_3 : Nat) (l0_3 : List (S50)) (A0_4 : Option Addr) (c0_4 : Nat) (l0_4 : List (List (S50))) (A0_5 : Option Addr) (c0_5 : Nat) (l0_5 : List Int) (A0_6 : Option Addr) (c0_6 : Nat) (l0_6 : List (S150)) (r : Bool) (w : World) (hr0_2 : Kd.C (Kd.int .i64) w A0_2 l0_2.length l0_2) (hc0_2 : l0_2.length ≤ c0_2) (hr0_3 : Kd.C k50 w A0_3 l0_3.length l0_3) (hc0_3 : l0_3.length ≤ c0_3) (hr0_4 : Kd.C (Kd.slice 50 k50) w A0_4 l0_4.length l0_4) (hc0_4 : l0_4.length ≤ c0_4) (hr0_5 : Kd.C (Kd.int .i64) w A0_5 l0_5.length l0_5) (hc0_5 : l0_5.length ≤ c0_5) (hr0_6 : Kd.C k150 w A0_6 l0_6.length l0_6) (hc0_6 : l0_6.length ≤ c0_6) (h : zdp.f a0_0 a0_1 l0_2 l0_3 l0_4 l0_5 l0_6 = some r) :
  Calls Tryd.prog 13 #[.agg #[.string a0_0, .string a0_1, .slice A0_2 l0_2.length c0_2, .slice A0_3 l0_3.length c0_3, .slice A0_4 l0_4.length c0_4, .slice A0_5 l0_5.length c0_5, .slice A0_6 l0_6.length c0_6]] w fun e w' => e = .returned (.bool r) ∧ Below w.heap.size w w' := by
 have hu27 := Tryd.underlying27; have HR0_2 := ak_ hr0_2; have HC0_2 := ak_ hc0_2; clear hr0_2 hc0_2; have HR0_3 := ak_ hr0_3; have HC0_3 := ak_ hc0_3; clear hr0_3 hc0_3; have HR0_4 := ak_ hr0_4; have HC0_4 := ak_ hc0_4; clear hr0_4 hc0_4; have HR0_5 := ak_ hr0_5; have HC0_5 := ak_ hc0_5; clear hr0_5 hc0_5; have HR0_6 := ak_ hr0_6; have HC0_6 := ak_ hc0_6; clear hr0_6 hc0_6; have HB := ak_ (Below.refl w.heap.size w); have H : (some (decide ((wrap64 ((l0_6.length : Int) + (l0_5.length : Int))) > 0))) = some r := h; clear h; obtain rfl := Option.some.inj H; go_enter Tryd.func13, Tryd.ntmps13; go_wp2_with (first | ((with_reducible refine gd_ 1 rfl ?_); refine by_ #[.string a0_0, .string a0_1, .slice A0_2 l0_2.length c0_2, .slice A0_3 l0_3.length c0_3, .slice A0_4 l0_4.length c0_4, .slice A0_5 l0_5.length c0_5, .slice A0_6 l0_6.length c0_6] 27 ?_; intro gb108 hg w2 BK108 hb; have GE108 := gw_ hg; replace HB := bs_ hb; clear hb hg; have hz3 := bc7_ (w := w2) BK108.out)); go_ret; exact ⟨q3_, q0_⟩
def zew.f (a0 : Int) : Option (Bool) := if a0 ≥ (-1099511627776) then (some (decide (a0 ≤ 1099511627776))) else (some false)
theorem zew.calls (a0 : Int) (r : Bool) (w : World) (h : zew.f a0 = some r) :
  Calls Tryd.prog 36 #[.int .i64 a0] w fun e w' => e = .returned (.bool r) ∧ zeo w w' := by
 have H : (if a0 ≥ (-1099511627776) then (some (decide (a0 ≤ 1099511627776))) else (some false)) = some r := h; clear h
 by_cases c2 : a0 ≥ (-1099511627776)
 ·rw [if_pos c2] at H; have c2b0 : decide ((-1099511627776) ≤ a0) = true := decide_eq_true c2; clear c2; obtain rfl := Option.some.inj H; go_enter Tryd.func36, Tryd.ntmps36; go_wp2; go_ret; exact ⟨q6_, q18_⟩
 ·rw [if_neg c2] at H; have c2b0 : decide ((-1099511627776) ≤ a0) = false := decide_eq_false c2; clear c2; obtain rfl := Option.some.inj H; go_enter Tryd.func36, Tryd.ntmps36; go_wp2; go_ret; exact ⟨q6_, q18_⟩
def utf8_ValidString.f (a0 : ByteArray) : Option (Bool) := if a0.size ≤ 9223372036854775807 then some (Go.Lib.validD a0.data.toList) else none
theorem utf8_ValidString.calls (a0 : ByteArray) (r : Bool) (w : World) (h : utf8_ValidString.f a0 = some r) (hG : Glob w) :
  Calls Tryd.prog 79 #[.string a0] w fun e w' => e = .returned (.bool r) ∧ Below w.heap.size w w' := by
 unfold utf8_ValidString.f at h; split at h
 ·rename_i hs; obtain rfl := Option.some.inj h; exact Any.utf8_ValidString Tryd.laysValid a0 w hs hG.u8
 ·exact absurd h (by simp)
def zcu.f (a0_0 : Int) (a0_1 : Int) (a0_2 : ByteArray) : Option (Bool) := if a0_0 = 0 then (if a0_1 = 0 then (some (a0_2.toList == ([] : List UInt8))) else (some false)) else (if a0_0 = 1 then (if a0_1 = 0 then (some (a0_2.toList == ([] : List UInt8))) else (if a0_1 = 1 then (some (a0_2.toList == ([] : List UInt8))) else (some false))) else (if a0_0 = 2 then (some (a0_2.toList == ([] : List UInt8))) else (if a0_0 = 3 then (if a0_1 = 0 then (if (a0_2.size : Int) ≤ 64 then ((utf8_ValidString.f a0_2).bind fun t110 => (some t110)) else (some false)) else (some false)) else (if a0_0 = 4 then (if a0_1 = 0 then (some (decide ((a0_2.size : Int) ≤ 64))) else (some false)) else (some false)))))
theorem zcu.calls (a0_0 : Int) (a0_1 : Int) (a0_2 : ByteArray) (r : Bool) (w : World) (h : zcu.f a0_0 a0_1 a0_2 = some r) (hG : Glob w) :
  Calls Tryd.prog 53 #[.agg #[.int .i64 a0_0, .int .i64 a0_1, .string a0_2]] w fun e w' => e = .returned (.bool r) ∧ Below w.heap.size w w' := by
 have hu48 := Tryd.underlying48; have HG := ak_ hG; clear hG; have HB := ak_ (Below.refl w.heap.size w); have H := h; unfold zcu.f at H; clear h
 by_cases c2 : a0_0 = 0
 ·rw [if_pos c2] at H; have c2b0 := bq_ c2; have c2b1 := bq0_ c2; clear c2
  by_cases c3 : a0_1 = 0
  ·rw [if_pos c3] at H; have c3b0 := bq_ c3; have c3b1 := bq0_ c3; clear c3; obtain rfl := Option.some.inj H; go_enter Tryd.func53, Tryd.ntmps53; go_wp2_with (first | ((with_reducible refine gd_ 1 rfl ?_); (try (refine zbt (by rfl) ?_; dsimp only)); refine by_ #[.int .i64 a0_0, .int .i64 a0_1, .string a0_2] 48 ?_; intro gb109 hg w4 BK109 hb; have GE109 := gw_ hg; replace HB := bs_ hb; clear hb hg; have hz5 := bc3_ (w := w4) BK109.out)); go_ret; exact ⟨q3_, q0_⟩
  ·rw [if_neg c3] at H; have c3b0 := bn_ c3; have c3b1 := bn1_ c3; obtain rfl := Option.some.inj H; go_enter Tryd.func53, Tryd.ntmps53; go_wp2_with (first | ((with_reducible refine gd_ 1 rfl ?_); (try (refine zbt (by rfl) ?_; dsimp only)); refine by_ #[.int .i64 a0_0, .int .i64 a0_1, .string a0_2] 48 ?_; intro gb109 hg w6 BK109 hb; have GE109 := gw_ hg; replace HB := bs_ hb; clear hb hg; have hz7 := bc3_ (w := w6) BK109.out)); go_ret; exact ⟨q3_, q0_⟩
 ·rw [if_neg c2] at H; have c2b0 := bn_ c2; have c2b1 := bn1_ c2
  by_cases c8 : a0_0 = 1
  ·rw [if_pos c8] at H; have c8b0 := bq_ c8; have c8b1 := bq0_ c8; clear c8
   by_cases c9 : a0_1 = 0
   ·rw [if_pos c9] at H; have c9b0 := bq_ c9; have c9b1 := bq0_ c9; clear c9; obtain rfl := Option.some.inj H; go_enter Tryd.func53, Tryd.ntmps53; go_wp2_with (first | ((with_reducible refine gd_ 1 rfl ?_); (try (refine zbt (by rfl) ?_; dsimp only)); refine by_ #[.int .i64 a0_0, .int .i64 a0_1, .string a0_2] 48 ?_; intro gb109 hg w10 BK109 hb; have GE109 := gw_ hg; replace HB := bs_ hb; clear hb hg; have hz11 := bc3_ (w := w10) BK109.out)); go_ret; exact ⟨q3_, q0_⟩
   ·rw [if_neg c9] at H; have c9b0 := bn_ c9; have c9b1 := bn1_ c9
    by_cases c12 : a0_1 = 1
    ·rw [if_pos c12] at H; have c12b0 := bq_ c12; have c12b1 := bq0_ c12; clear c12; obtain rfl := Option.some.inj H; go_enter Tryd.func53, Tryd.ntmps53; go_wp2_with (first | ((with_reducible refine gd_ 1 rfl ?_); (try (refine zbt (by rfl) ?_; dsimp only)); refine by_ #[.int .i64 a0_0, .int .i64 a0_1, .string a0_2] 48 ?_; intro gb109 hg w13 BK109 hb; have GE109 := gw_ hg; replace HB := bs_ hb; clear hb hg; have hz14 := bc3_ (w := w13) BK109.out)); go_ret; exact ⟨q3_, q0_⟩
    ·rw [if_neg c12] at H; have c12b0 := bn_ c12; have c12b1 := bn1_ c12; obtain rfl := Option.some.inj H; go_enter Tryd.func53, Tryd.ntmps53; go_wp2_with (first | ((with_reducible refine gd_ 1 rfl ?_); (try (refine zbt (by rfl) ?_; dsimp only)); refine by_ #[.int .i64 a0_0, .int .i64 a0_1, .string a0_2] 48 ?_; intro gb109 hg w15 BK109 hb; have GE109 := gw_ hg; replace HB := bs_ hb; clear hb hg; have hz16 := bc3_ (w := w15) BK109.out)); go_ret; exact ⟨q3_, q0_⟩
  ·rw [if_neg c8] at H; have c8b0 := bn_ c8; have c8b1 := bn1_ c8
   by_cases c17 : a0_0 = 2
   ·rw [if_pos c17] at H; have c17b0 := bq_ c17; have c17b1 := bq0_ c17; clear c17; obtain rfl := Option.some.inj H; go_enter Tryd.func53, Tryd.ntmps53; go_wp2_with (first | ((with_reducible refine gd_ 1 rfl ?_); (try (refine zbt (by rfl) ?_; dsimp only)); refine by_ #[.int .i64 a0_0, .int .i64 a0_1, .string a0_2] 48 ?_; intro gb109 hg w18 BK109 hb; have GE109 := gw_ hg; replace HB := bs_ hb; clear hb hg; have hz19 := bc3_ (w := w18) BK109.out)); go_ret; exact ⟨q3_, q0_⟩
   ·rw [if_neg c17] at H; have c17b0 := bn_ c17; have c17b1 := bn1_ c17
    by_cases c20 : a0_0 = 3
    ·rw [if_pos c20] at H; have c20b0 := bq_ c20; have c20b1 := bq0_ c20; clear c20
     by_cases c21 : a0_1 = 0
     ·rw [if_pos c21] at H; have c21b0 := bq_ c21; have c21b1 := bq0_ c21; clear c21
      by_cases c22 : (a0_2.size : Int) ≤ 64
      ·rw [if_pos c22] at H; have c22b0 := decide_eq_true c22; have c22b1 : decide (a0_2.size ≤ 64) = true := decide_eq_true (by omega); clear c22; obtain ⟨t110, A23, H⟩ := bi_ H; replace H : (some t110) = some r := H; obtain rfl := Option.some.inj H; go_enter Tryd.func53, Tryd.ntmps53; go_wp2_with (first | ((with_reducible refine gd_ 1 rfl ?_); (try (refine zbt (by rfl) ?_; dsimp only)); refine by_ #[.int .i64 a0_0, .int .i64 a0_1, .string a0_2] 48 ?_; intro gb109 hg w24 BK109 hb; have GE109 := gw_ hg; replace HB := bs_ hb; clear hb hg; have hz25 := bc3_ (w := w24) BK109.out) | (go_at_call 79; (with_reducible refine (utf8_ValidString.calls a0_2 t110 _ A23.out (by first | exact HG.out | (refine Glob.below HG.out ?_; (exact q0_)) | (repeat (first | exact HG.out | apply Glob.drewN | apply Glob.drew | apply Glob.alloc)))).mono ?_); rintro e w26 ⟨rfl, hb⟩; replace BK109 := ak_ (zdj (g := gb109) (o := .cells #[.int .i64 a0_0, .int .i64 a0_1, .string a0_2] 48 (0, 0)) (by (with_reducible repeat first | apply bN_ | apply bD_ | apply bA_); exact BK109.out) hb); replace HB := bs_ hb; clear hb)); go_ret; exact ⟨q3_, q0_⟩
      ·rw [if_neg c22] at H; have c22b0 := decide_eq_false c22; have c22b1 : decide (a0_2.size ≤ 64) = false := decide_eq_false (by omega); clear c22; obtain rfl := Option.some.inj H; go_enter Tryd.func53, Tryd.ntmps53; go_wp2_with (first | ((with_reducible refine gd_ 1 rfl ?_); (try (refine zbt (by rfl) ?_; dsimp only)); refine by_ #[.int .i64 a0_0, .int .i64 a0_1, .string a0_2] 48 ?_; intro gb109 hg w27 BK109 hb; have GE109 := gw_ hg; replace HB := bs_ hb; clear hb hg; have hz28 := bc3_ (w := w27) BK109.out)); go_ret; exact ⟨q3_, q0_⟩
     ·rw [if_neg c21] at H; have c21b0 := bn_ c21; have c21b1 := bn1_ c21; obtain rfl := Option.some.inj H; go_enter Tryd.func53, Tryd.ntmps53; go_wp2_with (first | ((with_reducible refine gd_ 1 rfl ?_); (try (refine zbt (by rfl) ?_; dsimp only)); refine by_ #[.int .i64 a0_0, .int .i64 a0_1, .string a0_2] 48 ?_; intro gb109 hg w29 BK109 hb; have GE109 := gw_ hg; replace HB := bs_ hb; clear hb hg; have hz30 := bc3_ (w := w29) BK109.out)); go_ret; exact ⟨q3_, q0_⟩
    ·rw [if_neg c20] at H; have c20b0 := bn_ c20; have c20b1 := bn1_ c20
     by_cases c31 : a0_0 = 4
     ·rw [if_pos c31] at H; have c31b0 := bq_ c31; have c31b1 := bq0_ c31; clear c31
      by_cases c32 : a0_1 = 0
      ·rw [if_pos c32] at H; have c32b0 := bq_ c32; have c32b1 := bq0_ c32; clear c32; obtain rfl := Option.some.inj H; go_enter Tryd.func53, Tryd.ntmps53; go_wp2_with (first | ((with_reducible refine gd_ 1 rfl ?_); (try (refine zbt (by rfl) ?_; dsimp only)); refine by_ #[.int .i64 a0_0, .int .i64 a0_1, .string a0_2] 48 ?_; intro gb109 hg w33 BK109 hb; have GE109 := gw_ hg; replace HB := bs_ hb; clear hb hg; have hz34 := bc3_ (w := w33) BK109.out)); go_ret; exact ⟨q3_, q0_⟩
      ·rw [if_neg c32] at H; have c32b0 := bn_ c32; have c32b1 := bn1_ c32; obtain rfl := Option.some.inj H; go_enter Tryd.func53, Tryd.ntmps53; go_wp2_with (first | ((with_reducible refine gd_ 1 rfl ?_); (try (refine zbt (by rfl) ?_; dsimp only)); refine by_ #[.int .i64 a0_0, .int .i64 a0_1, .string a0_2] 48 ?_; intro gb109 hg w35 BK109 hb; have GE109 := gw_ hg; replace HB := bs_ hb; clear hb hg; have hz36 := bc3_ (w := w35) BK109.out)); go_ret; exact ⟨q3_, q0_⟩
     ·rw [if_neg c31] at H; have c31b0 := bn_ c31; have c31b1 := bn1_ c31; obtain rfl := Option.some.inj H; go_enter Tryd.func53, Tryd.ntmps53; go_wp2_with (first | ((with_reducible refine gd_ 1 rfl ?_); (try (refine zbt (by rfl) ?_; dsimp only)); refine by_ #[.int .i64 a0_0, .int .i64 a0_1, .string a0_2] 48 ?_; intro gb109 hg w37 BK109 hb; have GE109 := gw_ hg; replace HB := bs_ hb; clear hb hg; have hz38 := bc3_ (w := w37) BK109.out)); go_ret; exact ⟨q3_, q0_⟩
def zhp.f (a0_0 : Int) (a0_1 : Int) (a0_2 : ByteArray) : Option (Bool) := (zcu.f a0_0 a0_1 a0_2).bind fun t112 => (some (!t112))
theorem zhp.calls (a0_0 : Int) (a0_1 : Int) (a0_2 : ByteArray) (r : Bool) (w : World) (h : zhp.f a0_0 a0_1 a0_2 = some r) (hG : Glob w) :
  Calls Tryd.prog 38 #[.agg #[.int .i64 a0_0, .int .i64 a0_1, .string a0_2]] w fun e w' => e = .returned (.bool r) ∧ Below w.heap.size w w' := by
 have hu48 := Tryd.underlying48; have HG := ak_ hG; clear hG; have HB := ak_ (Below.refl w.heap.size w); have H : ((zcu.f a0_0 a0_1 a0_2).bind fun t112 => (some (!t112))) = some r := h; clear h; obtain ⟨t112, A2, H⟩ := bi_ H; replace H : (some (!t112)) = some r := H; obtain rfl := Option.some.inj H; go_enter Tryd.func38, Tryd.ntmps38; go_wp2_with (first | ((with_reducible refine gd_ 1 rfl ?_); refine by_ #[.int .i64 a0_0, .int .i64 a0_1, .string a0_2] 48 ?_; intro gb111 hg w3 BK111 hb; have GE111 := gw_ hg; replace HB := bs_ hb; clear hb hg; have hz4 := bc3_ (w := w3) BK111.out) | ((with_reducible refine gc_ 53 rfl ?_); refine gl_ 4 Tryd.func53 #[.agg #[.int .i64 a0_0, .int .i64 a0_1, .string a0_2]] ?_; (with_reducible refine (zcu.calls a0_0 a0_1 a0_2 t112 _ A2.out (by first | exact HG.out | (refine Glob.below HG.out ?_; (exact q0_)) | (repeat (first | exact HG.out | apply Glob.drewN | apply Glob.drew | apply Glob.alloc)))).mono ?_); rintro e w5 ⟨rfl, hb⟩; refine ⟨_, rfl, ?_⟩; replace BK111 := ak_ (zdj (g := gb111) (o := .cells #[.int .i64 a0_0, .int .i64 a0_1, .string a0_2] 48 (0, 0)) (by (with_reducible repeat first | apply bN_ | apply bD_ | apply bA_); exact BK111.out) hb); replace HB := bs_ hb; clear hb)); go_ret; exact ⟨q3_, q0_⟩
def cmp_isNaN_int.f (a0 : Int) : Option (Bool) := some (a0 != a0)
theorem cmp_isNaN_int.calls (a0 : Int) (r : Bool) (w : World) (h : cmp_isNaN_int.f a0 = some r) :
  Calls Tryd.prog 92 #[.int .i64 a0] w fun e w' => e = .returned (.bool r) ∧ zeo w w' := by
 have H : (some (a0 != a0)) = some r := h; clear h; obtain rfl := Option.some.inj H; go_enter Tryd.func92, Tryd.ntmps92; go_wp2; go_ret; exact ⟨q6_, q18_⟩
def cmp_Compare_int.f (a0 : Int) (a1 : Int) : Option (Int) := (cmp_isNaN_int.f a0).bind fun t113 => ((cmp_isNaN_int.f a1).bind fun t114 => (if t113 = true then (if t114 = true then (some 0) else (some (-1))) else (if t114 = true then (some 1) else (if a0 < a1 then (some (-1)) else (if a0 > a1 then (some 1) else (some 0))))))
theorem cmp_Compare_int.calls (a0 : Int) (a1 : Int) (r : Int) (w : World) (h : cmp_Compare_int.f a0 a1 = some r) :
  Calls Tryd.prog 71 #[.int .i64 a0, .int .i64 a1] w fun e w' => e = .returned (.int .i64 r) ∧ zeo w w' := by
 have H := h; unfold cmp_Compare_int.f at H; clear h; obtain ⟨t113, A3, H⟩ := bi_ H; try dsimp only at H
 obtain ⟨t114, A4, H⟩ := bi_ H; try dsimp only at H
 by_cases c5 : t113 = true
 ·subst c5; replace H := ifT_ H
  by_cases c6 : t114 = true
  ·subst c6; replace H := ifT_ H; obtain rfl := Option.some.inj H; go_enter Tryd.func71, Tryd.ntmps71; go_wp2_with (first | ((with_reducible refine gc_ 92 rfl ?_); refine gl_ 8 Tryd.func92 #[.int .i64 a0] ?_; (with_reducible refine (cmp_isNaN_int.calls a0 true _ A3.out).mono ?_); rintro e w' ⟨rfl, ⟨nd, rfl⟩⟩; refine ⟨_, rfl, ?_⟩) | ((with_reducible refine gc_ 92 rfl ?_); refine gl_ 10 Tryd.func92 #[.int .i64 a1] ?_; (with_reducible refine (cmp_isNaN_int.calls a1 true _ A4.out).mono ?_); rintro e w' ⟨rfl, ⟨nd, rfl⟩⟩; refine ⟨_, rfl, ?_⟩)); go_ret; exact ⟨q6_, q18_⟩
  ·replace c6 := Bool.eq_false_iff.mpr c6; subst c6; replace H := ifF_ H; obtain rfl := Option.some.inj H; go_enter Tryd.func71, Tryd.ntmps71; go_wp2_with (first | ((with_reducible refine gc_ 92 rfl ?_); refine gl_ 8 Tryd.func92 #[.int .i64 a0] ?_; (with_reducible refine (cmp_isNaN_int.calls a0 true _ A3.out).mono ?_); rintro e w' ⟨rfl, ⟨nd, rfl⟩⟩; refine ⟨_, rfl, ?_⟩) | ((with_reducible refine gc_ 92 rfl ?_); refine gl_ 10 Tryd.func92 #[.int .i64 a1] ?_; (with_reducible refine (cmp_isNaN_int.calls a1 false _ A4.out).mono ?_); rintro e w' ⟨rfl, ⟨nd, rfl⟩⟩; refine ⟨_, rfl, ?_⟩)); go_ret; exact ⟨q6_, q18_⟩
 ·replace c5 := Bool.eq_false_iff.mpr c5; subst c5; replace H := ifF_ H
  by_cases c7 : t114 = true
  ·subst c7; replace H := ifT_ H; obtain rfl := Option.some.inj H; go_enter Tryd.func71, Tryd.ntmps71; go_wp2_with (first | ((with_reducible refine gc_ 92 rfl ?_); refine gl_ 8 Tryd.func92 #[.int .i64 a0] ?_; (with_reducible refine (cmp_isNaN_int.calls a0 false _ A3.out).mono ?_); rintro e w' ⟨rfl, ⟨nd, rfl⟩⟩; refine ⟨_, rfl, ?_⟩) | ((with_reducible refine gc_ 92 rfl ?_); refine gl_ 10 Tryd.func92 #[.int .i64 a1] ?_; (with_reducible refine (cmp_isNaN_int.calls a1 true _ A4.out).mono ?_); rintro e w' ⟨rfl, ⟨nd, rfl⟩⟩; refine ⟨_, rfl, ?_⟩)); go_ret; exact ⟨q6_, q18_⟩
  ·replace c7 := Bool.eq_false_iff.mpr c7; subst c7; replace H := ifF_ H
   by_cases c8 : a0 < a1
   ·rw [if_pos c8] at H; have c8b0 := decide_eq_true c8; clear c8; obtain rfl := Option.some.inj H; go_enter Tryd.func71, Tryd.ntmps71; go_wp2_with (first | ((with_reducible refine gc_ 92 rfl ?_); refine gl_ 8 Tryd.func92 #[.int .i64 a0] ?_; (with_reducible refine (cmp_isNaN_int.calls a0 false _ A3.out).mono ?_); rintro e w' ⟨rfl, ⟨nd, rfl⟩⟩; refine ⟨_, rfl, ?_⟩) | ((with_reducible refine gc_ 92 rfl ?_); refine gl_ 10 Tryd.func92 #[.int .i64 a1] ?_; (with_reducible refine (cmp_isNaN_int.calls a1 false _ A4.out).mono ?_); rintro e w' ⟨rfl, ⟨nd, rfl⟩⟩; refine ⟨_, rfl, ?_⟩)); go_ret; exact ⟨q6_, q18_⟩
   ·rw [if_neg c8] at H; have c8b0 := decide_eq_false c8; clear c8
    by_cases c9 : a0 > a1
    ·rw [if_pos c9] at H; have c9b0 : decide (a1 < a0) = true := decide_eq_true c9; clear c9; obtain rfl := Option.some.inj H; go_enter Tryd.func71, Tryd.ntmps71; go_wp2_with (first | ((with_reducible refine gc_ 92 rfl ?_); refine gl_ 8 Tryd.func92 #[.int .i64 a0] ?_; (with_reducible refine (cmp_isNaN_int.calls a0 false _ A3.out).mono ?_); rintro e w' ⟨rfl, ⟨nd, rfl⟩⟩; refine ⟨_, rfl, ?_⟩) | ((with_reducible refine gc_ 92 rfl ?_); refine gl_ 10 Tryd.func92 #[.int .i64 a1] ?_; (with_reducible refine (cmp_isNaN_int.calls a1 false _ A4.out).mono ?_); rintro e w' ⟨rfl, ⟨nd, rfl⟩⟩; refine ⟨_, rfl, ?_⟩)); go_ret; exact ⟨q6_, q18_⟩
    ·rw [if_neg c9] at H; have c9b0 : decide (a1 < a0) = false := decide_eq_false c9; clear c9; obtain rfl := Option.some.inj H; go_enter Tryd.func71, Tryd.ntmps71; go_wp2_with (first | ((with_reducible refine gc_ 92 rfl ?_); refine gl_ 8 Tryd.func92 #[.int .i64 a0] ?_; (with_reducible refine (cmp_isNaN_int.calls a0 false _ A3.out).mono ?_); rintro e w' ⟨rfl, ⟨nd, rfl⟩⟩; refine ⟨_, rfl, ?_⟩) | ((with_reducible refine gc_ 92 rfl ?_); refine gl_ 10 Tryd.func92 #[.int .i64 a1] ?_; (with_reducible refine (cmp_isNaN_int.calls a1 false _ A4.out).mono ?_); rintro e w' ⟨rfl, ⟨nd, rfl⟩⟩; refine ⟨_, rfl, ?_⟩)); go_ret; exact ⟨q6_, q18_⟩
def zcl.l0 : Nat → Int → List Int → Int → Int → Option (Int)
 | 0, _, _, _, _ => none
 | k + 1, x3, x6, x7, x8 => if x8 < x7 then (if 0 ≤ x8 then (if x8 < (x6.length : Int) then (if (rd x6 x8) = x3 then (zcl.l0 k x3 x6 x7 (wrap64 (x8 + 1))) else (some (rd x6 x8))) else (none)) else (none)) else (some x3)
def zcl.f (k : Nat) (l0 : List Int) : Option (Int) := zcl.l0 k 0 l0 (l0.length : Int) 0
theorem zcl.zci : ∀ k, (∀ y0 y1 y2 y3, LeO (zcl.l0 k y0 y1 y2 y3) (zcl.l0 (k + 1) y0 y1 y2 y3))
 | 0 => fun _ _ _ _ r h => by simp [zcl.l0] at h
 | k + 1 => by
  have ih0 := zcl.zci k
  ·intro y0 y1 y2 y3
   unfold zcl.l0
   with_reducible repeat' first
   | apply ih0
   | apply LeO.refl
   | apply LeO.none
   | refine LeO.ite ?_ ?_
   | refine LeO.bind ?_ (fun _ => ?_)
theorem zcl.mono : ∀ a0 k, LeO (zcl.f k a0) (zcl.f (k + 1) a0) := by
 intro a0 k
 have ih0 := zcl.zci k
 unfold zcl.f
 with_reducible repeat' first
   | apply ih0
   | apply LeO.refl
   | apply LeO.none
   | refine LeO.ite ?_ ?_
   | refine LeO.bind ?_ (fun _ => ?_)
theorem zcl.calls (k : Nat) (A0 : Option Addr) (c0 : Nat) (l0 : List Int) (r : Int) (w : World) (hr0 : Kd.C (Kd.int .i64) w A0 l0.length l0) (hc0 : l0.length ≤ c0) (h : zcl.f k l0 = some r) :
  Calls Tryd.prog 75 #[.slice A0 l0.length c0] w fun e w' => e = .returned (.int .i64 r) ∧ zeo w w' := by
 have HR0 := ak_ hr0; have HC0 := ak_ hc0; clear hr0 hc0; have H : (zcl.l0 k 0 l0 (l0.length : Int) 0) = some r := h; clear h; have H' := ak_ H; clear H; go_enter Tryd.func75, Tryd.ntmps75; go_wp2; go_loopg [8] k (fun kq v8 w' => ∃ (x8_1 : Int), v8 = .int .i64 x8_1 ∧ zag (zcl.l0 kq 0 l0 (l0.length : Int) x8_1 = some r) ∧ zag (kq ≤ k) ∧ zeo w w')
 case atStart => exact ⟨(0), q6_, H', ⟨Nat.le_refl _⟩, q18_⟩
 case round =>
  clear H'; obtain ⟨x8_1, rfl, HA, HK1, ⟨m1, rfl⟩⟩ := hrel
  cases gk with
  | zero => exact absurd HA.out (by simp [zcl.l0])
  | succ k1 =>
   have H := HA.out; clear HA; simp only [zcl.l0] at H
   by_cases c2 : x8_1 < (l0.length : Int)
   ·rw [if_pos c2] at H; have c2b0 := decide_eq_true c2; clear c2
    by_cases c3 : 0 ≤ x8_1
    ·rw [if_pos c3] at H; have c3b0 := decide_eq_true c3; clear c3
     by_cases c4 : x8_1 < (l0.length : Int)
     ·rw [if_pos c4] at H; have c4b0 := decide_eq_true c4; clear c4; have p115 : 0 ≤ (x8_1 : Int) := of_decide_eq_true q5_; have q115 : x8_1 < (l0.length : Int) := of_decide_eq_true q5_; obtain ⟨ad115, e115, hx115_0⟩ := Kd.at_int HR0.out x8_1 p115 q115; cases e115; replace p115 := eq_true p115; replace q115 := eq_true q115
      by_cases c5 : (rd l0 x8_1) = 0
      ·rw [if_pos c5] at H; have c5b0 := bq_ c5; have c5b1 := bq0_ c5; clear c5; have H' := ak_ H; clear H; go_wp2; go_roundg k1
       case measure => have := HK1.out; omega
       case rel => exact ⟨(wrap64 (x8_1 + 1)), q6_, H', ⟨kq_⟩, q18_⟩
      ·rw [if_neg c5] at H; have c5b0 := bn_ c5; have c5b1 := bn1_ c5; obtain rfl := Option.some.inj H; go_wp2; go_ret; exact ⟨q6_, q18_⟩
     ·rw [if_neg c4] at H; exact absurd H (by simp)
    ·rw [if_neg c3] at H; exact absurd H (by simp)
   ·rw [if_neg c2] at H; have c2b0 := decide_eq_false c2; clear c2; obtain rfl := Option.some.inj H; go_wp2; go_ret; exact ⟨q6_, q18_⟩
def cmp_isNaN_string.f (a0 : ByteArray) : Option (Bool) := some (a0.toList != a0.toList)
theorem cmp_isNaN_string.calls (a0 : ByteArray) (r : Bool) (w : World) (h : cmp_isNaN_string.f a0 = some r) :
  Calls Tryd.prog 94 #[.string a0] w fun e w' => e = .returned (.bool r) ∧ zeo w w' := by
 have H : (some (a0.toList != a0.toList)) = some r := h; clear h; obtain rfl := Option.some.inj H; go_enter Tryd.func94, Tryd.ntmps94; go_wp2; go_ret; exact ⟨q6_, q18_⟩
def zdo.f (a0 : ByteArray) (a1 : ByteArray) : Option (Int) := (cmp_isNaN_string.f a0).bind fun t116 => ((cmp_isNaN_string.f a1).bind fun t117 => (if t116 = true then (if t117 = true then (some 0) else (some (-1))) else (if t117 = true then (some 1) else (if (Op.bytesLess a0.toList a1.toList) = true then (some (-1)) else (if (Op.bytesLess a1.toList a0.toList) = true then (some 1) else (some 0))))))
theorem zdo.calls (a0 : ByteArray) (a1 : ByteArray) (r : Int) (w : World) (h : zdo.f a0 a1 = some r) :
  Calls Tryd.prog 76 #[.string a0, .string a1] w fun e w' => e = .returned (.int .i64 r) ∧ zeo w w' := by
 have H := h; unfold zdo.f at H; clear h; obtain ⟨t116, A3, H⟩ := bi_ H; try dsimp only at H
 obtain ⟨t117, A4, H⟩ := bi_ H; try dsimp only at H
 by_cases c5 : t116 = true
 ·subst c5; replace H := ifT_ H
  by_cases c6 : t117 = true
  ·subst c6; replace H := ifT_ H; obtain rfl := Option.some.inj H; go_enter Tryd.func76, Tryd.ntmps76; go_wp2_with (first | ((with_reducible refine gc_ 94 rfl ?_); refine gl_ 8 Tryd.func94 #[.string a0] ?_; (with_reducible refine (cmp_isNaN_string.calls a0 true _ A3.out).mono ?_); rintro e w' ⟨rfl, ⟨nd, rfl⟩⟩; refine ⟨_, rfl, ?_⟩) | ((with_reducible refine gc_ 94 rfl ?_); refine gl_ 10 Tryd.func94 #[.string a1] ?_; (with_reducible refine (cmp_isNaN_string.calls a1 true _ A4.out).mono ?_); rintro e w' ⟨rfl, ⟨nd, rfl⟩⟩; refine ⟨_, rfl, ?_⟩)); go_ret; exact ⟨q6_, q18_⟩
  ·replace c6 := Bool.eq_false_iff.mpr c6; subst c6; replace H := ifF_ H; obtain rfl := Option.some.inj H; go_enter Tryd.func76, Tryd.ntmps76; go_wp2_with (first | ((with_reducible refine gc_ 94 rfl ?_); refine gl_ 8 Tryd.func94 #[.string a0] ?_; (with_reducible refine (cmp_isNaN_string.calls a0 true _ A3.out).mono ?_); rintro e w' ⟨rfl, ⟨nd, rfl⟩⟩; refine ⟨_, rfl, ?_⟩) | ((with_reducible refine gc_ 94 rfl ?_); refine gl_ 10 Tryd.func94 #[.string a1] ?_; (with_reducible refine (cmp_isNaN_string.calls a1 false _ A4.out).mono ?_); rintro e w' ⟨rfl, ⟨nd, rfl⟩⟩; refine ⟨_, rfl, ?_⟩)); go_ret; exact ⟨q6_, q18_⟩
 ·replace c5 := Bool.eq_false_iff.mpr c5; subst c5; replace H := ifF_ H
  by_cases c7 : t117 = true
  ·subst c7; replace H := ifT_ H; obtain rfl := Option.some.inj H; go_enter Tryd.func76, Tryd.ntmps76; go_wp2_with (first | ((with_reducible refine gc_ 94 rfl ?_); refine gl_ 8 Tryd.func94 #[.string a0] ?_; (with_reducible refine (cmp_isNaN_string.calls a0 false _ A3.out).mono ?_); rintro e w' ⟨rfl, ⟨nd, rfl⟩⟩; refine ⟨_, rfl, ?_⟩) | ((with_reducible refine gc_ 94 rfl ?_); refine gl_ 10 Tryd.func94 #[.string a1] ?_; (with_reducible refine (cmp_isNaN_string.calls a1 true _ A4.out).mono ?_); rintro e w' ⟨rfl, ⟨nd, rfl⟩⟩; refine ⟨_, rfl, ?_⟩)); go_ret; exact ⟨q6_, q18_⟩
  ·replace c7 := Bool.eq_false_iff.mpr c7; subst c7; replace H := ifF_ H
   by_cases c8 : (Op.bytesLess a0.toList a1.toList) = true
   ·rw [if_pos c8] at H; have c8b0 : (Op.bytesLess a0.toList a1.toList) = true := c8; clear c8; obtain rfl := Option.some.inj H; go_enter Tryd.func76, Tryd.ntmps76; go_wp2_with (first | ((with_reducible refine gc_ 94 rfl ?_); refine gl_ 8 Tryd.func94 #[.string a0] ?_; (with_reducible refine (cmp_isNaN_string.calls a0 false _ A3.out).mono ?_); rintro e w' ⟨rfl, ⟨nd, rfl⟩⟩; refine ⟨_, rfl, ?_⟩) | ((with_reducible refine gc_ 94 rfl ?_); refine gl_ 10 Tryd.func94 #[.string a1] ?_; (with_reducible refine (cmp_isNaN_string.calls a1 false _ A4.out).mono ?_); rintro e w' ⟨rfl, ⟨nd, rfl⟩⟩; refine ⟨_, rfl, ?_⟩)); go_ret; exact ⟨q6_, q18_⟩
   ·rw [if_neg c8] at H; have c8b0 : (Op.bytesLess a0.toList a1.toList) = false := by simpa using c8
    clear c8
    by_cases c9 : (Op.bytesLess a1.toList a0.toList) = true
    ·rw [if_pos c9] at H; have c9b0 : (Op.bytesLess a1.toList a0.toList) = true := c9; clear c9; obtain rfl := Option.some.inj H; go_enter Tryd.func76, Tryd.ntmps76; go_wp2_with (first | ((with_reducible refine gc_ 94 rfl ?_); refine gl_ 8 Tryd.func94 #[.string a0] ?_; (with_reducible refine (cmp_isNaN_string.calls a0 false _ A3.out).mono ?_); rintro e w' ⟨rfl, ⟨nd, rfl⟩⟩; refine ⟨_, rfl, ?_⟩) | ((with_reducible refine gc_ 94 rfl ?_); refine gl_ 10 Tryd.func94 #[.string a1] ?_; (with_reducible refine (cmp_isNaN_string.calls a1 false _ A4.out).mono ?_); rintro e w' ⟨rfl, ⟨nd, rfl⟩⟩; refine ⟨_, rfl, ?_⟩)); go_ret; exact ⟨q6_, q18_⟩
    ·rw [if_neg c9] at H; have c9b0 : (Op.bytesLess a1.toList a0.toList) = false := by simpa using c9
     clear c9; obtain rfl := Option.some.inj H; go_enter Tryd.func76, Tryd.ntmps76; go_wp2_with (first | ((with_reducible refine gc_ 94 rfl ?_); refine gl_ 8 Tryd.func94 #[.string a0] ?_; (with_reducible refine (cmp_isNaN_string.calls a0 false _ A3.out).mono ?_); rintro e w' ⟨rfl, ⟨nd, rfl⟩⟩; refine ⟨_, rfl, ?_⟩) | ((with_reducible refine gc_ 94 rfl ?_); refine gl_ 10 Tryd.func94 #[.string a1] ?_; (with_reducible refine (cmp_isNaN_string.calls a1 false _ A4.out).mono ?_); rintro e w' ⟨rfl, ⟨nd, rfl⟩⟩; refine ⟨_, rfl, ?_⟩)); go_ret; exact ⟨q6_, q18_⟩
def zbw.f (k : Nat) (a0_0 : Int) (a0_1 : Int) (a0_2 : ByteArray) (a1_0 : Int) (a1_1 : Int) (a1_2 : ByteArray) : Option (Int) := (cmp_Compare_int.f a0_0 a1_0).bind fun t120 => ((cmp_Compare_int.f a0_1 a1_1).bind fun t121 => ((zdo.f a0_2 a1_2).bind fun t122 => ((zcl.f k (([t120, t121, t122] : List Int))).bind fun t126 => (some t126))))
theorem zbw.mono : ∀ a0 a1 a2 a3 a4 a5 k, LeO (zbw.f k a0 a1 a2 a3 a4 a5) (zbw.f (k + 1) a0 a1 a2 a3 a4 a5) := by
 intro a0 a1 a2 a3 a4 a5 k
 unfold zbw.f
 with_reducible repeat' first
   | apply zcl.mono
   | apply LeO.refl
   | apply LeO.none
   | refine LeO.ite ?_ ?_
   | refine LeO.bind ?_ (fun _ => ?_)
def zbw.T1 : Bool × List (List Nat × List Nat) := (true, [([], []), ([0], [0]), ([], []), ([2], [2]), ([1, 3], [1, 3]), ([], []), ([5], [5]), ([], []), ([7], [7]), ([6, 8, 4], [6, 8]), ([], []), ([10], [10]), ([], []), ([12], [12]), ([11, 13, 9], [11, 13]), ([4, 9, 14], [4, 9, 14]), ([15, 14], [15]), ([16, 16, 0, 1, 2, 3, 4, 5, 6, 7, 8, 9, 10, 11, 12, 13, 14, 15, 16], [16])])
def zbw.B1 : List Nat := [0, 1, 0, 4, 15, 0, 32, 0, 128, 511, 0, 1024, 0, 4096, 16383, 32767, 65535, 131071]
theorem zbw.tab1 : rtab .any (opsOf Tryd.f46 1) = zbw.T1 := by kernel_rfl
theorem zbw.bits1 : zfc zbw.T1.2 zbw.B1 = true := by kernel_rfl
theorem zbw.calls (k : Nat) (a0_0 : Int) (a0_1 : Int) (a0_2 : ByteArray) (a1_0 : Int) (a1_1 : Int) (a1_2 : ByteArray) (r : Int) (w : World) (h : zbw.f k a0_0 a0_1 a0_2 a1_0 a1_1 a1_2 = some r) :
  Calls Tryd.prog 46 #[.agg #[.int .i64 a0_0, .int .i64 a0_1, .string a0_2], .agg #[.int .i64 a1_0, .int .i64 a1_1, .string a1_2]] w fun e w' => e = .returned (.int .i64 r) ∧ Below w.heap.size w w' := by
 have hu48 := Tryd.underlying48; have HB := ak_ (Below.refl w.heap.size w); have H := h; unfold zbw.f at H; clear h; obtain ⟨t120, A3, H⟩ := bi_ H; try dsimp only at H
 obtain ⟨t121, A4, H⟩ := bi_ H; try dsimp only at H
 obtain ⟨t122, A5, H⟩ := bi_ H; replace H : ((zcl.f k (([t120, t121, t122] : List Int))).bind fun t126 => (some t126)) = some r := H; obtain ⟨y123, hy123⟩ : ∃ y_ : List Int, y_ = (([t120, t121, t122] : List Int)) := ⟨_, rfl⟩; replace H : ((zcl.f k y123).bind fun t126 => (some t126)) = some r := by first | (rw [hy123]; with_reducible exact H) | (have H2_ := (Option.bind_some _ _).symm.trans H; rw [hy123]; with_reducible exact H2_) | (have H2_ := (Option.bind_some _ _).symm.trans H; with_reducible exact H2_) | with_reducible exact H | (rw [hy123]; exact H) | exact H
 have Ny123 := ak_ hy123; clear hy123; obtain ⟨t126, A6, H⟩ := bi_ H; replace H : (some t126) = some r := H; obtain rfl := Option.some.inj H; go_enter Tryd.func46, Tryd.ntmps46; try go_wp2_with (first | ((with_reducible refine gd_ 2 rfl ?_); refine by_ #[.int .i64 a0_0, .int .i64 a0_1, .string a0_2] 48 ?_; intro gb118 hg w7 BK118 hb; have GE118 := gw_ hg; replace HB := bs_ hb; clear hb hg) | ((with_reducible refine gd_ 3 rfl ?_); refine by_ #[.int .i64 a1_0, .int .i64 a1_1, .string a1_2] 48 ?_; intro gb119 hg w8 BK119 hb; have GE119 := gw_ hg; have NB118_119 := nl_ hg q207_; have NB119_118 := ne_ NB118_119; replace BK118 := bb_ q207_ hb; replace HB := bs_ hb; clear hb hg))
 replace BK118 := dB_ BK118; replace BK119 := dB_ BK119; replace HB := ak_ (zbh HB.out); refine zep (n := 18) (S := fun w' => w'.cell? ⟨gb118, 0, none⟩ = some (.int .i64 a0_0) ∧ w'.cell? ⟨gb118, 1, none⟩ = some (.int .i64 a0_1) ∧ w'.cell? ⟨gb118, 2, none⟩ = some (.string a0_2) ∧ w'.cell? ⟨gb119, 0, none⟩ = some (.int .i64 a1_0) ∧ w'.cell? ⟨gb119, 1, none⟩ = some (.int .i64 a1_1) ∧ w'.cell? ⟨gb119, 2, none⟩ = some (.string a1_2)) (ds := []) (bz 18 0) (by kernel_rfl) rfl rfl ⟨bt_ BK118.out 0, bt_ BK118.out 1, bt_ BK118.out 2, bt_ BK119.out 0, bt_ BK119.out 1, bt_ BK119.out 2⟩ (fun hHeld => ?_); refine zcv zbw.tab1 zbw.bits1 (fun HT_ HW_ => ?_); generalize w8.drew = w9 at BK118 BK119 HB hHeld ⊢; refine pz_ 0 5 (bz 18 1) ?_; refine pz_ 2 7 b4_2 ?_; refine pz_ 5 10 b4_3 ?_; refine pz_ 7 12 b4_4 ?_; refine pz_ 10 15 b4_5 ?_; refine pz_ 12 17 b4_6 ?_; refine tz6_ 1 6 b4_7 hHeld ?_; refine tz6_ 3 8 b4_8 hHeld ?_; refine tz6_ 6 11 b4_9 hHeld ?_; refine tz6_ 8 13 b4_10 hHeld ?_; refine tz6_ 11 16 b4_11 hHeld ?_; refine tz6_ 13 18 b4_12 hHeld ?_; refine oz_ 4 (some 9) b4_13 (fun K hK => ?_); refine go1_ Tryd.func71 #[.int .i64 a0_0, .int .i64 a1_0] ?_; (with_reducible refine (cmp_Compare_int.calls a0_0 a1_0 t120 _ A3.out).mono ?_); rintro e w' ⟨rfl, ⟨nd, rfl⟩⟩; refine ⟨_, rfl, ?_⟩; refine hK.out _ _ ⟨bt_ BK118.out 0, bt_ BK118.out 1, bt_ BK118.out 2, bt_ BK119.out 0, bt_ BK119.out 1, bt_ BK119.out 2⟩ (fun hHeld => ?_); clear hK K; refine nz_ ?_; refine oz_ 9 (some 14) (bz 18 14) (fun K hK => ?_); refine go1_ Tryd.func71 #[.int .i64 a0_1, .int .i64 a1_1] ?_; (with_reducible refine (cmp_Compare_int.calls a0_1 a1_1 t121 _ A4.out).mono ?_); rintro e w' ⟨rfl, ⟨nd, rfl⟩⟩; refine ⟨_, rfl, ?_⟩; refine hK.out _ _ ⟨bt_ BK118.out 0, bt_ BK118.out 1, bt_ BK118.out 2, bt_ BK119.out 0, bt_ BK119.out 1, bt_ BK119.out 2⟩ (fun hHeld => ?_); clear hK K; refine nz_ ?_; refine oz_ 14 (some 19) (bz 18 15) (fun K hK => ?_); refine go1_ Tryd.func76 #[.string a0_2, .string a1_2] ?_; (with_reducible refine (zdo.calls a0_2 a1_2 t122 _ A5.out).mono ?_); rintro e w' ⟨rfl, ⟨nd, rfl⟩⟩; refine ⟨_, rfl, ?_⟩; refine hK.out _ _ ⟨bt_ BK118.out 0, bt_ BK118.out 1, bt_ BK118.out 2, bt_ BK119.out 0, bt_ BK119.out 1, bt_ BK119.out 2⟩ (fun hHeld => ?_); clear hK K; refine nz_ ?_; refine oz_ 15 (some 20) (bz 18 16) (fun K hK => ?_); refine Kd.R_lit_step (Kd.int .i64) _ 3 ?hg (N := 20) ?hd (xs := ([t120, t121, t122] : List Int)) (inner := [.int .i64 t120, .int .i64 t121, .int .i64 t122]) (ok := fun _ => True) (okp := fun _ => True) ?hr ?hp (fun _ hk => hk) trivial (Below.refl _ _) (Nat.le_refl _) (by simp) ?_; (case hd => rfl); (case hg => rfl); (case hr => first | (go_simp; done) | (go_simp; rfl))
 (case hp => exact (Reps.one (show Kd.M (Kd.int .i64) _ _ _ t120 [.int .i64 t120] from rfl) (Reps.one (show Kd.M (Kd.int .i64) _ _ _ t121 [.int .i64 t121] from rfl) (Reps.one (show Kd.M (Kd.int .i64) _ _ _ t122 [.int .i64 t122] from rfl) (Reps.none _ _))))); intro v124 w10 ho11 hb hg_ hnew_; clear hg_ hnew_; (first | rw [← Ny123.out] at ho11 | (simp only [Int.reduceToNat] at ho11; rw [← Ny123.out] at ho11)); have HO125 := ak_ (Kd.zjh ho11 (zai q0_)); replace BK118 := bb_ q207_ hb; replace BK119 := ak_ (zdj (g := gb119) (o := .cells #[.int .i64 a1_0, .int .i64 a1_1, .string a1_2] 48 (0, 0)) (by (with_reducible repeat first | apply bN_ | apply bD_ | apply bA_); exact BK119.out) hb); replace HB := bs_ hb; clear hb ho11; obtain ⟨Ao12, co12, eo12⟩ := Kd.zhr HO125.out; (first | subst eo12 | (injection eo12 with f1_ f2_ f3_; have f4_ := f1_.symm; have f5_ := f3_.symm; clear f1_ f2_ f3_; subst f4_; subst f5_)); refine hK.out _ _ ⟨bt_ BK118.out 0, bt_ BK118.out 1, bt_ BK118.out 2, bt_ BK119.out 0, bt_ BK119.out 1, bt_ BK119.out 2⟩ (fun hHeld => ?_); clear hK K; refine nz_ ?_; refine oz_ 16 (some 21) (bz 18 17) (fun K hK => ?_); refine go1_ Tryd.func75 #[.slice Ao12 y123.length co12] ?_; (with_reducible refine (zcl.calls k _ _ y123 t126 _ ?side1 ?side2 A6.out).mono ?_); (case side1 => exact cx_ ((Kd.zes HO125.out).2.2)); (case side2 => exact (Kd.zes HO125.out).2.1); rintro e w' ⟨rfl, ⟨nd, rfl⟩⟩; refine ⟨_, rfl, ?_⟩; refine hK.out _ _ ⟨bt_ BK118.out 0, bt_ BK118.out 1, bt_ BK118.out 2, bt_ BK119.out 0, bt_ BK119.out 1, bt_ BK119.out 2⟩ (fun hHeld => ?_); clear hK K; refine nz_ ?_; refine pz_ 17 4 (bz 18 18) ?_; refine zfk (zdh HT_.out (by kernel_rfl)) ?_; try go_wp2
 go_ret; exact ⟨q3_, q0_⟩
def zbp.l0 : Nat → List (S48) → List (S48) → Int → Int → Option (Int)
 | 0, _, _, _, _ => none
 | k + 1, x0, x1, x11, x12 => if x12 < x11 then (if 0 ≤ x12 then (if x12 < (x0.length : Int) then (if x12 < (x1.length : Int) then ((zbw.f k ((zak x0 x12).f0) ((zak x0 x12).f1) ((zak x0 x12).f2) ((zak x1 x12).f0) ((zak x1 x12).f1) ((zak x1 x12).f2)).bind fun t130 => (if t130 = 0 then (zbp.l0 k x0 x1 x11 (wrap64 (x12 + 1))) else (some t130))) else (none)) else (none)) else (none)) else ((cmp_Compare_int.f (x0.length : Int) (x1.length : Int)).bind fun t127 => (some t127))
def zbp.f (k : Nat) (l0 : List (S48)) (l1 : List (S48)) : Option (Int) := zbp.l0 k l0 l1 (mn (l0.length : Int) (l1.length : Int)) 0
theorem zbp.zci : ∀ k, (∀ y0 y1 y2 y3, LeO (zbp.l0 k y0 y1 y2 y3) (zbp.l0 (k + 1) y0 y1 y2 y3))
 | 0 => fun _ _ _ _ r h => by simp [zbp.l0] at h
 | k + 1 => by
  have ih0 := zbp.zci k
  ·intro y0 y1 y2 y3
   unfold zbp.l0
   with_reducible repeat' first
   | apply ih0
   | apply zbw.mono
   | apply LeO.refl
   | apply LeO.none
   | refine LeO.ite ?_ ?_
   | refine LeO.bind ?_ (fun _ => ?_)
theorem zbp.mono : ∀ a0 a1 k, LeO (zbp.f k a0 a1) (zbp.f (k + 1) a0 a1) := by
 intro a0 a1 k
 have ih0 := zbp.zci k
 unfold zbp.f
 with_reducible repeat' first
   | apply ih0
   | apply zbw.mono
   | apply LeO.refl
   | apply LeO.none
   | refine LeO.ite ?_ ?_
   | refine LeO.bind ?_ (fun _ => ?_)
def zbp.T4 : Bool × List (List Nat × List Nat) := (true, [([], []), ([], []), ([0, 1], [0, 1]), ([2], [2]), ([], []), ([], []), ([4, 5], [4, 5]), ([6], [6]), ([3, 7], [3, 7]), ([8, 8, 0, 1, 2, 3, 4, 5, 6, 7, 8], [8])])
def zbp.B4 : List Nat := [0, 0, 3, 7, 0, 0, 48, 112, 255, 511]
theorem zbp.tab4 : rtab .any (opsOf Tryd.f39 4) = zbp.T4 := by kernel_rfl
theorem zbp.bits4 : zfc zbp.T4.2 zbp.B4 = true := by kernel_rfl
theorem zbp.calls (k : Nat) (A0 : Option Addr) (c0 : Nat) (l0 : List (S48)) (A1 : Option Addr) (c1 : Nat) (l1 : List (S48)) (r : Int) (w : World) (hr0 : Kd.C k48 w A0 l0.length l0) (hc0 : l0.length ≤ c0) (hr1 : Kd.C k48 w A1 l1.length l1) (hc1 : l1.length ≤ c1) (h : zbp.f k l0 l1 = some r) :
  Calls Tryd.prog 39 #[.slice A0 l0.length c0, .slice A1 l1.length c1] w fun e w' => e = .returned (.int .i64 r) ∧ Below w.heap.size w w' := by
 have hu48 := Tryd.underlying48; have HR0 := ak_ hr0; have HC0 := ak_ hc0; clear hr0 hc0; have HR1 := ak_ hr1; have HC1 := ak_ hc1; clear hr1 hc1; have HB := ak_ (Below.refl w.heap.size w); have H : (zbp.l0 k l0 l1 (mn (l0.length : Int) (l1.length : Int)) 0) = some r := h; clear h; obtain ⟨ji3, hji3⟩ : ∃ j_ : Int, (mn (l0.length : Int) (l1.length : Int)) = j_ := ⟨_, rfl⟩; replace H : (zbp.l0 k l0 l1 ji3 0) = some r := by first | (rw [hji3] at H; exact H) | (simp only [hji3] at H ⊢; exact H)
 (try (have hji3l : 0 ≤ ji3 := by (rw [← hji3]; unfold mn; (repeat' split) <;> omega))); (try (have hji3m : 0 ≤ ji3 := by omega)); have hji3_ : (if (l1.length : Int) < (l0.length : Int) then (l1.length : Int) else (l0.length : Int)) = ji3 := hji3; have H' := ak_ H; clear H; go_enter Tryd.func39, Tryd.ntmps39; go_wp2; (try rw [hji3]); go_loopg [12] k (fun kq v12 w' => ∃ (x12_1 : Int), v12 = .int .i64 x12_1 ∧ zag (zbp.l0 kq l0 l1 ji3 x12_1 = some r) ∧ zag (kq ≤ k) ∧ zag (Below w.heap.size w w'))
 case atStart => exact ⟨(0), q6_, H', ⟨Nat.le_refl _⟩, ⟨q0_⟩⟩
 case round =>
  clear H'; obtain ⟨x12_1, rfl, HA, HK1, HB⟩ := hrel
  cases gk with
  | zero => exact absurd HA.out (by simp [zbp.l0])
  | succ k1 =>
   have H := HA.out; clear HA; simp only [zbp.l0] at H
   by_cases c4 : x12_1 < ji3
   ·rw [if_pos c4] at H; have c4b0 := decide_eq_true c4; clear c4
    by_cases c5 : 0 ≤ x12_1
    ·rw [if_pos c5] at H; have c5b0 := decide_eq_true c5; clear c5
     by_cases c6 : x12_1 < (l0.length : Int)
     ·rw [if_pos c6] at H; have c6b0 := decide_eq_true c6; clear c6
      by_cases c7 : x12_1 < (l1.length : Int)
      ·rw [if_pos c7] at H; have c7b0 := decide_eq_true c7; clear c7; obtain ⟨t130, A8, H⟩ := bi_ H; replace H : (if t130 = 0 then (zbp.l0 k1 l0 l1 ji3 (wrap64 (x12_1 + 1))) else (some t130)) = some r := H; try go_wp2
       replace HB := ak_ (zbh HB.out); have p128 : 0 ≤ (x12_1 : Int) := of_decide_eq_true q5_; have q128 : x12_1 < (l0.length : Int) := of_decide_eq_true q5_; obtain ⟨ad128, e128, hx128_0, hx128_1, hx128_2⟩ := zhz HR0.out x12_1 p128 q128; have hw128_2 := hx128_2; have hw128_1 := hx128_1; have hw128_0 := hx128_0; cases e128; replace hx128_0 := hc_ HB.out hx128_0; replace hx128_1 := hc_ HB.out hx128_1; replace hx128_2 := hc_ HB.out hx128_2; replace p128 := eq_true p128; replace q128 := eq_true q128; have p129 : 0 ≤ (x12_1 : Int) := of_decide_eq_true q5_; have q129 : x12_1 < (l1.length : Int) := of_decide_eq_true q5_; obtain ⟨ad129, e129, hx129_0, hx129_1, hx129_2⟩ := zhz HR1.out x12_1 p129 q129; have hw129_2 := hx129_2; have hw129_1 := hx129_1; have hw129_0 := hx129_0; cases e129; replace hx129_0 := hc_ HB.out hx129_0; replace hx129_1 := hc_ HB.out hx129_1; replace hx129_2 := hc_ HB.out hx129_2; replace p129 := eq_true p129; replace q129 := eq_true q129; refine zep (n := 10) (S := fun w' => w'.cell? (ad128.add ((x12_1).toNat * 3)) = some (.int .i64 ((zak l0 x12_1).f0)) ∧ w'.cell? ⟨(ad128.add ((x12_1).toNat * 3)).block, (ad128.add ((x12_1).toNat * 3)).off + 1, none⟩ = some (.int .i64 ((zak l0 x12_1).f1)) ∧ w'.cell? ⟨(ad128.add ((x12_1).toNat * 3)).block, (ad128.add ((x12_1).toNat * 3)).off + 2, none⟩ = some (.string ((zak l0 x12_1).f2)) ∧ w'.cell? (ad129.add ((x12_1).toNat * 3)) = some (.int .i64 ((zak l1 x12_1).f0)) ∧ w'.cell? ⟨(ad129.add ((x12_1).toNat * 3)).block, (ad129.add ((x12_1).toNat * 3)).off + 1, none⟩ = some (.int .i64 ((zak l1 x12_1).f1)) ∧ w'.cell? ⟨(ad129.add ((x12_1).toNat * 3)).block, (ad129.add ((x12_1).toNat * 3)).off + 2, none⟩ = some (.string ((zak l1 x12_1).f2))) (ds := []) (bz 10 0) (by kernel_rfl) rfl rfl ⟨(hc_ HB.out hw128_0), (hc_ HB.out hw128_1), (hc_ HB.out hw128_2), (hc_ HB.out hw129_0), (hc_ HB.out hw129_1), (hc_ HB.out hw129_2)⟩ (fun hHeld => ?_); refine zcv zbp.tab4 zbp.bits4 (fun HT_ HW_ => ?_); generalize wr.drew = w10 at HB hx128_0 hx128_1 hx128_2 hx129_0 hx129_1 hx129_2 hHeld ⊢; refine pz_ 0 15 (bz 10 1) ?_; refine pz_ 1 16 (bz 10 2) ?_; refine pz_ 2 17 (bz 10 3) ?_; refine pz_ 4 19 b4_23 ?_; refine pz_ 5 20 b4_24 ?_; refine pz_ 6 21 b4_25 ?_; refine tz6_ 3 18 (bz 10 7) hHeld ?_; refine tz6_ 7 22 (bz 10 8) hHeld ?_; refine oz_ 8 (some 23) (bz 10 9) (fun K hK => ?_); refine go1_ Tryd.func46 #[.agg #[.int .i64 ((zak l0 x12_1).f0), .int .i64 ((zak l0 x12_1).f1), .string ((zak l0 x12_1).f2)], .agg #[.int .i64 ((zak l1 x12_1).f0), .int .i64 ((zak l1 x12_1).f1), .string ((zak l1 x12_1).f2)]] ?_; (with_reducible refine ca_ (zbw.calls k1 ((zak l0 x12_1).f0) ((zak l0 x12_1).f1) ((zak l0 x12_1).f2) ((zak l1 x12_1).f0) ((zak l1 x12_1).f1) ((zak l1 x12_1).f2) t130 _ A8.out) ?_); intro w11 hb; replace HB := bs_ hb; clear hb
       refine hK.out _ _ ⟨(hc_ HB.out hw128_0), (hc_ HB.out hw128_1), (hc_ HB.out hw128_2), (hc_ HB.out hw129_0), (hc_ HB.out hw129_1), (hc_ HB.out hw129_2)⟩ (fun hHeld => ?_); clear hK K; refine nz_ ?_
       by_cases c9 : t130 = 0
       ·rw [if_pos c9] at H; have c9b0 := bq_ c9; have c9b1 := bq0_ c9; clear c9; have H' := ak_ H; clear H; refine pz_ 9 6 (bz 10 10) ?_; refine zfk (zdh HT_.out (by kernel_rfl)) ?_; try go_wp2
        go_roundg k1
        case measure => have := HK1.out; omega
        case rel => exact ⟨(wrap64 (x12_1 + 1)), q6_, H', ⟨kq_⟩, ⟨q0_⟩⟩
       ·rw [if_neg c9] at H; have c9b0 := bn_ c9; have c9b1 := bn1_ c9; obtain rfl := Option.some.inj H; refine pz_ 9 6 (bz 10 10) ?_; refine zfk (zdh HT_.out (by kernel_rfl)) ?_; try go_wp2
        go_ret; exact ⟨by first | rfl | (simp [zeb, zdy] <;> rfl) | (simp only [← hji3]; first | rfl | (simp [zeb, zdy] <;> rfl)) | (simp [*, zeb, zdy] <;> rfl), q0_⟩
      ·rw [if_neg c7] at H; exact absurd H (by simp)
     ·rw [if_neg c6] at H; exact absurd H (by simp)
    ·rw [if_neg c5] at H; exact absurd H (by simp)
   ·rw [if_neg c4] at H; have c4b0 := decide_eq_false c4; clear c4; obtain ⟨t127, A14, H⟩ := bi_ H; replace H : (some t127) = some r := H; obtain rfl := Option.some.inj H; go_wp2_with (first | ((with_reducible refine gc_ 71 rfl ?_); refine gl_ 32 Tryd.func71 #[.int .i64 (l0.length : Int), .int .i64 (l1.length : Int)] ?_; (with_reducible refine (cmp_Compare_int.calls (l0.length : Int) (l1.length : Int) t127 _ A14.out).mono ?_); rintro e w' ⟨rfl, ⟨nd, rfl⟩⟩; refine ⟨_, rfl, ?_⟩)); go_ret; exact ⟨by first | rfl | (simp [zeb, zdy] <;> rfl) | (simp only [← hji3]; first | rfl | (simp [zeb, zdy] <;> rfl)) | (simp [*, zeb, zdy] <;> rfl), q0_⟩

end Go.Proofs.YtnggdcdiachkpaaDoor.P
