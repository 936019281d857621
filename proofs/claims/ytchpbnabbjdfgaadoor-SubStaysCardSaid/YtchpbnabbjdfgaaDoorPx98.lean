-- HALVED
import Derived.Test.YtchpbnabbjdfgaaDoorPx0
import Derived.Test.YtchpbnabbjdfgaaDoorPx1
namespace Go.Proofs.YtchpbnabbjdfgaaDoor.P
open Go.RowKit Go.Proofs.YtchpbnabbjdfgaaDoorW.PrintWords Go.Proofs.YtchpbnabbjdfgaaDoorW.PrintLast Go.Proofs.YtchpbnabbjdfgaaDoorW.PrintMore
attribute [local go_sem] zea zet zen zeo zdi zdj zeb zec   -- for this text's walks alone
set_option linter.unusedVariables false
set_option linter.unusedSimpArgs false
set_option maxHeartbeats 8000000
set_option maxRecDepth 100000
mutual
def zam.j0 : Nat → Bool → Int → Int → List (S56) → Int → Int → List (S74) → Option (Bool)
 | 0, _, _, _, _, _, _, _ => none
 | k + 1, x13, x319000, x319001, x319002, x319003, x319004, x319005 => if x13 = true then (some false) else (zam.l0 k 0 x319000 x319001 x319002 x319003 x319004 x319005)
def zam.l0 : Nat → Int → Int → Int → List (S56) → Int → Int → List (S74) → Option (Bool)
 | 0, _, _, _, _, _, _, _ => none
 | k + 1, x3, x319000, x319001, x319002, x319003, x319004, x319005 => if x3 < (x319005.length : Int) then (if 0 ≤ x3 then ((zal.f k ((zak x319005 x3).f5)).bind fun t321 => (if t321 = true then (zam.l0 k (wrap64 (x3 + 1)) x319000 x319001 x319002 x319003 x319004 x319005) else (some false))) else (none)) else (some true)
end
def zam.f (k : Nat) (a0_0 : Int) (a0_1 : Int) (l0_2 : List (S56)) (a0_3 : Int) (a0_4 : Int) (l0_5 : List (S74)) : Option (Bool) := (zal.f k l0_2).bind fun t319 => (if t319 = true then (zam.j0 k (decide ((l0_5.length : Int) > 30)) a0_0 a0_1 l0_2 a0_3 a0_4 l0_5) else (zam.j0 k true a0_0 a0_1 l0_2 a0_3 a0_4 l0_5))
theorem zam.zcj : ∀ k, (∀ y0 y1 y2 y3 y4 y5 y6, LeO (zam.j0 k y0 y1 y2 y3 y4 y5 y6) (zam.j0 (k + 1) y0 y1 y2 y3 y4 y5 y6)) ∧ (∀ y0 y1 y2 y3 y4 y5 y6, LeO (zam.l0 k y0 y1 y2 y3 y4 y5 y6) (zam.l0 (k + 1) y0 y1 y2 y3 y4 y5 y6))
 | 0 => ⟨fun _ _ _ _ _ _ _ r h => by simp [zam.j0] at h, fun _ _ _ _ _ _ _ r h => by simp [zam.l0] at h⟩
 | k + 1 => by
  obtain ⟨ih0, ih1⟩ := zam.zcj k
  refine ⟨?_, ?_⟩
  all_goals intros
  all_goals first
   | unfold zam.j0
   | unfold zam.l0
  all_goals with_reducible repeat' first
   | apply ih0
   | apply ih1
   | apply zal.mono
   | apply LeO.refl
   | apply LeO.none
   | refine LeO.ite ?_ ?_
   | refine LeO.bind ?_ (fun _ => ?_)
theorem zam.mono : ∀ a0 a1 a2 a3 a4 a5 k, LeO (zam.f k a0 a1 a2 a3 a4 a5) (zam.f (k + 1) a0 a1 a2 a3 a4 a5) := by
 intro a0 a1 a2 a3 a4 a5 k
 obtain ⟨ih0, ih1⟩ := zam.zcj k
 unfold zam.f
 with_reducible repeat' first
   | apply ih0
   | apply ih1
   | apply zal.mono
   | apply LeO.refl
   | apply LeO.none
   | refine LeO.ite ?_ ?_
   | refine LeO.bind ?_ (fun _ => ?_)
theorem zam.calls (k : Nat) (a0_0 : Int) (a0_1 : Int) (A0_2 : Option Addr) (c0_2 : Nat) (l0_2 : List (S56)) (a0_3 : Int) (a0_4 : Int) (A0_5 : Option Addr) (c0_5 : Nat) (l0_5 : List (S74)) (r : Bool) (w : World) (hr0_2 : Kd.C k56 w A0_2 l0_2.length l0_2) (hc0_2 : l0_2.length ≤ c0_2) (hr0_5 : Kd.C k74 w A0_5 l0_5.length l0_5) (hc0_5 : l0_5.length ≤ c0_5) (h : zam.f k a0_0 a0_1 l0_2 a0_3 a0_4 l0_5 = some r) :
  Calls Tryd.prog 13 #[.agg #[.int .i64 a0_0, .int .i64 a0_1, .slice A0_2 l0_2.length c0_2, .int .i64 a0_3, .int .i64 a0_4, .slice A0_5 l0_5.length c0_5]] w fun e w' => e = .returned (.bool r) ∧ Below w.heap.size w w' := by
 have hu37 := Tryd.underlying37; have HR0_2 := ak_ hr0_2; have HC0_2 := ak_ hc0_2; clear hr0_2 hc0_2; have HR0_5 := ak_ hr0_5; have HC0_5 := ak_ hc0_5; clear hr0_5 hc0_5; have HB := ak_ (Below.refl w.heap.size w); have H := h; unfold zam.f at H; clear h; have HC2 := ak_ H; clear H; go_enter Tryd.func13, Tryd.ntmps13; go_upto_region 1 with (first | ((with_reducible refine gd_ 1 rfl ?_); (try (refine zcv (by rfl) ?_; dsimp only)); refine by_ #[.int .i64 a0_0, .int .i64 a0_1, .slice A0_2 l0_2.length c0_2, .int .i64 a0_3, .int .i64 a0_4, .slice A0_5 l0_5.length c0_5] 37 ?_; intro gb318 hg w3 BK318 hb; have GE318 := ak_ (q2_ : w.heap.size ≤ gb318); replace HB := bs_ hb; clear hb hg))
 (try simp only [Act.put, List.setIfInBounds_toArray, List.set_cons_zero, List.set_cons_succ]); go_cut [13] (fun v13 wc => ∃ (kq : Nat) (x13_1 : Bool), v13 = .bool x13_1 ∧ zab (zam.j0 kq x13_1 a0_0 a0_1 l0_2 a0_3 a0_4 l0_5 = some r) ∧ zab (kq ≤ k) ∧ zab (wc.heap[gb318]? = some (.cells #[.int .i64 a0_0, .int .i64 a0_1, (.slice A0_2 l0_2.length c0_2), .int .i64 a0_3, .int .i64 a0_4, (.slice A0_5 l0_5.length c0_5)] 37 (0, 0))) ∧ zab (Below w.heap.size w wc))
 case first =>
  have H := HC2.out; clear HC2; obtain ⟨t319, A4, H⟩ := bi_ H; try dsimp only at H
  have hz6 := bc6_ (w := w3) BK318.out
  by_cases c5 : t319 = true
  ·subst c5; replace H := ifT_ H; have H' := ak_ H; clear H; go_wp2_with (first | ((with_reducible refine gc_ 8 rfl ?_); refine zbo (some 6) rfl rfl Tryd.func8 (by kernel_rfl) rfl #[.slice A0_2 l0_2.length c0_2] rfl q3_ ?_; (with_reducible refine (zal.calls k _ _ l0_2 true _ ?side1 HC0_2.out A4.out).mono ?_); (case side1 => exact cx_ (Kd.zcc HR0_2.out HB.out)); rintro e w' ⟨rfl, ⟨nd, rfl⟩⟩; refine ⟨_, rfl, ?_⟩)); go_meet
   case rel => exact ⟨_, (decide ((l0_5.length : Int) > 30)), q8_, H', ⟨by first | omega | exact Nat.le_refl _⟩, ⟨q166_⟩, ⟨q0_⟩⟩
  ·replace c5 := Bool.eq_false_iff.mpr c5; subst c5; replace H := ifF_ H; have H' := ak_ H; clear H; go_wp2_with (first | ((with_reducible refine gc_ 8 rfl ?_); refine zbo (some 6) rfl rfl Tryd.func8 (by kernel_rfl) rfl #[.slice A0_2 l0_2.length c0_2] rfl q3_ ?_; (with_reducible refine (zal.calls k _ _ l0_2 false _ ?side1 HC0_2.out A4.out).mono ?_); (case side1 => exact cx_ (Kd.zcc HR0_2.out HB.out)); rintro e w' ⟨rfl, ⟨nd, rfl⟩⟩; refine ⟨_, rfl, ?_⟩)); go_meet
   case rel => exact ⟨_, (true), q8_, H', ⟨by first | omega | exact Nat.le_refl _⟩, ⟨q166_⟩, ⟨q0_⟩⟩
 case rest =>
  clear HC2; obtain ⟨kq, x13_1, rfl, HA, HJ1, BK318, HB⟩ := hcut
  cases kq with
  | zero => exact absurd HA.out (by simp [zam.j0])
  | succ kj1 =>
   have H := HA.out; clear HA; simp only [zam.j0] at H
   by_cases c8 : x13_1 = true
   ·subst c8; replace H := ifT_ H; obtain rfl := Option.some.inj H; go_wp2; go_ret; exact ⟨q5_, q0_⟩
   ·replace c8 := Bool.eq_false_iff.mpr c8; subst c8; replace H := ifF_ H; have H' := ak_ H; clear H; go_wp2; go_loopg [3] kj1 (fun kq v3 w' => ∃ (x3_2 : Int), v3 = .int .i64 x3_2 ∧ zab (zam.l0 kq x3_2 a0_0 a0_1 l0_2 a0_3 a0_4 l0_5 = some r) ∧ zab (kq ≤ kj1) ∧ zab (w'.heap[gb318]? = some (.cells #[.int .i64 a0_0, .int .i64 a0_1, (.slice A0_2 l0_2.length c0_2), .int .i64 a0_3, .int .i64 a0_4, (.slice A0_5 l0_5.length c0_5)] 37 (0, 0))) ∧ zab (Below w.heap.size w w'))
    case atStart => exact ⟨(0), q8_, H', ⟨Nat.le_refl _⟩, ⟨q166_⟩, ⟨q0_⟩⟩
    case round =>
     clear H'; (try clear c8); obtain ⟨x3_2, rfl, HA, HK2, BK318, HB⟩ := hrel
     cases gk with
     | zero => exact absurd HA.out (by simp [zam.l0])
     | succ k2 =>
      have H := HA.out; clear HA; simp only [zam.l0] at H; have hz13 := bc6_ (w := wr) BK318.out
      by_cases c9 : x3_2 < (l0_5.length : Int)
      ·rw [if_pos c9] at H; have c9b0 := decide_eq_true c9; clear c9
       by_cases c10 : 0 ≤ x3_2
       ·rw [if_pos c10] at H; have c10b0 := decide_eq_true c10; clear c10; obtain ⟨t321, A11, H⟩ := bi_ H; try dsimp only at H
        have p320 : 0 ≤ (x3_2 : Int) := of_decide_eq_true q4_; have q320 : x3_2 < (l0_5.length : Int) := of_decide_eq_true q4_; obtain ⟨ad320, A320_5, c320_5, e320, hx320_0, hx320_1, hx320_2, hx320_3, hx320_4, hx320_5, hl320_5, hi320_5⟩ := zdo HR0_5.out x3_2 p320 q320; cases e320; replace hx320_0 := hc_ HB.out hx320_0; replace hx320_1 := hc_ HB.out hx320_1; replace hx320_2 := hc_ HB.out hx320_2; replace hx320_3 := hc_ HB.out hx320_3; replace hx320_4 := hc_ HB.out hx320_4; replace hx320_5 := hc_ HB.out hx320_5; have HR320_5 := ak_ hi320_5; have HC320_5 := ak_ hl320_5; clear hi320_5 hl320_5; replace p320 := eq_true p320; replace q320 := eq_true q320
        by_cases c12 : t321 = true
        ·subst c12; replace H := ifT_ H; have H' := ak_ H; clear H; go_wp2_with (first | ((with_reducible refine gc_ 8 rfl ?_); refine zbo (some 27) rfl rfl Tryd.func8 (by kernel_rfl) rfl #[.slice A320_5 ((zak l0_5 x3_2).f5).length c320_5] rfl q3_ ?_; (with_reducible refine (zal.calls k2 _ _ ((zak l0_5 x3_2).f5) true _ ?side1 HC320_5.out A11.out).mono ?_); (case side1 => exact cx_ (Kd.zcc HR320_5.out HB.out)); rintro e w' ⟨rfl, ⟨nd, rfl⟩⟩; refine ⟨_, rfl, ?_⟩)); go_roundg k2
         case measure => have := HJ1.out; have := HK2.out; omega
         case rel => exact ⟨(wrap64 (x3_2 + 1)), q8_, H', ⟨by have := HJ1.out; have := HK2.out; omega⟩, ⟨q166_⟩, ⟨q0_⟩⟩
        ·replace c12 := Bool.eq_false_iff.mpr c12; subst c12; replace H := ifF_ H; obtain rfl := Option.some.inj H; go_wp2_with (first | ((with_reducible refine gc_ 8 rfl ?_); refine zbo (some 27) rfl rfl Tryd.func8 (by kernel_rfl) rfl #[.slice A320_5 ((zak l0_5 x3_2).f5).length c320_5] rfl q3_ ?_; (with_reducible refine (zal.calls k2 _ _ ((zak l0_5 x3_2).f5) false _ ?side1 HC320_5.out A11.out).mono ?_); (case side1 => exact cx_ (Kd.zcc HR320_5.out HB.out)); rintro e w' ⟨rfl, ⟨nd, rfl⟩⟩; refine ⟨_, rfl, ?_⟩)); go_ret; exact ⟨q5_, q0_⟩
       ·rw [if_neg c10] at H; exact absurd H (by simp)
      ·rw [if_neg c9] at H; have c9b0 := decide_eq_false c9; clear c9; obtain rfl := Option.some.inj H; go_wp2; go_ret; exact ⟨q5_, q0_⟩

end Go.Proofs.YtchpbnabbjdfgaaDoor.P
