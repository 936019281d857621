-- HALVED
import Derived.Test.YtchpbnabbjdfgaaDoorPx0
import Derived.Test.YtchpbnabbjdfgaaDoorPx23
import Derived.Test.YtchpbnabbjdfgaaDoorPx37
import Derived.Test.YtchpbnabbjdfgaaDoorPx65
namespace Go.Proofs.YtchpbnabbjdfgaaDoor.P
open Go.RowKit Go.Proofs.YtchpbnabbjdfgaaDoorW.PrintWords Go.Proofs.YtchpbnabbjdfgaaDoorW.PrintLast Go.Proofs.YtchpbnabbjdfgaaDoorW.PrintMore
attribute [local go_sem] zeb zfe zfa zfb zdl zdm zec zed   -- for this text's walks alone
set_option linter.unusedVariables false
set_option linter.unusedSimpArgs false
set_option maxHeartbeats 8000000
set_option maxRecDepth 100000
def zbo.f (k : Nat) (l0 : List (List (S81)))  : Option (Bool) := (zap.f k l0).bind fun t206 => (some (decide (t206 ≥ 0)))
theorem zbo.mono : ∀ a0 k, LeO (zbo.f k a0) (zbo.f (k + 1) a0) := by
 intro a0 k
 unfold zbo.f
 with_reducible repeat' first
   | apply zap.mono
   | apply LeO.refl
   | apply LeO.none
   | refine LeO.ite ?_ ?_
   | refine LeO.bind ?_ (fun _ => ?_)
theorem zbo.calls (k : Nat) (A0 : Option Addr) (c0 : Nat) (l0 : List (List (S81)))  (r : Bool) (w : World) (hr0 : Kd.C (Kd.slice 81 k81) w A0 l0.length l0) (hc0 : l0.length ≤ c0) (h : zbo.f k l0 = some r) (hG : Glob w) :
  Calls Tryd.prog 47 #[.slice A0 l0.length c0, (.func (.func 48) #[] #[])] w fun e w' => e = .returned (.bool r) ∧ Below w.heap.size w w' := by
 have HG := ak_ hG; clear hG; have HR0 := ak_ hr0; have HC0 := ak_ hc0; clear hr0 hc0; have HB := ak_ (Below.refl w.heap.size w); have H : ((zap.f k l0).bind fun t206 => (some (decide (t206 ≥ 0)))) = some r := h; clear h; obtain ⟨t206, A3, H⟩ := bi_ H; replace H : (some (decide (t206 ≥ 0))) = some r := H; obtain rfl := Option.some.inj H; go_enter Tryd.func47, Tryd.ntmps47; go_wp2_with (first | ((with_reducible refine gc_ 72 rfl ?_); refine gl_ 7 Tryd.func72 #[.slice A0 l0.length c0, (.func (.func 48) #[] #[])] ?_; (with_reducible refine ca_ (zap.calls k _ _ l0  t206 _ ?side1 HC0.out A3.out q7_) ?_); (case side1 => exact cx_ HR0.out); intro w4 hb; replace HB := bs_ hb; clear hb)); go_ret; exact ⟨q5_, q0_⟩
def zgo.f (k : Nat) (l0 : List (List (S81))) : Option ((List (S81)) × Int) := (zbo.f k l0).bind fun t207 => (if t207 = true then (some (([] : List (S81)), 1)) else ((zch.f l0).bind fun t208 => ((zaz.f k t208).bind fun bt211 => (some (bt211.1, bt211.2)))))
theorem zgo.mono : ∀ a0 k, LeO (zgo.f k a0) (zgo.f (k + 1) a0) := by
 intro a0 k
 unfold zgo.f
 with_reducible repeat' first
   | apply zbo.mono
   | apply zaz.mono
   | apply LeO.refl
   | apply LeO.none
   | refine LeO.ite ?_ ?_
   | refine LeO.bind ?_ (fun _ => ?_)
theorem zgo.calls (k : Nat) (P0_ : Nat → Prop) (A0 : Option Addr) (c0 : Nat) (l0 : List (List (S81))) (r1 : List (S81)) (r2 : Int) (w : World) (hs0 : Kd.V (Kd.slice 81 k81) 54 w w.heap.size (fun k_ => P0_ k_) (.slice A0 l0.length c0) l0) (h : zgo.f k l0 = some (r1, r2)) (hG : Glob w) :
  Calls Tryd.prog 29 #[.slice A0 l0.length c0] w fun e w' => ∃ v0_ : Value, e = .returned (.tuple #[v0_, .int .i64 r2]) ∧ Kd.N k81 81 w' w.heap.size (fun k_ => (P0_ k_ ∨ w.heap.size ≤ k_)) v0_ r1 ∧ Below w.heap.size w w' := by
 have HG := ak_ hG; clear hG; have HO0 := ak_ (show Kd.V (Kd.slice 81 k81) 54 w w.heap.size (fun k_ => (P0_ k_ ∨ w.heap.size ≤ k_)) (.slice A0 l0.length c0) l0 from Kd.zcf hs0 (fun k_ hk => .inl hk)); have HB := ak_ (Below.refl w.heap.size w); have H : ((zbo.f k l0).bind fun t207 => (if t207 = true then (some (([] : List (S81)), 1)) else ((zch.f l0).bind fun t208 => ((zaz.f k t208).bind fun bt211 => (some (bt211.1, bt211.2)))))) = some (r1, r2) := h; clear h; obtain ⟨t207, A2, H⟩ := bi_ H; try dsimp only at H
 by_cases c3 : t207 = true
 ·subst c3; replace H := ifT_ H; simp only [Option.some.injEq, Prod.mk.injEq] at H; obtain ⟨rfl, rfl⟩ := H; go_enter Tryd.func29, Tryd.ntmps29; go_wp2_with (first | ((with_reducible refine gc_ 47 rfl ?_); refine gl_ 5 Tryd.func47 #[.slice A0 l0.length c0, (.func (.func 48) #[] #[])] ?_; (with_reducible refine ca_ (zbo.calls k _ _ l0  true _ ?side1 ?side2 A2.out q7_) ?_); (case side1 => exact cx_ ((Kd.zbx HO0.out).2.2)); (case side2 => exact (Kd.zbx HO0.out).2.1); intro w4 hb; replace HO0 := Vb_ q28_ hb; replace HB := bs_ hb; clear hb)); go_ret2; exact ⟨_, q5_, q33_, q0_⟩
 ·replace c3 := Bool.eq_false_iff.mpr c3; subst c3; replace H := ifF_ H; obtain ⟨t208, A5, H⟩ := bi_ H; replace H : ((zaz.f k t208).bind fun bt211 => (some (bt211.1, bt211.2))) = some (r1, r2) := H; obtain ⟨⟨t211, t214⟩, A6, H⟩ := bi_ H; replace H : (some (t211, t214)) = some (r1, r2) := H; simp only [Option.some.injEq, Prod.mk.injEq] at H; obtain ⟨rfl, rfl⟩ := H; go_enter Tryd.func29, Tryd.ntmps29; go_wp2_with (first | ((with_reducible refine gc_ 47 rfl ?_); refine gl_ 5 Tryd.func47 #[.slice A0 l0.length c0, (.func (.func 48) #[] #[])] ?_; (with_reducible refine ca_ (zbo.calls k _ _ l0  false _ ?side1 ?side2 A2.out q7_) ?_); (case side1 => exact cx_ ((Kd.zbx HO0.out).2.2)); (case side2 => exact (Kd.zbx HO0.out).2.1); intro w7 hb; replace HO0 := Vb_ q28_ hb; replace HB := bs_ hb; clear hb) | ((with_reducible refine gc_ 51 rfl ?_); refine gl_ 7 Tryd.func51 #[.slice A0 l0.length c0] ?_; (with_reducible refine (zch.calls (fun k_ => (P0_ k_ ∨ w.heap.size ≤ k_)) _ _ l0 t208 _ ?side1 A5.out).mono ?_); (case side1 => exact HO0.out); rintro e w8 ⟨v209, rfl, ho0, hb⟩; refine ⟨_, rfl, ?_⟩; have HO210 := ak_ (Kd.zhi (Kd.zci (ok' := fun k_ => (P0_ k_ ∨ w.heap.size ≤ k_)) ho0 (fun k_ hk_ => Or.elim hk_ (fun hs_ => hs_) (fun hn_ => (.inr (Nat.le_trans (zcb q0_) hn_))))) (zcb q0_)); replace HO0 := ak_ (Kd.zfj q28_ (Kd.zel ho0) hb); replace HB := bs_ hb; clear hb; (try clear ho0); obtain ⟨Ao9, co9, eo9⟩ := Kd.zcy HO210.out; subst eo9) | ((with_reducible refine gc_ 50 rfl ?_); refine gl_ 8 Tryd.func50 #[.slice Ao9 t208.length co9] ?_; (with_reducible refine (zaz.calls k (fun k_ => (P0_ k_ ∨ w.heap.size ≤ k_)) _ _ t208 t211 t214 _ ?side1 A6.out q7_).mono ?_); (case side1 => exact Kd.N_V (HO210.out)); rintro e w10 ⟨v212, rfl, ho0, hb⟩; refine ⟨_, rfl, ?_⟩; have HO213 := ak_ (Kd.zhi (Kd.zci (ok' := fun k_ => (P0_ k_ ∨ w.heap.size ≤ k_)) ho0 (fun k_ hk_ => Or.elim hk_ (fun hs_ => hs_) (fun hn_ => (.inr (Nat.le_trans (zcb q0_) hn_))))) (zcb q0_)); replace HO0 := ak_ (Kd.zfj q28_ (Kd.zel ho0) hb); replace HO210 := ak_ (Kd.N_elder' (by (with_reducible repeat (first | apply Kd.zcj | apply Kd.zcx | apply Kd.zdc)); exact HO210.out) (Kd.zel ho0) hb); replace HB := bs_ hb; clear hb; (try clear ho0))); go_ret2; exact ⟨_, q5_, by (with_reducible repeat (first | apply Kd.zcj | apply Kd.zcx | apply Kd.zdc)); exact HO213.out, q0_⟩
def strings_Compare.f (a0 : ByteArray) (a1 : ByteArray) : Option Int := some (if Op.bytesLess a0.toList a1.toList = true then -1 else if Op.bytesLess a1.toList a0.toList = true then 1 else 0)
theorem strings_Compare.cmp_ : ∀ a b : List UInt8, Go.Lib.compareBytes a b = if Op.bytesLess a b = true then -1 else if Op.bytesLess b a = true then 1 else 0
 | [], [] => by simp [Go.Lib.compareBytes, Op.bytesLess]
 | [], _ :: _ => by simp [Go.Lib.compareBytes, Op.bytesLess]
 | _ :: _, [] => by simp [Go.Lib.compareBytes, Op.bytesLess]
 | a :: x, b :: y => by
  have ih := strings_Compare.cmp_ x y
  unfold Go.Lib.compareBytes Op.bytesLess
  by_cases h1 : a < b
  ·simp [h1]
  by_cases h2 : b < a
  ·have h3 : ¬ a = b := fun e => UInt8.lt_irrefl _ (e ▸ h2)
   simp [h1, h2, h3]
  ·have h3 : a = b := UInt8.le_antisymm (UInt8.not_lt.1 h2) (UInt8.not_lt.1 h1)
   subst h3
   simp [ih]
set_option maxHeartbeats 1000000 in
theorem strings_Compare.in_ (a b : ByteArray) (w : World) : Calls Tryd.prog 44 #[.string a, .string b] w fun e w' => e = .returned (.int .i64 (Go.Lib.compareBytes a.data.toList b.data.toList)) ∧ w = w' := by
 go_enter Tryd.func44, Tryd.ntmps44
 go_wp2
 rw [run_callFunc_extern Tryd.func70 (by kernel_rfl) (by kernel_rfl) (by kernel_rfl) (e := Extern.BytealgCompare.compare) (by kernel_rfl), Go.Lib.run_compareString]
 simp only [Result.andThen]
 rw [Oper.upon_value]
 go_wp2
 go_ret
 exact ⟨rfl, rfl⟩
set_option maxHeartbeats 1000000 in
theorem strings_Compare.calls (a0 : ByteArray) (a1 : ByteArray) (r : Int) (w : World) (h : strings_Compare.f a0 a1 = some r) :
  Calls Tryd.prog 27 #[.string a0, .string a1] w fun e w' => e = .returned (.int .i64 r) ∧ Below w.heap.size w w' := by
 unfold strings_Compare.f at h; rw [ByteArray.toList_eq, ByteArray.toList_eq, ← strings_Compare.cmp_] at h; obtain rfl := Option.some.inj h; go_enter Tryd.func27, Tryd.ntmps27; go_wp2_with (go_at_call 44; refine (strings_Compare.in_ _ _ _).mono ?_; rintro e w' ⟨rfl, rfl⟩); go_ret; exact ⟨rfl, Below.refl _ _⟩
def zdz.f (a0_0 : ByteArray) (l0_1 : List (S81)) (a1 : ByteArray) : Option (Int) := (strings_Compare.f a0_0 a1).bind fun t216 => (some t216)
theorem zdz.calls (a0_0 : ByteArray) (A0_1 : Option Addr) (c0_1 : Nat) (l0_1 : List (S81)) (a1 : ByteArray) (r : Int) (w : World) (hr0_1 : Kd.C k81 w A0_1 l0_1.length l0_1) (hc0_1 : l0_1.length ≤ c0_1) (h : zdz.f a0_0 l0_1 a1 = some r) :
  Calls Tryd.prog 26 #[.agg #[.string a0_0, .slice A0_1 l0_1.length c0_1], .string a1] w fun e w' => e = .returned (.int .i64 r) ∧ Below w.heap.size w w' := by
 have hu56 := Tryd.underlying56; have HR0_1 := ak_ hr0_1; have HC0_1 := ak_ hc0_1; clear hr0_1 hc0_1; have HB := ak_ (Below.refl w.heap.size w); have H : ((strings_Compare.f a0_0 a1).bind fun t216 => (some t216)) = some r := h; clear h; obtain ⟨t216, A3, H⟩ := bi_ H; replace H : (some t216) = some r := H; obtain rfl := Option.some.inj H; go_enter Tryd.func26, Tryd.ntmps26; go_wp2_with (first | ((with_reducible refine gd_ 2 rfl ?_); refine by_ #[.string a0_0, .slice A0_1 l0_1.length c0_1] 56 ?_; intro gb215 hg w4 BK215 hb; have GE215 := gw_ hg; replace HB := bs_ hb; clear hb hg; have hz5 := bc2_ (w := w4) BK215.out) | ((with_reducible refine gc_ 27 rfl ?_); refine gl_ 8 Tryd.func27 #[.string a0_0, .string a1] ?_; (with_reducible refine ca_ (strings_Compare.calls a0_0 a1 t216 _ A3.out) ?_); intro w6 hb; replace BK215 := ak_ (zfl (g := gb215) (o := .cells #[.string a0_0, .slice A0_1 l0_1.length c0_1] 56 (0, 0)) (by (with_reducible repeat first | apply bN_ | apply bD_ | apply bA_); exact BK215.out) hb); replace HB := bs_ hb; clear hb)); go_ret; exact ⟨q5_, q0_⟩
def zaf.l0 : Nat → List (S56) → ByteArray → Int → Int → Int → Option (Int × Bool)
 | 0, _, _, _, _, _ => none
 | k + 1, x0, x1, x8, x9, x10 => if x9 < x10 then (if 0 ≤ (wrap64 ((IntKind.u64.wrap (wrap64 (x9 + x10))) / 2)) then (if (wrap64 ((IntKind.u64.wrap (wrap64 (x9 + x10))) / 2)) < (x0.length : Int) then ((zdz.f ((zbb x0 (wrap64 ((IntKind.u64.wrap (wrap64 (x9 + x10))) / 2))).f0) ((zbb x0 (wrap64 ((IntKind.u64.wrap (wrap64 (x9 + x10))) / 2))).f1) x1).bind fun t220 => (if t220 < 0 then (zaf.l0 k x0 x1 x8 (wrap64 ((wrap64 ((IntKind.u64.wrap (wrap64 (x9 + x10))) / 2)) + 1)) x10) else (zaf.l0 k x0 x1 x8 x9 (wrap64 ((IntKind.u64.wrap (wrap64 (x9 + x10))) / 2))))) else (none)) else (none)) else (if x9 < x8 then (if 0 ≤ x9 then (if x9 < (x0.length : Int) then ((zdz.f ((zbb x0 x9).f0) ((zbb x0 x9).f1) x1).bind fun t218 => (some (x9, (t218 == 0)))) else (none)) else (none)) else (some (x9, false)))
def zaf.f (k : Nat) (l0 : List (S56)) (a1 : ByteArray)  : Option (Int × Bool) := zaf.l0 k l0 a1 (l0.length : Int) 0 (l0.length : Int)
theorem zaf.zby : ∀ k, (∀ y0 y1 y2 y3 y4, LeO (zaf.l0 k y0 y1 y2 y3 y4) (zaf.l0 (k + 1) y0 y1 y2 y3 y4))
 | 0 => fun _ _ _ _ _ r h => by simp [zaf.l0] at h
 | k + 1 => by
  have ih0 := zaf.zby k
  ·intro y0 y1 y2 y3 y4
   unfold zaf.l0
   with_reducible repeat' first
   | apply ih0
   | apply LeO.refl
   | apply LeO.none
   | refine LeO.ite ?_ ?_
   | refine LeO.bind ?_ (fun _ => ?_)
theorem zaf.mono : ∀ a0 a1 k, LeO (zaf.f k a0 a1) (zaf.f (k + 1) a0 a1) := by
 intro a0 a1 k
 have ih0 := zaf.zby k
 unfold zaf.f
 with_reducible repeat' first
   | apply ih0
   | apply LeO.refl
   | apply LeO.none
   | refine LeO.ite ?_ ?_
   | refine LeO.bind ?_ (fun _ => ?_)
theorem zaf.calls (k : Nat) (A0 : Option Addr) (c0 : Nat) (l0 : List (S56)) (a1 : ByteArray)  (r1 : Int) (r2 : Bool) (w : World) (hr0 : Kd.C k56 w A0 l0.length l0) (hc0 : l0.length ≤ c0) (h : zaf.f k l0 a1 = some (r1, r2)) :
  Calls Tryd.prog 25 #[.slice A0 l0.length c0, .string a1, (.func (.func 26) #[] #[])] w fun e w' => e = .returned (.tuple #[.int .i64 r1, .bool r2]) ∧ Below w.heap.size w w' := by
 have hu56 := Tryd.underlying56; have HR0 := ak_ hr0; have HC0 := ak_ hc0; clear hr0 hc0; have HB := ak_ (Below.refl w.heap.size w); have H : (zaf.l0 k l0 a1 (l0.length : Int) 0 (l0.length : Int)) = some (r1, r2) := h; clear h; have H' := ak_ H; clear H; go_enter Tryd.func25, Tryd.ntmps25; go_wp2; go_loopg [9, 10] k (fun kq v9 v10 w' => ∃ (x9_1 : Int) (x10_1 : Int), v9 = .int .i64 x9_1 ∧ v10 = .int .i64 x10_1 ∧ zab (zaf.l0 kq l0 a1 (l0.length : Int) x9_1 x10_1 = some (r1, r2)) ∧ zab (kq ≤ k) ∧ zab (Below w.heap.size w w'))
 case atStart => exact ⟨(0), ((l0.length : Int)), q6_, q6_, H', ⟨Nat.le_refl _⟩, ⟨q0_⟩⟩
 case round =>
  clear H'; obtain ⟨x9_1, x10_1, rfl, rfl, HA, HK1, HB⟩ := hrel
  cases gk with
  | zero => exact absurd HA.out (by simp [zaf.l0])
  | succ k1 =>
   have H := HA.out; clear HA; simp only [zaf.l0] at H
   by_cases c4 : x9_1 < x10_1
   ·rw [if_pos c4] at H; have c4b0 := decide_eq_true c4; clear c4; obtain ⟨ji5, hji5⟩ : ∃ j_ : Int, (wrap64 ((IntKind.u64.wrap (wrap64 (x9_1 + x10_1))) / 2)) = j_ := ⟨_, rfl⟩; replace H : (if 0 ≤ (ji5) then (if (ji5) < (l0.length : Int) then ((zdz.f ((zbb l0 (ji5)).f0) ((zbb l0 (ji5)).f1) a1).bind fun t220 => (if t220 < 0 then (zaf.l0 k1 l0 a1 (l0.length : Int) (wrap64 ((ji5) + 1)) x10_1) else (zaf.l0 k1 l0 a1 (l0.length : Int) x9_1 ji5))) else (none)) else (none)) = some (r1, r2) := by first | (rw [hji5] at H; exact H) | (simp only [hji5] at H ⊢; exact H)
    have hji5w : (IntKind.i64.wrap ((IntKind.u64.wrap (wrap64 (x9_1 + x10_1))) / 2)) = ji5 := (zhm _).trans hji5
    by_cases c6 : 0 ≤ (ji5)
    ·rw [if_pos c6] at H; have c6b0 := decide_eq_true c6; clear c6
     by_cases c7 : (ji5) < (l0.length : Int)
     ·rw [if_pos c7] at H; have c7b0 := decide_eq_true c7; clear c7; obtain ⟨t220, A8, H⟩ := bi_ H; try dsimp only at H
      have p219 : 0 ≤ ((ji5) : Int) := of_decide_eq_true q4_; have q219 : (ji5) < (l0.length : Int) := of_decide_eq_true q4_; obtain ⟨ad219, A219_1, c219_1, e219, hx219_0, hx219_1, hl219_1, hi219_1⟩ := zha HR0.out (ji5) p219 q219; cases e219; replace hx219_0 := hc_ HB.out hx219_0; replace hx219_1 := hc_ HB.out hx219_1; have HR219_1 := ak_ hi219_1; have HC219_1 := ak_ hl219_1; clear hi219_1 hl219_1; replace p219 := eq_true p219; replace q219 := eq_true q219
      by_cases c9 : t220 < 0
      ·rw [if_pos c9] at H; have c9b0 := decide_eq_true c9; clear c9; have H' := ak_ H; clear H; go_wp2_with (first | ((with_reducible refine zcg (t := 24) rfl ?_); refine zez (some 30) rfl rfl Tryd.func26 (by kernel_rfl) rfl #[.agg #[.string ((zbb l0 (ji5)).f0), .slice A219_1 ((zbb l0 (ji5)).f1).length c219_1], .string a1] rfl (by rfl) q31_ ?_; (with_reducible refine ca_ (zdz.calls ((zbb l0 (ji5)).f0) _ _ ((zbb l0 (ji5)).f1) a1 t220 _ ?side1 HC219_1.out A8.out) ?_); (case side1 => exact cx_ (Kd.zcc HR219_1.out HB.out)); intro w10 hb; replace HB := bs_ hb; clear hb)); go_roundg k1
       case measure => have := HK1.out; omega
       case rel => exact ⟨(wrap64 ((ji5) + 1)), (x10_1), q44_, q6_, H', ⟨kq_⟩, ⟨q0_⟩⟩
      ·rw [if_neg c9] at H; have c9b0 := decide_eq_false c9; clear c9; have H' := ak_ H; clear H; go_wp2_with (first | ((with_reducible refine zcg (t := 24) rfl ?_); refine zez (some 30) rfl rfl Tryd.func26 (by kernel_rfl) rfl #[.agg #[.string ((zbb l0 (ji5)).f0), .slice A219_1 ((zbb l0 (ji5)).f1).length c219_1], .string a1] rfl (by rfl) q31_ ?_; (with_reducible refine ca_ (zdz.calls ((zbb l0 (ji5)).f0) _ _ ((zbb l0 (ji5)).f1) a1 t220 _ ?side1 HC219_1.out A8.out) ?_); (case side1 => exact cx_ (Kd.zcc HR219_1.out HB.out)); intro w11 hb; replace HB := bs_ hb; clear hb)); go_roundg k1
       case measure => have := HK1.out; omega
       case rel => exact ⟨(x9_1), (ji5), q6_, q44_, H', ⟨kq_⟩, ⟨q0_⟩⟩
     ·rw [if_neg c7] at H; exact absurd H (by simp)
    ·rw [if_neg c6] at H; exact absurd H (by simp)
   ·rw [if_neg c4] at H; have c4b0 := decide_eq_false c4; clear c4
    by_cases c12 : x9_1 < (l0.length : Int)
    ·rw [if_pos c12] at H; have c12b0 := decide_eq_true c12; clear c12
     by_cases c13 : 0 ≤ x9_1
     ·rw [if_pos c13] at H; have c13b0 := decide_eq_true c13; clear c13
      by_cases c14 : x9_1 < (l0.length : Int)
      ·rw [if_pos c14] at H; have c14b0 := decide_eq_true c14; clear c14; obtain ⟨t218, A15, H⟩ := bi_ H; replace H : (some (x9_1, (t218 == 0))) = some (r1, r2) := H; simp only [Option.some.injEq, Prod.mk.injEq] at H; obtain ⟨rfl, rfl⟩ := H; have p217 : 0 ≤ (x9_1 : Int) := of_decide_eq_true q4_; have q217 : x9_1 < (l0.length : Int) := of_decide_eq_true q4_; obtain ⟨ad217, A217_1, c217_1, e217, hx217_0, hx217_1, hl217_1, hi217_1⟩ := zha HR0.out x9_1 p217 q217; cases e217; replace hx217_0 := hc_ HB.out hx217_0; replace hx217_1 := hc_ HB.out hx217_1; have HR217_1 := ak_ hi217_1; have HC217_1 := ak_ hl217_1; clear hi217_1 hl217_1; replace p217 := eq_true p217; replace q217 := eq_true q217; go_wp2_with (first | (go_at_call 26; (with_reducible refine (zdz.calls ((zbb l0 x9_1).f0) _ _ ((zbb l0 x9_1).f1) a1 t218 _ ?side1 HC217_1.out A15.out).mono ?_); (case side1 => exact cx_ (Kd.zcc HR217_1.out HB.out)); rintro e w16 ⟨rfl, hb⟩; replace HB := bs_ hb; clear hb)); go_ret2; exact ⟨q5_, q0_⟩
      ·rw [if_neg c14] at H; exact absurd H (by simp)
     ·rw [if_neg c13] at H; exact absurd H (by simp)
    ·rw [if_neg c12] at H; have c12b0 := decide_eq_false c12; clear c12; simp only [Option.some.injEq, Prod.mk.injEq] at H; obtain ⟨rfl, rfl⟩ := H; go_wp2; go_ret2; exact ⟨q5_, q0_⟩
def zev.f (a0_0 : ByteArray) (l0_1 : List (S81)) : Option (Bool) := some ((l0_1.length : Int) == 0)
theorem zev.calls (a0_0 : ByteArray) (A0_1 : Option Addr) (c0_1 : Nat) (l0_1 : List (S81)) (r : Bool) (w : World) (hr0_1 : Kd.C k81 w A0_1 l0_1.length l0_1) (hc0_1 : l0_1.length ≤ c0_1) (h : zev.f a0_0 l0_1 = some r) :
  Calls Tryd.prog 31 #[.agg #[.string a0_0, .slice A0_1 l0_1.length c0_1]] w fun e w' => e = .returned (.bool r) ∧ Below w.heap.size w w' := by
 have hu56 := Tryd.underlying56; have HR0_1 := ak_ hr0_1; have HC0_1 := ak_ hc0_1; clear hr0_1 hc0_1; have HB := ak_ (Below.refl w.heap.size w); have H : (some ((l0_1.length : Int) == 0)) = some r := h; clear h; obtain rfl := Option.some.inj H; go_enter Tryd.func31, Tryd.ntmps31; go_wp2_with (first | ((with_reducible refine gd_ 1 rfl ?_); refine by_ #[.string a0_0, .slice A0_1 l0_1.length c0_1] 56 ?_; intro gb221 hg w2 BK221 hb; have GE221 := gw_ hg; replace HB := bs_ hb; clear hb hg; have hz3 := bc2_ (w := w2) BK221.out)); go_ret; exact ⟨q5_, q0_⟩
def zao.l0 : Nat → List (S56) → Int → Int → Option (Int)
 | 0, _, _, _ => none
 | k + 1, x0, x7, x8 => if x8 < x7 then (if 0 ≤ x8 then (if x8 < (x0.length : Int) then ((zev.f ((zbb x0 x8).f0) ((zbb x0 x8).f1)).bind fun t223 => (if t223 = true then (some x8) else (zao.l0 k x0 x7 (wrap64 (x8 + 1))))) else (none)) else (none)) else (some (-1))
def zao.f (k : Nat) (l0 : List (S56))  : Option (Int) := zao.l0 k l0 (l0.length : Int) 0
theorem zao.zby : ∀ k, (∀ y0 y1 y2, LeO (zao.l0 k y0 y1 y2) (zao.l0 (k + 1) y0 y1 y2))
 | 0 => fun _ _ _ r h => by simp [zao.l0] at h
 | k + 1 => by
  have ih0 := zao.zby k
  ·intro y0 y1 y2
   unfold zao.l0
   with_reducible repeat' first
   | apply ih0
   | apply LeO.refl
   | apply LeO.none
   | refine LeO.ite ?_ ?_
   | refine LeO.bind ?_ (fun _ => ?_)
theorem zao.mono : ∀ a0 k, LeO (zao.f k a0) (zao.f (k + 1) a0) := by
 intro a0 k
 have ih0 := zao.zby k
 unfold zao.f
 with_reducible repeat' first
   | apply ih0
   | apply LeO.refl
   | apply LeO.none
   | refine LeO.ite ?_ ?_
   | refine LeO.bind ?_ (fun _ => ?_)
theorem zao.calls (k : Nat) (A0 : Option Addr) (c0 : Nat) (l0 : List (S56))  (r : Int) (w : World) (hr0 : Kd.C k56 w A0 l0.length l0) (hc0 : l0.length ≤ c0) (h : zao.f k l0 = some r) :
  Calls Tryd.prog 52 #[.slice A0 l0.length c0, (.func (.func 31) #[] #[])] w fun e w' => e = .returned (.int .i64 r) ∧ Below w.heap.size w w' := by
 have hu56 := Tryd.underlying56; have HR0 := ak_ hr0; have HC0 := ak_ hc0; clear hr0 hc0; have HB := ak_ (Below.refl w.heap.size w); have H : (zao.l0 k l0 (l0.length : Int) 0) = some r := h; clear h; have H' := ak_ H; clear H; go_enter Tryd.func52, Tryd.ntmps52; go_wp2; go_loopg [8] k (fun kq v8 w' => ∃ (x8_1 : Int), v8 = .int .i64 x8_1 ∧ zab (zao.l0 kq l0 (l0.length : Int) x8_1 = some r) ∧ zab (kq ≤ k) ∧ zab (Below w.heap.size w w'))
 case atStart => exact ⟨(0), q6_, H', ⟨Nat.le_refl _⟩, ⟨q0_⟩⟩
 case round =>
  clear H'; obtain ⟨x8_1, rfl, HA, HK1, HB⟩ := hrel
  cases gk with
  | zero => exact absurd HA.out (by simp [zao.l0])
  | succ k1 =>
   have H := HA.out; clear HA; simp only [zao.l0] at H
   by_cases c3 : x8_1 < (l0.length : Int)
   ·rw [if_pos c3] at H; have c3b0 := decide_eq_true c3; clear c3
    by_cases c4 : 0 ≤ x8_1
    ·rw [if_pos c4] at H; have c4b0 := decide_eq_true c4; clear c4
     by_cases c5 : x8_1 < (l0.length : Int)
     ·rw [if_pos c5] at H; have c5b0 := decide_eq_true c5; clear c5; obtain ⟨t223, A6, H⟩ := bi_ H; try dsimp only at H
      have p222 : 0 ≤ (x8_1 : Int) := of_decide_eq_true q4_; have q222 : x8_1 < (l0.length : Int) := of_decide_eq_true q4_; obtain ⟨ad222, A222_1, c222_1, e222, hx222_0, hx222_1, hl222_1, hi222_1⟩ := zha HR0.out x8_1 p222 q222; cases e222; replace hx222_0 := hc_ HB.out hx222_0; replace hx222_1 := hc_ HB.out hx222_1; have HR222_1 := ak_ hi222_1; have HC222_1 := ak_ hl222_1; clear hi222_1 hl222_1; replace p222 := eq_true p222; replace q222 := eq_true q222
      by_cases c7 : t223 = true
      ·subst c7; replace H := ifT_ H; obtain rfl := Option.some.inj H; go_wp2_with (first | ((with_reducible refine zcg (t := 11) rfl ?_); refine zez (some 16) rfl rfl Tryd.func31 (by kernel_rfl) rfl #[.agg #[.string ((zbb l0 x8_1).f0), .slice A222_1 ((zbb l0 x8_1).f1).length c222_1]] rfl (by rfl) q2_ ?_; (with_reducible refine ca_ (zev.calls ((zbb l0 x8_1).f0) _ _ ((zbb l0 x8_1).f1) true _ ?side1 HC222_1.out A6.out) ?_); (case side1 => exact cx_ (Kd.zcc HR222_1.out HB.out)); intro w8 hb; replace HB := bs_ hb; clear hb)); go_ret; exact ⟨q5_, q0_⟩
      ·replace c7 := Bool.eq_false_iff.mpr c7; subst c7; replace H := ifF_ H; have H' := ak_ H; clear H; go_wp2_with (first | ((with_reducible refine zcg (t := 11) rfl ?_); refine zez (some 16) rfl rfl Tryd.func31 (by kernel_rfl) rfl #[.agg #[.string ((zbb l0 x8_1).f0), .slice A222_1 ((zbb l0 x8_1).f1).length c222_1]] rfl (by rfl) q2_ ?_; (with_reducible refine ca_ (zev.calls ((zbb l0 x8_1).f0) _ _ ((zbb l0 x8_1).f1) false _ ?side1 HC222_1.out A6.out) ?_); (case side1 => exact cx_ (Kd.zcc HR222_1.out HB.out)); intro w9 hb; replace HB := bs_ hb; clear hb)); go_roundg k1
       case measure => have := HK1.out; omega
       case rel => exact ⟨(wrap64 (x8_1 + 1)), q6_, H', ⟨kq_⟩, ⟨q0_⟩⟩
     ·rw [if_neg c5] at H; exact absurd H (by simp)
    ·rw [if_neg c4] at H; exact absurd H (by simp)
   ·rw [if_neg c3] at H; have c3b0 := decide_eq_false c3; clear c3; obtain rfl := Option.some.inj H; go_wp2; go_ret; exact ⟨q5_, q0_⟩
def zae.f (l0 : List S56) : Option (List S56) := if l0.length ≤ 1000000 then some (l0.filter fun c => !(c.f1.length == 0)) else none
def zae.p (c : S56) : Bool := c.f1.length == 0
def zae.i : List S56 → Nat → Int
 | [], _ => -1
 | c :: t, i => if zae.p c = true then (i : Int) else zae.i t (i + 1)
theorem zae.i_spec : ∀ (t : List S56) (i : Nat), (zae.i t i = -1 ∧ ∀ c ∈ t, zae.p c = false) ∨ ∃ m c, zae.i t i = ((i + m : Nat) : Int) ∧ t[m]? = some c ∧ zae.p c = true ∧ ∀ d ∈ t.take m, zae.p d = false
 | [], _ => .inl ⟨rfl, fun c hc => by cases hc⟩
 | c :: t, i => by
  unfold zae.i
  by_cases h : zae.p c = true
  ·rw [if_pos h]
   exact .inr ⟨0, c, rfl, rfl, h, fun d hd => by cases hd⟩
  ·rw [if_neg h]
   have h' := Bool.eq_false_iff.2 h
   rcases zae.i_spec t (i + 1) with ⟨e, ha⟩ | ⟨m, d, e, h1, h2, h3⟩
   ·refine .inl ⟨e, fun d hd => ?_⟩
    rcases List.mem_cons.1 hd with rfl | hd
    ·exact h'
    ·exact ha d hd
   ·refine .inr ⟨m + 1, d, by rw [e]; congr 1; omega, h1, h2, fun x hx => ?_⟩
    rw [List.take_succ_cons] at hx
    rcases List.mem_cons.1 hx with rfl | hx
    ·exact h'
    ·exact h3 x hx
theorem zae.i_f (l : List S56) (hl : l.length ≤ 1000000) : ∀ (t : List S56) (i m : Nat), l.drop i = t → i ≤ l.length → t.length < m → zao.l0 m l (l.length : Int) (i : Int) = some (zae.i t i)
 | _, _, 0, _, _, h => absurd h (Nat.not_lt_zero _)
 | [], i, m + 1, h, hi, _ => by
  have := List.drop_eq_nil_iff.1 h
  simp only [zao.l0]
  rw [if_neg (by omega)]; rfl
 | c :: t, i, m + 1, h, hi, hm => by
  have hlt : i < l.length := by
   rcases Nat.lt_or_ge i l.length with h1 | h1
   ·exact h1
   ·rw [List.drop_of_length_le h1] at h; cases h
  have h2 := h
  rw [List.drop_eq_getElem_cons hlt] at h2
  injection h2 with h3 h4
  have e : zbb l (i : Int) = c := by
   unfold zbb
   rw [Int.toNat_natCast, List.getD_eq_getElem?_getD, List.getElem?_eq_getElem hlt, h3]; rfl
  have hw : wrap64 ((i : Int) + 1) = ((i + 1 : Nat) : Int) := by unfold wrap64; omega
  have e2 : ((c.f1.length : Int) == 0) = zae.p c := by rw [Bool.eq_iff_iff]; unfold zae.p; simp
  simp only [zao.l0]
  rw [if_pos (by omega), if_pos (by omega), if_pos (by omega), e, hw, zae.i_f l hl t (i + 1) m h4 (by omega) (by simpa using hm)]
  show (if ((c.f1.length : Int) == 0) = true then some (i : Int) else some (zae.i t (i + 1))) = some (if zae.p c = true then (i : Int) else zae.i t (i + 1))
  rw [e2]
  split <;> rfl
section
variable {α β : Type} {p : α → Bool} {z : List (α × β)} {cur : List β} {i j : Nat}
structure DInv (p : α → Bool) (z : List (α × β)) (cur : List β) (i j : Nat) : Prop where
 len : cur.length = z.length
 le : j ≤ z.length
 cnt : i = ((z.take j).filter fun q => !p q.1).length
 low : cur.take i = ((z.take j).filter fun q => !p q.1).map (·.2)
 high : cur.drop j = (z.drop j).map (·.2)
theorem DInv.ij (h : DInv p z cur i j) : i ≤ j := by
 rw [h.cnt]
 exact Nat.le_trans (List.length_filter_le _ _) (by rw [List.length_take]; exact Nat.min_le_left _ _)
theorem DInv.start {k : Nat} (hk : k ≤ z.length) (h : ∀ q ∈ z.take k, p q.1 = false) : DInv p z (z.map (·.2)) k k where
 len := by simp
 le := hk
 cnt := by rw [List.filter_eq_self.2 (fun q hq => by simp [h q hq]), List.length_take]; omega
 low := by rw [List.filter_eq_self.2 (fun q hq => by simp [h q hq]), List.map_take]
 high := by rw [List.map_drop]
theorem DInv.at (h : DInv p z cur i j) (hj : j < z.length) : cur[j]? = some (z[j]).2 := by
 have h1 := congrArg (fun l => l[0]?) h.high
 simp only [List.getElem?_drop, List.getElem?_map, Nat.add_zero] at h1
 rw [h1, List.getElem?_eq_getElem hj]
 rfl
theorem DInv.skip (h : DInv p z cur i j) (hj : j < z.length) (hp : p (z[j]).1 = true) : DInv p z cur i (j + 1) where
 len := h.len
 le := hj
 cnt := by rw [List.take_add_one, List.getElem?_eq_getElem hj, List.filter_append]; simp [hp, ← h.cnt]
 low := by rw [List.take_add_one, List.getElem?_eq_getElem hj, List.filter_append]; simp [hp, h.low]
 high := by rw [← List.drop_drop, ← List.drop_drop, h.high, List.map_drop, List.map_drop, List.map_drop]
theorem DInv.keep (h : DInv p z cur i j) (hj : j < z.length) (hp : p (z[j]).1 = false) : DInv p z (cur.set i (z[j]).2) (i + 1) (j + 1) where
 len := by rw [List.length_set]; exact h.len
 le := hj
 cnt := by rw [List.take_add_one, List.getElem?_eq_getElem hj, List.filter_append]; simp [hp, ← h.cnt]
 low := by
  have hi : i < cur.length := by have := h.ij; have := h.len; omega
  rw [List.take_add_one, List.getElem?_set_self hi, List.take_set_of_le (Nat.le_refl _), h.low, List.take_add_one, List.getElem?_eq_getElem hj, List.filter_append]
  simp [hp]
 high := by
  have := h.ij
  rw [List.drop_set, if_pos (by omega), ← List.drop_drop, ← List.drop_drop, h.high, List.map_drop, List.map_drop, List.map_drop]
theorem DInv.all (h : DInv p z cur i z.length) : cur.take i = (z.filter fun q => !p q.1).map (·.2) ∧ i = (z.filter fun q => !p q.1).length := by
 have h1 := h.low
 have h2 := h.cnt
 rw [List.take_length] at h1 h2
 exact ⟨h1, h2⟩
theorem zis : ∀ (xs : List α) (rows : List β), rows.length = xs.length → ((xs.zip rows).filter fun q => !p q.1).map (·.1) = xs.filter fun x => !p x
 | [], [], _ => rfl
 | [], _ :: _, h => by simp at h
 | _ :: _, [], h => by simp at h
 | x :: xs, c :: rows, h => by
  have ih := zis xs rows (by simpa using h)
  rw [List.zip_cons_cons]
  cases hp : p x <;> simp [hp, ih]
end
theorem flat_set {k : Nat} {rows : List (List Value)} {c : List Value} {i : Nat} (hk : ∀ r ∈ rows, r.length = k) (hi : i < rows.length) :
  (rows.set i c).flatten = rows.flatten.take (i * k) ++ (c ++ rows.flatten.drop (i * k + k)) := by
 have e : rows.set i c = rows.take i ++ c :: rows.drop (i + 1) := by rw [List.set_eq_take_append_cons_drop, if_pos hi]
 rw [e, List.flatten_append, List.flatten_cons, Mem.zhx rows i hk, show i * k + k = (i + 1) * k by rw [Nat.succ_mul], Mem.zgq rows (i + 1) hk]
theorem block_set {w : World} {b : Nat} {e : TypeId} {k : Nat} {cur : Array Value} {rows : List (List Value)} {c : List Value} {i : Nat}
  (hb : w.heap[b]? = some (.cells cur e (0, 0))) (hk : ∀ r ∈ rows, r.length = k) (hc : c.length = k) (hi : i < rows.length) (hn : rows.length * k ≤ cur.size) (ht : cur.toList.take (rows.length * k) = rows.flatten) :
  ∃ cur', (w.setCells b (i * k) c).heap[b]? = some (.cells cur' e (0, 0)) ∧ cur'.size = cur.size ∧ cur'.toList.take (rows.length * k) = (rows.set i c).flatten := by
 have hik : i * k + k ≤ rows.length * k := by
  have := Nat.mul_le_mul_right k (show i + 1 ≤ rows.length from hi)
  rw [Nat.succ_mul] at this
  exact this
 obtain ⟨cur', h1, h2, h3⟩ := Mem.zcv b e c (i * k) w cur hb (by rw [hc]; omega)
 refine ⟨cur', h1, h2, ?_⟩
 have hl : cur.toList.length = cur.size := Array.length_toList
 have e1 : cur.toList = rows.flatten ++ cur.toList.drop (rows.length * k) := by rw [← ht, List.take_append_drop]
 have hf : rows.flatten.length = rows.length * k := Mem.zhk rows hk
 rw [h3, flat_set hk hi, hc, e1]
 rw [List.take_append_of_le_length (l₁ := rows.flatten) (by omega), List.drop_append_of_le_length (l₁ := rows.flatten) (by omega)]
 simp only [← List.append_assoc]
 refine List.take_left' ?_
 simp only [List.length_append, List.length_take, List.length_drop]
 omega
theorem run_clear_cellsK {P : Program} (w : World) (t e ty : TypeId) (z : Value) (K : Nat) (ht : P.underlying t = some (.slice e)) (hv : ∀ w, (zeroValue e).run P w = .ok z w) (hK : z.cells.size = K) (h1 : ∀ v ∈ z.cells.toList, v.oneCell' = true) (b o n c : Nat) (hn : 0 < n)
  (hc : ∀ j, j < n * K → (w.cell? ⟨b, o + j, none⟩).isSome = true) (hf : ∀ j, j < n * K → w.frozen? ⟨b, o + j, none⟩ = false) :
  ∃ vs : List Value, vs.length = n * K ∧ (Builtin.clear_ #[t] ty #[.slice (some ⟨b, o, none⟩) n c]).run P w = .ok (.tuple #[]) (w.setCells b o vs) := by
 have hl : (Builtin.zeroCells z.cells n).toList.length = n * K := by simp [Builtin.zeroCells, hK, Nat.mul_comm]
 have hm : ∀ v ∈ (Builtin.zeroCells z.cells n).toList, v.oneCell' = true := by
  intro v hv'
  simp only [Builtin.zeroCells] at hv'
  simp at hv'
  obtain ⟨i, hi, rfl⟩ := hv'
  have hlt : i % z.cells.size < z.cells.size := Nat.mod_lt _ (Nat.pos_of_ne_zero (fun h => by rw [h] at hi; simp at hi))
  rw [getElem!_pos z.cells _ hlt]
  exact h1 _ (by simp)
 refine ⟨(Builtin.zeroCells z.cells n).toList, hl, ?_⟩
 have hst := run_storeCells_cells (P := P) b o (Builtin.zeroCells z.cells n).toList 0 w (by rw [hl]; simpa using hc) (by rw [hl]; simpa using hf) hm
 simp only [Nat.add_zero] at hst
 obtain ⟨m, rfl⟩ : ∃ m, n = m + 1 := ⟨n - 1, by omega⟩
 simp [Builtin.clear_, run_underlying ht, hv, hst]
theorem row_cell {k n : Nat} {rows : List (List Value)} {cA : Array Value} (hk : ∀ r ∈ rows, r.length = k) (ht : cA.toList.take (n * k) = rows.flatten) {j t : Nat} {c : List Value} {v : Value} (hj : rows[j]? = some c) (hv : c[t]? = some v) : cA[j * k + t]? = some v := by
 have hjl := (List.getElem?_eq_some_iff.1 hj).1
 have h1 : rows.flatten[j * k + t]? = some v := by
  have e : rows.flatten[j * k + t]? = (rows.flatten.drop (j * k))[t]? := by rw [List.getElem?_drop]
  rw [e, Mem.zgq rows j hk, List.drop_eq_getElem_cons hjl, List.flatten_cons, (List.getElem?_eq_some_iff.1 hj).2, List.getElem?_append_left (List.getElem?_eq_some_iff.1 hv).1, hv]
 rw [← ht, List.getElem?_take] at h1
 split at h1
 ·rwa [Array.getElem?_toList] at h1
 ·cases h1
set_option maxHeartbeats 4000000 in
theorem zae.N (wo w : World) (ok : Nat → Prop) (u : Value) (xs : List S56) (P_ : Nat → Prop) (hB : Below wo.heap.size wo w) (ho : Kd.N k56 56 w wo.heap.size ok u xs) (hP : ∀ k, some k = u.ownBlock → P_ k) (hl : xs.length ≤ 1000000) :
  Calls Tryd.prog 30 #[u, (.func (.func 31) #[] #[])] w fun e w' => ∃ v0, e = .returned v0 ∧ Kd.N k56 56 w' wo.heap.size ok v0 (xs.filter fun c => !zae.p c) ∧ Below wo.heap.size wo w' ∧ Kept w w' P_ := by
 obtain ⟨A, c, hu⟩ := Kd.zcy ho
 subst hu
 obtain ⟨_, hnc, hC⟩ := Kd.zdg ho
 have hIF := fun (W : World) (hC : Kd.C k56 W A xs.length xs) => zao.calls (xs.length + 1) A c xs (zae.i xs 0) W hC hnc (zae.i_f xs hl xs 0 (xs.length + 1) rfl (Nat.zero_le _) (by omega))
 have HI := zab.mk (hIF w hC)
 clear hIF
 rcases zae.i_spec xs 0 with ⟨hi, hall⟩ | ⟨m, cm, hi, hcm, hpm, hpre⟩
 ·have hf : xs.filter (fun c => !zae.p c) = xs := List.filter_eq_self.2 (fun c hc => by rw [hall c hc]; rfl)
  rw [hi] at HI
  have HF := zab.mk hf
  have HN := zab.mk ho
  have HB := zab.mk hB
  clear hi hall hf ho hB hC hnc
  go_enter Tryd.func30, Tryd.ntmps30
  go_wp2_with (go_at_call 52; refine HI.out.mono ?_; rintro e w' ⟨rfl, hb⟩; have HB1 := zab.mk hb; clear hb)
  go_ret
  exact ⟨_, rfl, by rw [HF.out]; exact Kd.zdq HN.out HB1.out, zaw HB.out HB.out.size HB1.out, Kept.of_below HB1.out _⟩
 ·have hml : m < xs.length := (List.getElem?_eq_some_iff.1 hcm).1
  obtain ⟨rows, hrl, hk, h1, hf, hcase⟩ := Mem.N_open ho
  rcases hcase with ⟨_, hx, _⟩ | ⟨b, cap, cur0, hv, hbb, hokb, hbh, hncap, hcm63, hcsz, htake⟩
  ·subst hx; simp at hml
  have hv2 := hv
  injection hv2 with hA _ hcc
  subst hA; subst hcc
  have hob : (Value.slice (some ⟨b, 0, none⟩) xs.length c).ownBlock = some b := rfl
  rw [hob] at hf
  have hzl : (xs.zip rows).length = xs.length := by rw [List.length_zip]; omega
  have hD0 : DInv zae.p (xs.zip rows) rows m (m + 1) := by
   have e : rows = (xs.zip rows).map (·.2) := by rw [List.map_snd_zip (by omega)]
   have hs : DInv zae.p (xs.zip rows) ((xs.zip rows).map (·.2)) m m := DInv.start (by omega) (fun q hq => by
    rw [List.zip, List.take_zipWith] at hq
    exact hpre q.1 (List.of_mem_zip hq).1)
   rw [← e] at hs
   refine hs.skip (by omega) ?_
   rw [List.getElem_zip]
   have : xs[m] = cm := (List.getElem?_eq_some_iff.1 hcm).2
   rw [this]; exact hpm
  have hsz2 : k56.sz = 2 := rfl
  rw [hsz2] at hk htake hcsz
  have HF := zab.mk hf
  have HD := zab.mk hD0
  have HK := zab.mk hk
  have H1 := zab.mk h1
  have HB := zab.mk hB
  have HBH := zab.mk hbh
  have HT := zab.mk htake
  have HCS := zab.mk hcsz
  have HRL := zab.mk hrl
  have HZL := zab.mk hzl
  have HBB := zab.mk hbb
  have HOK := zab.mk hokb
  have HP := zab.mk hP
  have HO := zab.mk ho
  have hi2 : zae.i xs 0 = (m : Int) := by rw [hi]; congr 1; omega
  rw [hi2] at HI
  have hne1 : ((m : Int) == -1) = false := beq_eq_false_iff_ne.2 (by omega)
  have hbw := zab.mk (zca hbh)
  have HNC := zab.mk hncap
  have HC63 := zab.mk hcm63
  clear hf hD0 hk h1 hB hbh htake hcsz hrl hzl hbb hokb hP ho hi hi2 hpre hpm hcm hv hC hnc hncap hcm63
  have hu56 := Tryd.underlying56
  go_enter Tryd.func30, Tryd.ntmps30
  go_wp2_with (go_at_call 52; refine HI.out.mono ?_; rintro e w1 ⟨rfl, hb⟩; have HB1 := zab.mk hb; clear hb)
  have hK1 : zab (∀ k, k < w.heap.size → k ≠ b → w1.heap[k]? = w.heap[k]?) := ⟨fun k hk _ => HB1.out.block k hk⟩
  have hS1 : zab (w.heap.size ≤ w1.heap.size) := ⟨HB1.out.size⟩
  have hb1 : zab (w1.heap[b]? = some (.cells cur0 56 (0, 0))) := ⟨(HB1.out.block b hbw.out).trans HBH.out⟩
  have hBo : zab (Below wo.heap.size wo w1) := ⟨zaw HB.out HB.out.size HB1.out⟩
  clear HBH HB1 HI HB
  go_loopg [5, 6, 7] xs.length (fun gg s5 s6 _ wr => ∃ (i j : Nat) (cur : List (List Value)) (cA : Array Value), s5 = .int .i64 i ∧ s6 = .int .i64 j ∧ zab (j ≤ xs.length) ∧ zab (xs.length - j ≤ gg) ∧ zab (DInv zae.p (xs.zip rows) cur i j) ∧ zab (i < j) ∧ zab (∀ c ∈ cur, c.length = 2) ∧ zab (∀ c ∈ cur, c ∈ rows) ∧
   zab (wr.heap[b]? = some (.cells cA 56 (0, 0))) ∧ zab (cA.size = c * 2) ∧ zab (cA.toList.take (xs.length * 2) = cur.flatten) ∧ zab (∀ k, k < w.heap.size → k ≠ b → wr.heap[k]? = w.heap[k]?) ∧ zab (w.heap.size ≤ wr.heap.size) ∧ zab (Below wo.heap.size wo wr))
  case atStart => exact ⟨m, m + 1, rows, cur0, rfl, by go_num, ⟨hml⟩, ⟨by omega⟩, HD, ⟨Nat.lt_succ_self _⟩, HK, ⟨fun c hc => hc⟩, hb1, HCS, HT, hK1, hS1, hBo⟩
  case round =>
   clear HD hK1 hS1 hb1 hBo HT HCS
   obtain ⟨i, j, cur, cA, rfl, rfl, hjn, hgg, HD, hij, HC2, HCR, hbk, HCS, HT, HKK, HS, hBo⟩ := hrel
   have hln : xs.length ≤ 1000000 := hl
   by_cases hlt : j < xs.length
   ·obtain ⟨x, hx⟩ : ∃ x, xs[j]? = some x := ⟨_, List.getElem?_eq_getElem hlt⟩
    obtain ⟨cj, hcj⟩ : ∃ c, rows[j]? = some c := ⟨_, List.getElem?_eq_getElem (by have := HRL.out; omega)⟩
    have hzj : (xs.zip rows)[j]'(by have := HZL.out; omega) = (x, cj) := by
     rw [List.getElem_zip]
     exact Prod.ext (List.getElem?_eq_some_iff.1 hx).2 (List.getElem?_eq_some_iff.1 hcj).2
    have hcu : cur[j]? = some cj := by have := HD.out.at (by have := HZL.out; omega); rw [hzj] at this; exact this
    have hFK := Kd.zgb (Kd.zgi (HF.out j x cj hx hcj)) (fun k hk hlt => HKK.out k hk.2 (fun e => hk.1.2 (by rw [e])))
    obtain ⟨A1, c1, hce, hlc, hF81⟩ := k56_openF hFK
    have hil : i < cur.length := by have := HD.out.len; have := HZL.out; have := hij.out; omega
    obtain ⟨ci, hci⟩ : ∃ c, cur[i]? = some c := ⟨_, List.getElem?_eq_getElem hil⟩
    obtain ⟨o0, o1, hoe⟩ : ∃ o0 o1, ci = [o0, o1] := by
     have := HC2.out ci (List.mem_of_getElem? hci)
     match ci, this with
     | [a, b], _ => exact ⟨a, b, rfl⟩
    subst hce; subst hoe
    have hc0 : wr.cell? ⟨b, j * 2, none⟩ = some (.string x.f0) := (zat hbk.out _).trans (row_cell HC2.out HT.out hcu (t := 0) rfl)
    have hc1 : wr.cell? ⟨b, j * 2 + 1, none⟩ = some (.slice A1 x.f1.length c1) := (zat hbk.out _).trans (row_cell HC2.out HT.out hcu (t := 1) rfl)
    have hd0 : wr.cell? ⟨b, i * 2, none⟩ = some o0 := (zat hbk.out _).trans (row_cell HC2.out HT.out hci (t := 0) rfl)
    have hd1 : wr.cell? ⟨b, i * 2 + 1, none⟩ = some o1 := (zat hbk.out _).trans (row_cell HC2.out HT.out hci (t := 1) rfl)
    have hfz := zag hbk.out
    have hjlt : (j : Int) < (xs.length : Int) := by omega
    have hj0 : (0 : Int) ≤ (j : Int) := by omega
    have hilt : (i : Int) < (xs.length : Int) := by have := hij.out; omega
    have hi0 : (0 : Int) ≤ (i : Int) := by omega
    have hwj : wrap64 ((j : Int) + 1) = ((j + 1 : Nat) : Int) := by unfold wrap64; omega
    have hwi : wrap64 ((i : Int) + 1) = ((i + 1 : Nat) : Int) := by unfold wrap64; have := hij.out; omega
    have HFF := zab.mk hF81
    have HLC := zab.mk hlc
    have HCU := zab.mk hcu
    have HZJ := zab.mk hzj
    have HCI := zab.mk hci
    have hr : zev.f x.f0 x.f1 = some (zae.p x) := by
     show some ((x.f1.length : Int) == 0) = some (x.f1.length == 0)
     congr 1
     rw [Bool.eq_iff_iff]; simp
    have HR := zab.mk hr
    clear hF81 hlc hcu hzj hci hFK hr hx hcj
    generalize hpx : zae.p x = px at HR
    have HPX := zab.mk hpx
    clear hpx
    have hcl := fun px (hr : zev.f x.f0 x.f1 = some px) => zev.calls x.f0 A1 c1 x.f1 px (wr.alloc (.cells #[.string x.f0, .slice A1 x.f1.length c1] 56)) (Kd.F_now (Kd.zhu HFF.out _)) HLC.out hr
    have HCL := zab.mk hcl
    clear hcl
    have hup : ∀ w2 : World, Below (wr.alloc (.cells #[.string x.f0, .slice A1 x.f1.length c1] 56)).heap.size (wr.alloc (.cells #[.string x.f0, .slice A1 x.f1.length c1] 56)) w2 → Below wr.heap.size wr w2 ∧ w2.heap[wr.heap.size]? = some (.cells #[.string x.f0, .slice A1 x.f1.length c1] 56 (0, 0)) := fun w2 h2 =>
     ⟨zaw (zas (Below.refl _ _) _) (zas (Below.refl wr.heap.size wr) (.cells #[.string x.f0, .slice A1 x.f1.length c1] 56)).size h2, (h2.block _ q51_).trans (Mem.zck wr #[.string x.f0, .slice A1 x.f1.length c1] 56)⟩
    have HUP := zab.mk hup
    clear hup
    cases px with
    | true =>
     have HC := zab.mk (HCL.out true HR.out)
     clear HCL
     go_wp2_with (go_at_call 31; refine HC.out.mono ?_; rintro e w2 ⟨rfl, hb2⟩; have HB2 := zab.mk hb2; clear hb2)
     go_roundg (xs.length - (j + 1))
     case measure => have := hgg.out; omega
     case rel =>
      obtain ⟨u1, _⟩ := HUP.out _ HB2.out
      have hbl := zca hbk.out
      exact ⟨i, j + 1, cur, cA, rfl, by go_num, ⟨by omega⟩, ⟨Nat.le_refl _⟩, ⟨HD.out.skip (by have := HZL.out; omega) (by rw [HZJ.out]; exact HPX.out)⟩, ⟨by have := hij.out; omega⟩, HC2, HCR, ⟨(u1.block b hbl).trans hbk.out⟩, HCS, HT, ⟨fun k hk hkb => (u1.block k (Nat.lt_of_lt_of_le hk HS.out)).trans (HKK.out k hk hkb)⟩, ⟨Nat.le_trans HS.out u1.size⟩, ⟨zaw hBo.out hBo.out.size u1⟩⟩
    | false =>
     have HC := zab.mk (HCL.out false HR.out)
     clear HCL
     have hbl := zab.mk (zca hbk.out)
     go_wp2_with (go_at_call 31; refine HC.out.mono ?_; rintro e w2 ⟨rfl, hb2⟩; have HB2 := zab.mk hb2; clear hb2; (have hx0 : w2.cell? ⟨wr.heap.size, 0, none⟩ = some (.string x.f0) := (zat (HUP.out _ HB2.out).2 0).trans rfl); (have hx1 : w2.cell? ⟨wr.heap.size, 1, none⟩ = some (.slice A1 x.f1.length c1) := (zat (HUP.out _ HB2.out).2 1).trans rfl); (replace hd0 : w2.cell? ⟨b, i * 2, none⟩ = some o0 := ((HUP.out _ HB2.out).1.cell (p := ⟨b, i * 2, none⟩) hbl.out).trans hd0); (replace hd1 : w2.cell? ⟨b, i * 2 + 1, none⟩ = some o1 := ((HUP.out _ HB2.out).1.cell (p := ⟨b, i * 2 + 1, none⟩) hbl.out).trans hd1); (have hfz2 : ∀ o, w2.frozen? ⟨b, o, none⟩ = false := fun o => ((HUP.out _ HB2.out).1.frozen (p := ⟨b, o, none⟩) hbl.out).trans (hfz o)); clear hc0 hc1)
     go_roundg (xs.length - (j + 1))
     case measure => have := hgg.out; omega
     case rel =>
      obtain ⟨u1, _⟩ := HUP.out _ HB2.out
      have hb2 := (u1.block b hbl.out).trans hbk.out
      have hcl : cur.length = xs.length := by rw [HD.out.len, HZL.out]
      obtain ⟨cA', g1, g2, g3⟩ := block_set (i := i) (c := [.string x.f0, .slice A1 x.f1.length c1]) hb2 HC2.out rfl (by have := hij.out; omega) (by rw [hcl, HCS.out]; exact Nat.mul_le_mul_right 2 HNC.out) (by rw [hcl]; exact HT.out)
      rw [hcl] at g3
      have hkeep := HD.out.keep (by have := HZL.out; omega) (by rw [HZJ.out]; exact HPX.out)
      rw [HZJ.out] at hkeep
      have hmem : ∀ c ∈ cur.set i [.string x.f0, .slice A1 x.f1.length c1], c ∈ rows := fun c hc => by
       rcases List.mem_or_eq_of_mem_set hc with h | h
       ·exact HCR.out c h
       ·rw [h]; exact HCR.out _ (List.mem_of_getElem? HCU.out)
      refine ⟨i + 1, j + 1, _, cA', by go_num, by go_num, ⟨by omega⟩, ⟨Nat.le_refl _⟩, ⟨hkeep⟩, ⟨by have := hij.out; omega⟩, ⟨fun c hc => HK.out c (hmem c hc)⟩, ⟨hmem⟩, ⟨g1⟩, ⟨g2.trans HCS.out⟩, ⟨g3⟩, ⟨fun k hk hkb => ?_⟩, ⟨?_⟩, ⟨?_⟩⟩
      ·show ((w2.setCells b (i * 2) [.string x.f0, .slice A1 x.f1.length c1]).heap[k]?) = _
       exact ((Mem.zbd b _ _ _).2.2.2.2 k hkb).trans ((u1.block k (Nat.lt_of_lt_of_le hk HS.out)).trans (HKK.out k hk hkb))
      ·exact Nat.le_trans (Nat.le_trans HS.out u1.size) (Nat.le_of_eq (Mem.zbd b [.string x.f0, .slice A1 x.f1.length c1] (i * 2) w2).2.2.2.1.symm)
      ·exact Mem.below_setCells (zaw hBo.out hBo.out.size u1) HBB.out (i * 2) [.string x.f0, .slice A1 x.f1.length c1]
   ·obtain rfl : j = xs.length := by have := hjn.out; omega
    have hin := hij.out
    obtain ⟨vs, hvl, hcl⟩ := run_clear_cellsK (P := Tryd.prog) wr 22 56 0 (.agg #[.string ⟨#[]⟩, .slice none 0 0]) 2 Tryd.underlying22 (fun w => by kernel_rfl) rfl (fun v hv => by
      simp [Value.cells] at hv
      rcases hv with rfl | rfl <;> rfl) b (i * 2) (xs.length - i) (c - i) (by omega)
     (fun t ht => by rw [zat hbk.out, Array.getElem?_eq_getElem (by rw [HCS.out]; have := HNC.out; omega)]; rfl) (fun t ht => zag hbk.out _)
    have hlt' : ¬ (xs.length : Int) < (xs.length : Int) := by omega
    have hi0 : (0 : Int) ≤ (i : Int) := by omega
    have hil : (i : Int) ≤ (xs.length : Int) := by omega
    have hiN : i ≤ xs.length := by omega
    have hci : ¬ (c = i) := by have := HNC.out; omega
    have hiC : (i : Int) ≤ (c : Int) := by have := HNC.out; omega
    have hicN : i ≤ c := by have := HNC.out; omega
    have HVL := zab.mk hvl
    clear hvl
    go_wp2
    go_ret
    obtain ⟨hall1, hall2⟩ := (show DInv zae.p (xs.zip rows) cur i (xs.zip rows).length from by rw [HZL.out]; exact HD.out).all
    have hfl : ((xs.zip rows).filter fun q => !zae.p q.1).map (·.1) = xs.filter fun x => !zae.p x := zis xs rows HRL.out
    have hlen : (xs.filter fun x => !zae.p x).length = i := by rw [← hfl, List.length_map, ← hall2]
    have hcl2 : cur.length = xs.length := by rw [HD.out.len, HZL.out]
    obtain ⟨cA', q1, q2, q3⟩ := Mem.zcv b 56 vs (i * 2) wr cA hbk.out (by rw [HVL.out, HCS.out]; have := HNC.out; omega)
    have hoth := (Mem.zbd b vs (i * 2) wr).2.2.2.2
    have hsz := (Mem.zbd b vs (i * 2) wr).2.2.2.1
    have hN := Mem.N_make (d := k56) (e := 56) (base := wo.heap.size) (ok := ok) (w := wr.setCells b (i * 2) vs) (xs := xs.filter fun x => !zae.p x) (rows := cur.take i) (b := b) (cap := c) (cur := cA')
     (by rw [hlen, List.length_take]; omega) (fun c hc => HC2.out c (List.mem_of_mem_take hc)) (fun c hc => H1.out c (HCR.out c (List.mem_of_mem_take hc)))
     (fun t x c hx hc => by
      rw [← hfl] at hx
      rw [hall1] at hc
      rw [List.getElem?_map] at hx hc
      obtain ⟨q, hq, hq1⟩ := Option.map_eq_some_iff.1 hx
      rw [hq] at hc
      have hq2 : q.2 = c := by simpa using hc
      have hqm := (List.mem_filter.1 (List.mem_of_getElem? hq)).1
      obtain ⟨s, hs⟩ := List.getElem?_of_mem hqm
      have hsl := (List.getElem?_eq_some_iff.1 hs).1
      have hs2 := (List.getElem?_eq_some_iff.1 hs).2
      rw [List.getElem_zip] at hs2
      have hsx : xs[s]? = some x := by rw [List.getElem?_eq_getElem (by rw [List.length_zip] at hsl; omega), ← hq1, ← hs2]
      have hsc : rows[s]? = some c := by rw [List.getElem?_eq_getElem (by rw [List.length_zip] at hsl; omega), ← hq2, ← hs2]
      exact Kd.zfr (Kd.zgb (Kd.zgi (HF.out s x c hsx hsc)) (fun k hk hlt => (hoth k (fun e => hk.1.2 (by rw [e]))).trans (HKK.out k hk.2 (fun e => hk.1.2 (by rw [e]))))) (fun k hk => ⟨hk.1.1, fun e => hk.1.2 (by rw [e])⟩))
     HBB.out HOK.out q1 (by rw [hlen]; exact hicN) HC63.out (by rw [q2, HCS.out]; rfl) (by
      rw [hlen, show k56.sz = 2 from rfl, ← Mem.zhx cur i HC2.out, ← HT.out, q3, List.take_take, Nat.min_eq_left (Nat.mul_le_mul_right 2 hiN), List.take_append_of_le_length (by rw [List.length_take, Array.length_toList, HCS.out]; omega), List.take_take, Nat.min_self])
    rw [hlen] at hN
    exact ⟨_, rfl, hN, Mem.below_setCells hBo.out HBB.out _ _, by rw [hsz]; exact HS.out, fun k hk hnp => by
     have hkb : k ≠ b := fun e => hnp (HP.out k (by rw [e]; rfl))
     exact (hoth k hkb).trans (HKK.out k hk hkb)⟩
theorem zae.calls : True := trivial
def zbs.l (k : Nat) : List S56 → List S56 → Option (List S56 × Int)
 | out, [] => (zae.f out).bind fun o => (zbg.f k o).bind fun b => if b = true then some (o, 0) else some ([], 1)
 | out, c :: r => (zaf.f k out c.f0).bind fun t =>
  (if t.2 = true then some out else zfk.f out t.1 [⟨c.f0, []⟩]).bind fun o =>
  if 0 ≤ t.1 ∧ t.1 < o.length then (zgo.f k [(zbb o t.1).f1, c.f1]).bind fun s => if s.2 = 0 then zbs.l k (o.set t.1.toNat ⟨(zbb o t.1).f0, s.1⟩) r else some ([], s.2)
  else none
def zbs.f (k : Nat) (l0 : List S56) (l1 : List S56) : Option (List S56 × Int) :=
 (zbg.f k l0).bind fun a => if a = true then ((zen.f k l1).bind fun b => if b = true then ((zeh.f l0).bind fun o => zbs.l k o l1) else some ([], 1)) else some ([], 1)
theorem zbs.zby : ∀ (r out : List S56) (k : Nat), LeO (zbs.l k out r) (zbs.l (k + 1) out r) := by
 intro r
 induction r with
 | nil => exact fun out k => LeO.bind (LeO.refl _) fun o => LeO.bind (zbg.mono _ _) fun b => LeO.refl _
 | cons c r ih => exact fun out k => LeO.bind (zaf.mono _ _ _) fun t => LeO.bind (LeO.refl _) fun o => LeO.ite (LeO.bind (zgo.mono _ _) fun s => LeO.ite (ih _ _) (LeO.refl _)) (LeO.refl _)
theorem zbs.mono : ∀ a0 a1 k, LeO (zbs.f k a0 a1) (zbs.f (k + 1) a0 a1) := by
 intro a0 a1 k
 exact LeO.bind (zbg.mono _ _) fun a => LeO.ite (LeO.bind (zen.mono _ _) fun b => LeO.ite (LeO.bind (LeO.refl _) fun o => zbs.zby a1 o k) (LeO.refl _)) (LeO.refl _)
theorem zbs.lit2 {α : Type} {d : Kd α} {e t base : Nat} {W : World} {ok : Nat → Prop} {g ca cb : Nat} {a b : List α} {A B : Option Addr} (hg : W.heap[g]? = some (.cells #[.slice A a.length ca, .slice B b.length cb] t (0, 0))) (hok : ok g) (ha : a.length ≤ ca) (hb : b.length ≤ cb) (hFa : Kd.F d W ok A a.length a) (hFb : Kd.F d W ok B b.length b) :
  Kd.V (Kd.slice e d) t W base ok (.slice (some ⟨g, 0, none⟩) [a, b].length 2) [a, b] := by
 refine Kd.V_mk (Nat.le_refl _) (fun W' hW => ?_)
 have hbb := (hW g hok (zca hg)).trans hg
 refine ⟨rfl, (by show (2 : Nat) ≤ _; decide), fun _ => ⟨⟨g, 0, none⟩, rfl, fun j p hj => ?_⟩⟩
 have hc : ∀ q u, (#[Value.slice A a.length ca, .slice B b.length cb] : Array Value)[q]? = some u → W'.cell? ((⟨g, 0, none⟩ : Addr).add q) = some u := fun q u hq => by
  rw [Addr.add_lit, Nat.zero_add, zat hbb q]; exact hq
 match j, hj with
 | 0, hj =>
  simp only [List.getElem?_cons_zero, Option.some.injEq] at hj
  subst hj
  refine ⟨[.slice A a.length ca], rfl, ⟨A, ca, rfl, ha, hFa W' hW⟩, fun q u hq => ?_⟩
  match q, hq with
  | 0, hq => exact hc 0 u (by simpa using hq)
  | q + 1, hq => simp at hq
 | 1, hj =>
  simp only [List.getElem?_cons_succ, List.getElem?_cons_zero, Option.some.injEq] at hj
  subst hj
  refine ⟨[.slice B b.length cb], rfl, ⟨B, cb, rfl, hb, hFb W' hW⟩, fun q u hq => ?_⟩
  match q, hq with
  | 0, hq => exact hc 1 u (by simpa using hq)
  | q + 1, hq => simp at hq
 | j + 2, hj => simp at hj
theorem zbs.calls (k : Nat) (P0_ : Nat → Prop) (A0 : Option Addr) (c0 : Nat) (l0 : List S56) (P1_ : Nat → Prop) (A1 : Option Addr) (c1 : Nat) (l1 : List S56) (r1 : List S56) (r2 : Int) (w : World) (hs0 : Kd.V k56 56 w w.heap.size (fun k_ => P0_ k_) (.slice A0 l0.length c0) l0) (hs1 : Kd.V k56 56 w w.heap.size (fun k_ => P1_ k_) (.slice A1 l1.length c1) l1) (h : zbs.f k l0 l1 = some (r1, r2)) (hG : Glob w) :
  Calls Tryd.prog 10 #[.slice A0 l0.length c0, .slice A1 l1.length c1] w fun e w' => ∃ v0_, e = .returned (.tuple #[v0_, .int .i64 r2]) ∧ Kd.N k56 56 w' w.heap.size (fun k_ => ((P0_ k_ ∨ P1_ k_) ∨ w.heap.size ≤ k_)) v0_ r1 ∧ Below w.heap.size w w' := by
 unfold zbs.f at h; obtain ⟨a, ha, h⟩ := Option.bind_eq_some_iff.1 h; have HST := zab.mk (zbg.calls k A0 c0 l0 a w (Kd.zbx hs0).2.2 (Kd.zbx hs0).2.1 ha hG); have hf1 : ∀ W, Below w.heap.size w W → Kd.F k56 W (fun k => P1_ k ∧ k < w.heap.size) A1 l1.length l1 := fun W hb => Kd.zdn (Kd.zeg (Kd.V_F hs1)) hb; have HF1 := zab.mk hf1; have HC1 := zab.mk (Kd.zbx hs1).2.1; have HS0 := zab.mk hs0; have HG := zab.mk hG; clear ha hf1 hs0 hs1 hG
 cases a with
 | false =>
  simp only [if_neg (show ¬ (false = true) by decide)] at h; injection h with h; injection h with h1 h2; subst h1; subst h2
  go_enter Tryd.func10, Tryd.ntmps10; go_wp2_with (go_at_call 22; refine HST.out.mono ?_; rintro e w1 ⟨rfl, hb⟩; have HB := zab.mk hb; clear hb); go_ret2; exact ⟨_, rfl, Kd.zij _ _ _ _ _, HB.out⟩
 | true =>
  rw [if_pos rfl] at h; obtain ⟨b, hb, h⟩ := Option.bind_eq_some_iff.1 h; have HIT := zab.mk (fun (W : World) (hw : Below w.heap.size w W) => zen.calls k A1 c1 l1 b W (Kd.F_now (HF1.out W hw)) HC1.out hb (HG.out.below hw)); clear hb
  cases b with
  | false =>
   simp only [if_neg (show ¬ (false = true) by decide)] at h; injection h with h; injection h with h1 h2; subst h1; subst h2
   go_enter Tryd.func10, Tryd.ntmps10
   go_wp2_with (first
    | (go_at_call 22; refine HST.out.mono ?_; rintro e w1 ⟨rfl, hb⟩; have HB := zab.mk hb; clear hb)
    | (go_at_call 23; refine (HIT.out _ HB.out).mono ?_; rintro e w2 ⟨rfl, hb⟩; have HB2 := zab.mk (zaw HB.out HB.out.size hb); clear hb))
   go_ret2; exact ⟨_, rfl, Kd.zij _ _ _ _ _, HB2.out⟩
  | true =>
   rw [if_pos rfl] at h; obtain ⟨o, ho, h⟩ := Option.bind_eq_some_iff.1 h; have H := zab.mk h; have HCL := zab.mk (fun (W : World) (hw : Below w.heap.size w W) => zeh.calls P0_ A0 c0 l0 o W (Kd.zgc HS0.out hw) ho); have hlm : l1.length ≤ 9223372036854775807 := Kd.F_max (HF1.out w (Below.refl _ _)); clear h ho; go_enter Tryd.func10, Tryd.ntmps10
   go_wp2_with (first
    | (go_at_call 22; refine HST.out.mono ?_; rintro e w1 ⟨rfl, hb⟩; have HB := zab.mk hb; clear hb)
    | (go_at_call 23; refine (HIT.out _ HB.out).mono ?_; rintro e w2 ⟨rfl, hb⟩; have HB2 := zab.mk (zaw HB.out HB.out.size hb); clear hb)
    | (go_at_call 24; refine (HCL.out _ HB2.out).mono ?_; rintro e w3 ⟨v3, rfl, hN, hb⟩; have HN := zab.mk (Kd.zhi (Kd.zci (ok' := fun k_ => ((P0_ k_ ∨ P1_ k_) ∨ w.heap.size ≤ k_)) hN (fun k_ hk => hk.elim (fun h => .inl (.inl h)) (fun h => .inr (Nat.le_trans HB2.out.size h)))) HB2.out.size); have HB3 := zab.mk (zaw HB2.out HB2.out.size hb); clear hb hN))
   go_loopg [6, 25] l1.length (fun gg s6 s25 wr => ∃ (i : Nat) (out : List S56) (Au : Option Addr) (cu : Nat), s6 = .slice Au out.length cu ∧ s25 = .int .i64 i ∧ zab (i ≤ l1.length) ∧ zab (l1.length - i ≤ gg) ∧ zab (zbs.l k out (l1.drop i) = some (r1, r2)) ∧ zab (Kd.N k56 56 wr w.heap.size (fun k_ => ((P0_ k_ ∨ P1_ k_) ∨ w.heap.size ≤ k_)) s6 out) ∧ zab (Below w.heap.size w wr))
   case atStart =>
    obtain ⟨Au, cu, rfl⟩ := Kd.zcy HN.out; exact ⟨0, o, Au, cu, rfl, rfl, ⟨Nat.zero_le _⟩, ⟨Nat.le_refl _⟩, H, HN, HB3⟩
   case round =>
    clear HN HB HB2 HB3 H HST HIT HCL HS0; obtain ⟨i, out, Au, cu, rfl, rfl, hi, hgg, HA, HN, HB⟩ := hrel
    by_cases hlt : i < l1.length
    ·obtain ⟨x, hx⟩ : ∃ x, l1[i]? = some x := ⟨_, List.getElem?_eq_getElem hlt⟩
     have hdrop : l1.drop i = x :: l1.drop (i + 1) := by
      rw [List.drop_eq_getElem_cons hlt, (List.getElem?_eq_some_iff.1 hx).2]
     have hA := HA.out; rw [hdrop] at hA; simp only [zbs.l] at hA; obtain ⟨⟨t1, t2⟩, hbs, hA⟩ := Option.bind_eq_some_iff.1 hA; obtain ⟨o, ho, hA⟩ := Option.bind_eq_some_iff.1 hA; simp only [] at ho hA
     by_cases hin : 0 ≤ t1 ∧ t1 < (o.length : Int)
     case neg => rw [if_neg hin] at hA; cases hA
     rw [if_pos hin] at hA; obtain ⟨⟨s1, s2⟩, hsum, hA⟩ := Option.bind_eq_some_iff.1 hA; simp only [] at hA; obtain ⟨p, rfl⟩ : ∃ p : Nat, t1 = (p : Int) := ⟨t1.toNat, by omega⟩; have hpo : p < o.length := by omega
     obtain ⟨ad, cx, hA1, _, hFK, hcc, _⟩ := Kd.F_get (HF1.out wr HB.out) z56 (i : Int) (by omega) (by omega); subst hA1; rw [show l1.getD ((i : Int)).toNat z56 = x by simp [List.getD, hx]] at hFK; obtain ⟨Ax, cx1, hce, hlx, hFx⟩ := k56_openF hFK; subst hce; have hc0 : wr.cell? (ad.add (i * 2)) = some (.string x.f0) := hcc 0 _ rfl
     have hc1 : wr.cell? ⟨(ad.add (i * 2)).block, (ad.add (i * 2)).off + 1, none⟩ = some (.slice Ax x.f1.length cx1) := by
      rw [← zcl ad (i * 2) 1 (by decide)]; exact hcc 1 _ rfl
     have HFX := zab.mk (fun (W : World) (hW : Below w.heap.size w W) => Kd.zin hFx (W1 := W) (fun k hk _ => (hW.block k hk.2).trans (HB.out.block k hk.2).symm)); have hilt : (i : Int) < (l1.length : Int) := by omega
     have hi0 : (0 : Int) ≤ (i : Int) := by omega
     have hwi : wrap64 ((i : Int) + 1) = ((i + 1 : Nat) : Int) := by unfold wrap64; omega
     have HBS := zab.mk (fun (W : World) (hC : Kd.C k56 W Au out.length out) => zaf.calls k Au cu out x.f0 (p : Int) t2 W hC (Kd.zdg HN.out).2.1 hbs); have HLX := zab.mk hlx; have HSM := zab.mk hsum; have HA2 := zab.mk hA; have HPO := zab.mk hpo; have HO := zab.mk ho; obtain ⟨g, hg⟩ : ∃ g, g = wr.heap.size := ⟨_, rfl⟩; have HGE := zab.mk hg; have HGB := zab.mk (show w.heap.size ≤ g by rw [hg]; exact HB.out.size); clear hbs hsum hA ho hx hdrop hin hFK hcc hFx hlx hpo HA hg
     have hup : ∀ w2 : World, Below (wr.alloc (.cells #[.string x.f0, .slice Ax x.f1.length cx1] 56)).heap.size (wr.alloc (.cells #[.string x.f0, .slice Ax x.f1.length cx1] 56)) w2 → Below wr.heap.size wr w2 ∧ w2.heap[wr.heap.size]? = some (.cells #[.string x.f0, .slice Ax x.f1.length cx1] 56 (0, 0)) := fun w2 h2 =>
      ⟨zaw (zas (Below.refl _ _) _) (zas (Below.refl wr.heap.size wr) (.cells #[.string x.f0, .slice Ax x.f1.length cx1] 56)).size h2, (h2.block _ q51_).trans (Mem.zck wr #[.string x.f0, .slice Ax x.f1.length cx1] 56)⟩
     have HUP := zab.mk hup; clear hup; have HOWN := zab.mk (Kd.N_lt HN.out); cases t2
     case' false =>
      have ho := HO.out; rw [if_neg (by decide)] at ho; unfold zfk.f at ho; split at ho
      case isFalse => cases ho
      rename_i hcond; injection ho with ho
      have HOE := zab.mk ho; have HPL := zab.mk (show p ≤ out.length by have := hcond.2.1; omega); have HOL := zab.mk hcond.2.2.2; clear ho hcond
      go_wp2_with (first
       | (go_at_call 25; refine (HBS.out _ (Kd.F_now (Kd.zhu (Kd.N_F HN.out) _))).mono ?_; rintro e w4 ⟨rfl, hb⟩; have HU := zab.mk (HUP.out _ hb); have HN4 := zab.mk (Kd.zdq HN.out HU.out.1); have HB4 := zab.mk (zaw HB.out HB.out.size HU.out.1); have HX4 := zab.mk HU.out.2; (have hx0 : w4.cell? ⟨wr.heap.size, 0, none⟩ = some (.string x.f0) := (zat HU.out.2 0).trans rfl); clear hb HU HN HB)
       | (go_at_call 28; refine (Mem.insC_N (d := k56) rfl w _ (fun k_ => ((P0_ k_ ∨ P1_ k_) ∨ w.heap.size ≤ k_)) (fun _ => False) (.slice Au out.length cu) w4.heap.size 1 #[.string x.f0, .slice none 0 0] out ⟨x.f0, []⟩ p (fun k => some k = (Value.slice Au out.length cu).ownBlock) (zaw HB4.out HB4.out.size (zas (Below.refl _ _) _)) (Kd.zcj HN4.out _) (fun k hk => hk) (Mem.zck _ _ _) (Nat.le_refl 1) HB4.out.size (fun e => Nat.lt_irrefl _ (Kd.N_lt HN4.out _ e.symm)) rfl (k56_mkF _ _ ⟨x.f0, []⟩ (A1 := none) (c1 := 0) (Nat.le_refl 0) (Kd.F_nil _ _ _)) (fun k h => h.elim) HPL.out HOL.out).mono ?_; rintro e w5 ⟨v5, rfl, hN5, hb5, hk5⟩; (rw [show out.take p ++ ([⟨x.f0, []⟩] ++ out.drop p) = o from HOE.out] at hN5); have HN5 := zab.mk (Kd.zci (ok' := fun k_ => ((P0_ k_ ∨ P1_ k_) ∨ w.heap.size ≤ k_)) hN5 (fun k hk => hk.elim (fun h => h.elim id (fun h => h.elim)) (fun h => .inr h))); have HB5 := zab.mk hb5; have HBX := zab.mk (((hk5.2 wr.heap.size (by rw [Mem.zdi]; exact Nat.lt_succ_of_lt (zca HX4.out)) (fun e => Nat.lt_irrefl _ (HOWN.out _ e.symm))).trans (Mem.zfs w4 _ _ (zca HX4.out))).trans HX4.out); clear hN5 hb5 hk5 HN4 HB4 HX4; obtain ⟨Au, cu, rfl⟩ := Kd.zcy HN5.out))
      clear HPL HOL HOE
     case' true =>
      obtain rfl : o = out := by have := HO.out; rw [if_pos rfl] at this; injection this with this; exact this.symm
      go_wp2_with (go_at_call 25; refine (HBS.out _ (Kd.F_now (Kd.zhu (Kd.N_F HN.out) _))).mono ?_; rintro e w5 ⟨rfl, hb⟩; have HU := zab.mk (HUP.out _ hb); have HN5 := zab.mk (Kd.zdq HN.out HU.out.1); have HB5 := zab.mk (zaw HB.out HB.out.size HU.out.1); have HBX := zab.mk HU.out.2; clear hb HU HN HB)
     all_goals
      have hpol := HPO.out; obtain ⟨gb, cap, hv, hgb1, hgb2, _⟩ := Kd.N_form HN5.out (by omega); injection hv with hvA _ hvc
      subst hvA; subst hvc; obtain ⟨cy, _, hFKy, hcy, hfzy⟩ := Kd.N_elem HN5.out z56 (p : Int) (by omega) (by omega); obtain ⟨y, hyd⟩ : ∃ y, y = zbb o (p : Int) := ⟨_, rfl⟩; have HYD := zab.mk hyd; rw [show o.getD ((p : Int)).toNat z56 = y from hyd.symm] at hFKy; obtain ⟨Ay, cy1, hce, hly, hFy⟩ := k56_openF hFKy; subst hce; have hy0 : w5.cell? ⟨gb, p * 2, none⟩ = some (.string y.f0) := hcy 0 _ rfl; have hy1 : w5.cell? ⟨gb, p * 2 + 1, none⟩ = some (.slice Ay y.f1.length cy1) := hcy 1 _ rfl; have hb1 : w5.cell? ⟨wr.heap.size, 1, none⟩ = some (.slice Ax x.f1.length cx1) := (zat HBX.out 1).trans rfl; have HFY := zab.mk hFy; have HLY := zab.mk hly; have HGB1 := zab.mk hgb1; have HGB2 := zab.mk hgb2; have HFZ := zab.mk hfzy; have HCY := zab.mk hcy; have hplt : (p : Int) < (o.length : Int) := by omega
      have hp0 : (0 : Int) ≤ (p : Int) := by omega
      clear hyd hFKy hFy hly hgb1 hgb2 hfzy hcy hc0 hc1
      have hsumC : ∀ (W : World) (gn : Nat), Below w5.heap.size w5 W → W.heap[gn]? = some (.cells #[.slice Ay y.f1.length cy1, .slice Ax x.f1.length cx1] 54 (0, 0)) → w5.heap.size ≤ gn → Calls Tryd.prog 29 #[.slice (some ⟨gn, 0, none⟩) 2 2] W fun e w' => ∃ v6, e = .returned (.tuple #[v6, .int .i64 s2]) ∧ Kd.N k81 81 w' w5.heap.size (fun k_ => ((P0_ k_ ∨ P1_ k_) ∨ w.heap.size ≤ k_) ∧ k_ ≠ gb) v6 s1 ∧ Below w5.heap.size w5 w' := by
       intro W gn hW hgn hge; have hBw := HB5.out.size; have hg1 := HGB1.out; have hg2 := HGB2.out; have hF1 : Kd.F k81 W (fun k_ => ((P0_ k_ ∨ P1_ k_) ∨ w.heap.size ≤ k_) ∧ k_ ≠ gb) Ay y.f1.length y.f1 := Kd.zdn HFY.out hW; have hF2 : Kd.F k81 W (fun k_ => ((P0_ k_ ∨ P1_ k_) ∨ w.heap.size ≤ k_) ∧ k_ ≠ gb) Ax x.f1.length x.f1 := Kd.zey (HFX.out W (zaw HB5.out hBw hW)) (fun k hk => ⟨.inl (.inr hk.1), fun e => by have := hk.2; omega⟩); have hS := HSM.out; rw [show zbb o (p : Int) = y from HYD.out.symm] at hS; refine (zgo.calls k (fun k_ => ((P0_ k_ ∨ P1_ k_) ∨ w.heap.size ≤ k_) ∧ k_ ≠ gb) (some ⟨gn, 0, none⟩) 2 [y.f1, x.f1] s1 s2 W (zbs.lit2 hgn ⟨.inr (by omega), by omega⟩ HLY.out HLX.out hF1 hF2) hS (HG.out.below (zaw HB5.out hBw hW))).mono ?_; rintro e w' ⟨v, rfl, hN, hb⟩; exact ⟨v, rfl, Kd.zhi (Kd.zci hN (fun k hk => hk.elim id (fun h => ⟨.inr (Nat.le_trans hBw (Nat.le_trans hW.size h)), fun e => by have := hW.size; omega⟩))) hW.size, zaw hW hW.size hb⟩
      have HSC := zab.mk hsumC; clear hsumC; have hltg := zca HBX.out
      go_region_held3 (fun w' => w'.cell? ⟨gb, p * 2 + 1, none⟩ = some (.slice Ay y.f1.length cy1) ∧ w'.cell? ⟨wr.heap.size, 1, none⟩ = some (.slice Ax x.f1.length cx1))
       (first | go_keep | exact ⟨(hb6.cell (p := ⟨gb, p * 2 + 1, none⟩) HGB2.out).trans hy1, (hb6.cell (p := ⟨wr.heap.size, 1, none⟩) hltg).trans hb1⟩)
       (first | (go_at_call 29; refine (HSC.out _ _ (zbz (zas (Below.refl _ _) _)) (Mem.zck _ _ _) (Nat.le_refl _)).mono ?_; rintro e w6 ⟨v6, rfl, hN6, hb6⟩))
      obtain ⟨A6, c6, rfl⟩ := Kd.zcy hN6; have hz1 : w6.cell? ⟨gb, p * 2 + 1, none⟩ = some (.slice Ay y.f1.length cy1) := (hb6.cell (p := ⟨gb, p * 2 + 1, none⟩) HGB2.out).trans hy1; have hzf : w6.frozen? ⟨gb, p * 2 + 1, none⟩ = false := (hb6.frozen (p := ⟨gb, p * 2 + 1, none⟩) HGB2.out).trans (HFZ.out 1); have HN6 := zab.mk hN6; have HB6 := zab.mk hb6; have HY0 := zab.mk hy0; clear hN6 hb6 hy0 hy1 hb1; have hA := HA2.out; rw [show zbb o (p : Int) = y from HYD.out.symm] at hA
      by_cases hs : s2 = 0
      ·subst hs; rw [if_pos rfl] at hA; have HA3 := zab.mk hA; clear hA HA2 HSM; go_wp2; go_roundg (l1.length - (i + 1))
       case measure => have := hgg.out; omega
       case rel =>
        have hN := (Kd.N_seg (Kd.zdq HN5.out HB6.out) (p : Int) hp0 hplt (c := [.string y.f0, .slice Ay y.f1.length cy1]) (seg := [.slice A6 s1.length c6]) (j := 1) (x' := ⟨y.f0, s1⟩) (okp := fun k_ => ((P0_ k_ ∨ P1_ k_) ∨ w.heap.size ≤ k_) ∧ k_ ≠ gb) rfl (fun j u hu => (HB6.out.cell (p := ⟨gb, _, none⟩) HGB2.out).trans (HCY.out j u hu)) (Nat.le_refl 2) (k56_mkF w6 _ ⟨y.f0, s1⟩ (A1 := A6) (c1 := c6) (Kd.zdg HN6.out).2.1 (Kd.N_F HN6.out)) (fun k hk => hk)).1; refine ⟨i + 1, o.set p ⟨y.f0, s1⟩, some ⟨gb, 0, none⟩, cu, by rw [List.length_set], by go_num, ⟨by omega⟩, ⟨Nat.le_refl _⟩, HA3, ⟨hN⟩, ⟨Mem.below_setCells (zaw HB5.out HB5.out.size HB6.out) HGB1.out (p * 2 + 1) [.slice A6 s1.length c6]⟩⟩
      ·rw [if_neg hs] at hA; injection hA with hA; injection hA with hr1 hr2; subst hr1; subst hr2
       have hsb : (s2 != 0) = true := by simpa using hs
       clear HA2 HSM; go_wp2; go_ret2; exact ⟨_, rfl, Kd.zij _ _ _ _ _, zaw HB5.out HB5.out.size HB6.out⟩
    ·obtain rfl : i = l1.length := by have := hi.out; omega
     have hA := HA.out; rw [List.drop_length] at hA; simp only [zbs.l] at hA; obtain ⟨o2, hd, hA⟩ := Option.bind_eq_some_iff.1 hA; obtain ⟨b, hb, hA⟩ := Option.bind_eq_some_iff.1 hA; unfold zae.f at hd; split at hd
     case isFalse => cases hd
     rename_i hol; injection hd with hd
     have HDEL := zab.mk (zae.N w wr _ (.slice Au out.length cu) out (fun k => w.heap.size ≤ k) HB.out HN.out (fun k hk => Kd.zel HN.out k hk.symm) hol); have HOD := zab.mk (show (out.filter fun c => !zae.p c) = o2 from hd); have HST2 := zab.mk (fun (W : World) (hw : Below w.heap.size w W) (A : Option Addr) (c : Nat) (hC : Kd.C k56 W A o2.length o2) (hc : o2.length ≤ c) => zbg.calls k A c o2 b W hC hc hb (HG.out.below hw)); have HR := zab.mk hA; have hnl : ¬ (l1.length : Int) < (l1.length : Int) := by omega
     clear hd hb hA HA HN HB hgg hi
     cases b with
     | true =>
      have hR := HR.out; rw [if_pos rfl] at hR; injection hR with hR; injection hR with hr1 hr2; subst hr1; subst hr2
      clear HR
      go_wp2_with (first
       | (go_at_call 30; refine HDEL.out.mono ?_; rintro e w5 ⟨v5, rfl, hN, hb, _⟩; rw [HOD.out] at hN; obtain ⟨A5, c5, rfl⟩ := Kd.zcy hN; have HN5 := zab.mk hN; have HB5 := zab.mk hb; clear hN hb)
       | (go_at_call 22; refine (HST2.out _ HB5.out _ _ (Kd.zdg HN5.out).2.2 (Kd.zdg HN5.out).2.1).mono ?_; rintro e w6 ⟨rfl, hb⟩; have HN6 := zab.mk (Kd.zdq HN5.out hb); have HB6 := zab.mk (zaw HB5.out HB5.out.size hb); clear hb))
      go_ret2; exact ⟨_, rfl, HN6.out, HB6.out⟩
     | false =>
      have hR := HR.out; rw [if_neg (by decide)] at hR; injection hR with hR; injection hR with hr1 hr2; subst hr1; subst hr2
      clear HR
      go_wp2_with (first
       | (go_at_call 30; refine HDEL.out.mono ?_; rintro e w5 ⟨v5, rfl, hN, hb, _⟩; rw [HOD.out] at hN; obtain ⟨A5, c5, rfl⟩ := Kd.zcy hN; have HN5 := zab.mk hN; have HB5 := zab.mk hb; clear hN hb)
       | (go_at_call 22; refine (HST2.out _ HB5.out _ _ (Kd.zdg HN5.out).2.2 (Kd.zdg HN5.out).2.1).mono ?_; rintro e w6 ⟨rfl, hb⟩; have HB6 := zab.mk (zaw HB5.out HB5.out.size hb); clear hb))
      go_ret2; exact ⟨_, rfl, Kd.zij _ _ _ _ _, HB6.out⟩

end Go.Proofs.YtchpbnabbjdfgaaDoor.P
