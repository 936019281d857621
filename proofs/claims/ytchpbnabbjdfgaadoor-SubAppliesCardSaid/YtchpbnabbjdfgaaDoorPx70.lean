-- HALVED
import Derived.Test.YtchpbnabbjdfgaaDoorPx0
import Derived.Test.YtchpbnabbjdfgaaDoorPx23
import Derived.Test.YtchpbnabbjdfgaaDoorPx37
import Derived.Test.YtchpbnabbjdfgaaDoorPx65
namespace Go.Proofs.YtchpbnabbjdfgaaDoor.P
open Go.RowKit Go.Proofs.YtchpbnabbjdfgaaDoorW.PrintWords Go.Proofs.YtchpbnabbjdfgaaDoorW.PrintLast Go.Proofs.YtchpbnabbjdfgaaDoorW.PrintMore
attribute [local go_sem] zdo zfb zes zet zdb zdc zdp zdq   -- for this text's walks alone
set_option linter.unusedVariables false
set_option linter.unusedSimpArgs false
set_option maxHeartbeats 8000000
set_option maxRecDepth 100000
def zca.f (k : Nat) (l0 : List (List (S81)))  : Option (Bool) := (zay.f k l0).bind fun t206 => (some (decide (t206 ≥ 0)))
theorem zca.mono : ∀ a0 k, LeO (zca.f k a0) (zca.f (k + 1) a0) := by
 intro a0 k
 unfold zca.f
 with_reducible repeat' first
   | apply zay.mono
   | apply LeO.refl
   | apply LeO.none
   | refine LeO.ite ?_ ?_
   | refine LeO.bind ?_ (fun _ => ?_)
theorem zca.calls (k : Nat) (A0 : Option Addr) (c0 : Nat) (l0 : List (List (S81)))  (r : Bool) (w : World) (hr0 : Kd.C (Kd.slice 81 k81) w A0 l0.length l0) (hc0 : l0.length ≤ c0) (h : zca.f k l0 = some r) (hG : Glob w) :
  Calls Tryd.prog 47 #[.slice A0 l0.length c0, (.func (.func 48) #[] #[])] w fun e w' => e = .returned (.bool r) ∧ Below w.heap.size w w' := by
 have HG := ak_ hG; clear hG; have HR0 := ak_ hr0; have HC0 := ak_ hc0; clear hr0 hc0; have HB := ak_ (Below.refl w.heap.size w); have H : ((zay.f k l0).bind fun t206 => (some (decide (t206 ≥ 0)))) = some r := h; clear h; obtain ⟨t206, A3, H⟩ := bi_ H; replace H : (some (decide (t206 ≥ 0))) = some r := H; obtain rfl := Option.some.inj H; go_enter Tryd.func47, Tryd.ntmps47; go_wp2_with (first | ((with_reducible refine gc_ 72 rfl ?_); refine gl_ 7 Tryd.func72 #[.slice A0 l0.length c0, (.func (.func 48) #[] #[])] ?_; (with_reducible refine ca_ (zay.calls k _ _ l0  t206 _ ?side1 HC0.out A3.out q6_) ?_); (case side1 => exact cx_ HR0.out); intro w4 hb; replace HB := bs_ hb; clear hb)); go_ret; exact ⟨q4_, q0_⟩
def zhb.f (k : Nat) (l0 : List (List (S81))) : Option ((List (S81)) × Int) := (zca.f k l0).bind fun t207 => (if t207 = true then (some (([] : List (S81)), 1)) else ((zck.f l0).bind fun t208 => ((zbk.f k t208).bind fun bt211 => (some (bt211.1, bt211.2)))))
theorem zhb.mono : ∀ a0 k, LeO (zhb.f k a0) (zhb.f (k + 1) a0) := by
 intro a0 k
 unfold zhb.f
 with_reducible repeat' first
   | apply zca.mono
   | apply zbk.mono
   | apply LeO.refl
   | apply LeO.none
   | refine LeO.ite ?_ ?_
   | refine LeO.bind ?_ (fun _ => ?_)
theorem zhb.calls (k : Nat) (P0_ : Nat → Prop) (A0 : Option Addr) (c0 : Nat) (l0 : List (List (S81))) (r1 : List (S81)) (r2 : Int) (w : World) (hs0 : Kd.V (Kd.slice 81 k81) 54 w w.heap.size (fun k_ => P0_ k_) (.slice A0 l0.length c0) l0) (h : zhb.f k l0 = some (r1, r2)) (hG : Glob w) :
  Calls Tryd.prog 29 #[.slice A0 l0.length c0] w fun e w' => ∃ v0_ : Value, e = .returned (.tuple #[v0_, .int .i64 r2]) ∧ Kd.N k81 81 w' w.heap.size (fun k_ => (P0_ k_ ∨ w.heap.size ≤ k_)) v0_ r1 ∧ Below w.heap.size w w' := by
 have HG := ak_ hG; clear hG; have HO0 := ak_ (show Kd.V (Kd.slice 81 k81) 54 w w.heap.size (fun k_ => (P0_ k_ ∨ w.heap.size ≤ k_)) (.slice A0 l0.length c0) l0 from Kd.zds hs0 (fun k_ hk => .inl hk)); have HB := ak_ (Below.refl w.heap.size w); have H : ((zca.f k l0).bind fun t207 => (if t207 = true then (some (([] : List (S81)), 1)) else ((zck.f l0).bind fun t208 => ((zbk.f k t208).bind fun bt211 => (some (bt211.1, bt211.2)))))) = some (r1, r2) := h; clear h; obtain ⟨t207, A2, H⟩ := bi_ H; try dsimp only at H
 by_cases c3 : t207 = true
 ·subst c3; replace H := ifT_ H; simp only [Option.some.injEq, Prod.mk.injEq] at H; obtain ⟨rfl, rfl⟩ := H; go_enter Tryd.func29, Tryd.ntmps29; go_wp2_with (first | ((with_reducible refine gc_ 47 rfl ?_); refine gl_ 5 Tryd.func47 #[.slice A0 l0.length c0, (.func (.func 48) #[] #[])] ?_; (with_reducible refine ca_ (zca.calls k _ _ l0  true _ ?side1 ?side2 A2.out q6_) ?_); (case side1 => exact cx_ ((Kd.zbs HO0.out).2.2)); (case side2 => exact (Kd.zbs HO0.out).2.1); intro w4 hb; replace HO0 := Vb_ q20_ hb; replace HB := bs_ hb; clear hb)); go_ret2; exact ⟨_, q4_, q16_, q0_⟩
 ·replace c3 := Bool.eq_false_iff.mpr c3; subst c3; replace H := ifF_ H; obtain ⟨t208, A5, H⟩ := bi_ H; replace H : ((zbk.f k t208).bind fun bt211 => (some (bt211.1, bt211.2))) = some (r1, r2) := H; obtain ⟨⟨t211, t214⟩, A6, H⟩ := bi_ H; replace H : (some (t211, t214)) = some (r1, r2) := H; simp only [Option.some.injEq, Prod.mk.injEq] at H; obtain ⟨rfl, rfl⟩ := H; go_enter Tryd.func29, Tryd.ntmps29; go_wp2_with (first | ((with_reducible refine gc_ 47 rfl ?_); refine gl_ 5 Tryd.func47 #[.slice A0 l0.length c0, (.func (.func 48) #[] #[])] ?_; (with_reducible refine ca_ (zca.calls k _ _ l0  false _ ?side1 ?side2 A2.out q6_) ?_); (case side1 => exact cx_ ((Kd.zbs HO0.out).2.2)); (case side2 => exact (Kd.zbs HO0.out).2.1); intro w7 hb; replace HO0 := Vb_ q20_ hb; replace HB := bs_ hb; clear hb) | ((with_reducible refine gc_ 51 rfl ?_); refine gl_ 7 Tryd.func51 #[.slice A0 l0.length c0] ?_; (with_reducible refine (zck.calls (fun k_ => (P0_ k_ ∨ w.heap.size ≤ k_)) _ _ l0 t208 _ ?side1 A5.out).mono ?_); (case side1 => exact HO0.out); rintro e w8 ⟨v209, rfl, ho0, hb⟩; refine ⟨_, rfl, ?_⟩; have HO210 := ak_ (Kd.zij (Kd.zdm (ok' := fun k_ => (P0_ k_ ∨ w.heap.size ≤ k_)) ho0 (fun k_ hk_ => Or.elim hk_ (fun hs_ => hs_) (fun hn_ => (.inr (Nat.le_trans (zcf q0_) hn_))))) (zcf q0_)); replace HO0 := ak_ (Kd.V_elder' q20_ (Kd.zha ho0) hb); replace HB := bs_ hb; clear hb; (try clear ho0); obtain ⟨Ao9, co9, eo9⟩ := Kd.zdj HO210.out; subst eo9) | ((with_reducible refine gc_ 50 rfl ?_); refine gl_ 8 Tryd.func50 #[.slice Ao9 t208.length co9] ?_; (with_reducible refine (zbk.calls k (fun k_ => (P0_ k_ ∨ w.heap.size ≤ k_)) _ _ t208 t211 t214 _ ?side1 A6.out q6_).mono ?_); (case side1 => exact Kd.N_V (HO210.out)); rintro e w10 ⟨v212, rfl, ho0, hb⟩; refine ⟨_, rfl, ?_⟩; have HO213 := ak_ (Kd.zij (Kd.zdm (ok' := fun k_ => (P0_ k_ ∨ w.heap.size ≤ k_)) ho0 (fun k_ hk_ => Or.elim hk_ (fun hs_ => hs_) (fun hn_ => (.inr (Nat.le_trans (zcf q0_) hn_))))) (zcf q0_)); replace HO0 := ak_ (Kd.V_elder' q20_ (Kd.zha ho0) hb); replace HO210 := ak_ (Kd.N_elder' (by (with_reducible repeat (first | apply Kd.zdl | apply Kd.zeg | apply Kd.zdg)); exact HO210.out) (Kd.zha ho0) hb); replace HB := bs_ hb; clear hb; (try clear ho0))); go_ret2; exact ⟨_, q4_, by (with_reducible repeat (first | apply Kd.zdl | apply Kd.zeg | apply Kd.zdg)); exact HO213.out, q0_⟩
def strings_Compare.f (a0 : ByteArray) (a1 : ByteArray) : Option Int := some (if Op.bytesLess a0.toList a1.toList = true then -1 else if Op.bytesLess a1.toList a0.toList = true then 1 else 0)
theorem strings_Compare.cmp_ : ∀ a b : List UInt8, Go.Lib.compareBytes a b = if Op.bytesLess a b = true then -1 else if Op.bytesLess b a = true then 1 else 0
 | [], [] => by simp [Go.Lib.compareBytes, Op.bytesLess]
 | [], _ :: _ => by simp [Go.Lib.compareBytes, Op.bytesLess]
 | _ :: _, [] => by simp [Go.Lib.compareBytes, Op.bytesLess]
 | a :: x, b :: y => by
  have ih := strings_Compare.cmp_ x y
  unfold Go.Lib.compareBytes Op.bytesLess
  by_cases h1 : a < b
  ·simp [h1]
  by_cases h2 : b < a
  ·have h3 : ¬ a = b := fun e => UInt8.lt_irrefl _ (e ▸ h2)
   simp [h1, h2, h3]
  ·have h3 : a = b := UInt8.le_antisymm (UInt8.not_lt.1 h2) (UInt8.not_lt.1 h1)
   subst h3
   simp [ih]
set_option maxHeartbeats 1000000 in
theorem strings_Compare.in_ (a b : ByteArray) (w : World) : Calls Tryd.prog 44 #[.string a, .string b] w fun e w' => e = .returned (.int .i64 (Go.Lib.compareBytes a.data.toList b.data.toList)) ∧ w = w' := by
 go_enter Tryd.func44, Tryd.ntmps44
 go_wp2
 rw [run_callFunc_extern Tryd.func70 (by kernel_rfl) (by kernel_rfl) (by kernel_rfl) (e := Extern.BytealgCompare.compare) (by kernel_rfl), Go.Lib.run_compareString]
 simp only [Result.andThen]
 rw [Oper.upon_value]
 go_wp2
 go_ret
 exact ⟨rfl, rfl⟩
set_option maxHeartbeats 1000000 in
theorem strings_Compare.calls (a0 : ByteArray) (a1 : ByteArray) (r : Int) (w : World) (h : strings_Compare.f a0 a1 = some r) :
  Calls Tryd.prog 27 #[.string a0, .string a1] w fun e w' => e = .returned (.int .i64 r) ∧ Below w.heap.size w w' := by
 unfold strings_Compare.f at h; rw [ByteArray.toList_eq, ByteArray.toList_eq, ← strings_Compare.cmp_] at h; obtain rfl := Option.some.inj h; go_enter Tryd.func27, Tryd.ntmps27; go_wp2_with (go_at_call 44; refine (strings_Compare.in_ _ _ _).mono ?_; rintro e w' ⟨rfl, rfl⟩); go_ret; exact ⟨rfl, Below.refl _ _⟩
def zec.f (a0_0 : ByteArray) (l0_1 : List (S81)) (a1 : ByteArray) : Option (Int) := (strings_Compare.f a0_0 a1).bind fun t216 => (some t216)
theorem zec.calls (a0_0 : ByteArray) (A0_1 : Option Addr) (c0_1 : Nat) (l0_1 : List (S81)) (a1 : ByteArray) (r : Int) (w : World) (hr0_1 : Kd.C k81 w A0_1 l0_1.length l0_1) (hc0_1 : l0_1.length ≤ c0_1) (h : zec.f a0_0 l0_1 a1 = some r) :
  Calls Tryd.prog 26 #[.agg #[.string a0_0, .slice A0_1 l0_1.length c0_1], .string a1] w fun e w' => e = .returned (.int .i64 r) ∧ Below w.heap.size w w' := by
 have hu56 := Tryd.underlying56; have HR0_1 := ak_ hr0_1; have HC0_1 := ak_ hc0_1; clear hr0_1 hc0_1; have HB := ak_ (Below.refl w.heap.size w); have H : ((strings_Compare.f a0_0 a1).bind fun t216 => (some t216)) = some r := h; clear h; obtain ⟨t216, A3, H⟩ := bi_ H; replace H : (some t216) = some r := H; obtain rfl := Option.some.inj H; go_enter Tryd.func26, Tryd.ntmps26; go_wp2_with (first | ((with_reducible refine gd_ 2 rfl ?_); refine by_ #[.string a0_0, .slice A0_1 l0_1.length c0_1] 56 ?_; intro gb215 hg w4 BK215 hb; have GE215 := gw_ hg; replace HB := bs_ hb; clear hb hg; have hz5 := bc2_ (w := w4) BK215.out) | ((with_reducible refine gc_ 27 rfl ?_); refine gl_ 8 Tryd.func27 #[.string a0_0, .string a1] ?_; (with_reducible refine ca_ (strings_Compare.calls a0_0 a1 t216 _ A3.out) ?_); intro w6 hb; replace BK215 := ak_ (zdv (g := gb215) (o := .cells #[.string a0_0, .slice A0_1 l0_1.length c0_1] 56 (0, 0)) (by (with_reducible repeat first | apply bN_ | apply bD_ | apply bA_); exact BK215.out) hb); replace HB := bs_ hb; clear hb)); go_ret; exact ⟨q4_, q0_⟩
def zai.l0 : Nat → List (S56) → ByteArray → Int → Int → Int → Option (Int × Bool)
 | 0, _, _, _, _, _ => none
 | k + 1, x0, x1, x8, x9, x10 => if x9 < x10 then (if 0 ≤ (wrap64 ((IntKind.u64.wrap (wrap64 (x9 + x10))) / 2)) then (if (wrap64 ((IntKind.u64.wrap (wrap64 (x9 + x10))) / 2)) < (x0.length : Int) then ((zec.f ((zbg x0 (wrap64 ((IntKind.u64.wrap (wrap64 (x9 + x10))) / 2))).f0) ((zbg x0 (wrap64 ((IntKind.u64.wrap (wrap64 (x9 + x10))) / 2))).f1) x1).bind fun t220 => (if t220 < 0 then (zai.l0 k x0 x1 x8 (wrap64 ((wrap64 ((IntKind.u64.wrap (wrap64 (x9 + x10))) / 2)) + 1)) x10) else (zai.l0 k x0 x1 x8 x9 (wrap64 ((IntKind.u64.wrap (wrap64 (x9 + x10))) / 2))))) else (none)) else (none)) else (if x9 < x8 then (if 0 ≤ x9 then (if x9 < (x0.length : Int) then ((zec.f ((zbg x0 x9).f0) ((zbg x0 x9).f1) x1).bind fun t218 => (some (x9, (t218 == 0)))) else (none)) else (none)) else (some (x9, false)))
def zai.f (k : Nat) (l0 : List (S56)) (a1 : ByteArray)  : Option (Int × Bool) := zai.l0 k l0 a1 (l0.length : Int) 0 (l0.length : Int)
theorem zai.zbt : ∀ k, (∀ y0 y1 y2 y3 y4, LeO (zai.l0 k y0 y1 y2 y3 y4) (zai.l0 (k + 1) y0 y1 y2 y3 y4))
 | 0 => fun _ _ _ _ _ r h => by simp [zai.l0] at h
 | k + 1 => by
  have ih0 := zai.zbt k
  ·intro y0 y1 y2 y3 y4
   unfold zai.l0
   with_reducible repeat' first
   | apply ih0
   | apply LeO.refl
   | apply LeO.none
   | refine LeO.ite ?_ ?_
   | refine LeO.bind ?_ (fun _ => ?_)
theorem zai.mono : ∀ a0 a1 k, LeO (zai.f k a0 a1) (zai.f (k + 1) a0 a1) := by
 intro a0 a1 k
 have ih0 := zai.zbt k
 unfold zai.f
 with_reducible repeat' first
   | apply ih0
   | apply LeO.refl
   | apply LeO.none
   | refine LeO.ite ?_ ?_
   | refine LeO.bind ?_ (fun _ => ?_)
theorem zai.calls (k : Nat) (A0 : Option Addr) (c0 : Nat) (l0 : List (S56)) (a1 : ByteArray)  (r1 : Int) (r2 : Bool) (w : World) (hr0 : Kd.C k56 w A0 l0.length l0) (hc0 : l0.length ≤ c0) (h : zai.f k l0 a1 = some (r1, r2)) :
  Calls Tryd.prog 25 #[.slice A0 l0.length c0, .string a1, (.func (.func 26) #[] #[])] w fun e w' => e = .returned (.tuple #[.int .i64 r1, .bool r2]) ∧ Below w.heap.size w w' := by
 have hu56 := Tryd.underlying56; have HR0 := ak_ hr0; have HC0 := ak_ hc0; clear hr0 hc0; have HB := ak_ (Below.refl w.heap.size w); have H : (zai.l0 k l0 a1 (l0.length : Int) 0 (l0.length : Int)) = some (r1, r2) := h; clear h; have H' := ak_ H; clear H; go_enter Tryd.func25, Tryd.ntmps25; go_wp2; go_loopg [9, 10] k (fun kq v9 v10 w' => ∃ (x9_1 : Int) (x10_1 : Int), v9 = .int .i64 x9_1 ∧ v10 = .int .i64 x10_1 ∧ zad (zai.l0 kq l0 a1 (l0.length : Int) x9_1 x10_1 = some (r1, r2)) ∧ zad (kq ≤ k) ∧ zad (Below w.heap.size w w'))
 case atStart => exact ⟨(0), ((l0.length : Int)), q5_, q5_, H', ⟨Nat.le_refl _⟩, ⟨q0_⟩⟩
 case round =>
  clear H'; obtain ⟨x9_1, x10_1, rfl, rfl, HA, HK1, HB⟩ := hrel
  cases gk with
  | zero => exact absurd HA.out (by simp [zai.l0])
  | succ k1 =>
   have H := HA.out; clear HA; simp only [zai.l0] at H
   by_cases c4 : x9_1 < x10_1
   ·rw [if_pos c4] at H; have c4b0 := decide_eq_true c4; clear c4; obtain ⟨ji5, hji5⟩ : ∃ j_ : Int, (wrap64 ((IntKind.u64.wrap (wrap64 (x9_1 + x10_1))) / 2)) = j_ := ⟨_, rfl⟩; replace H : (if 0 ≤ (ji5) then (if (ji5) < (l0.length : Int) then ((zec.f ((zbg l0 (ji5)).f0) ((zbg l0 (ji5)).f1) a1).bind fun t220 => (if t220 < 0 then (zai.l0 k1 l0 a1 (l0.length : Int) (wrap64 ((ji5) + 1)) x10_1) else (zai.l0 k1 l0 a1 (l0.length : Int) x9_1 ji5))) else (none)) else (none)) = some (r1, r2) := by first | (rw [hji5] at H; exact H) | (simp only [hji5] at H ⊢; exact H)
    have hji5w : (IntKind.i64.wrap ((IntKind.u64.wrap (wrap64 (x9_1 + x10_1))) / 2)) = ji5 := (zfu _).trans hji5
    by_cases c6 : 0 ≤ (ji5)
    ·rw [if_pos c6] at H; have c6b0 := decide_eq_true c6; clear c6
     by_cases c7 : (ji5) < (l0.length : Int)
     ·rw [if_pos c7] at H; have c7b0 := decide_eq_true c7; clear c7; obtain ⟨t220, A8, H⟩ := bi_ H; try dsimp only at H
      have p219 : 0 ≤ ((ji5) : Int) := of_decide_eq_true q3_; have q219 : (ji5) < (l0.length : Int) := of_decide_eq_true q3_; obtain ⟨ad219, A219_1, c219_1, e219, hx219_0, hx219_1, hl219_1, hi219_1⟩ := zfa HR0.out (ji5) p219 q219; cases e219; replace hx219_0 := hc_ HB.out hx219_0; replace hx219_1 := hc_ HB.out hx219_1; have HR219_1 := ak_ hi219_1; have HC219_1 := ak_ hl219_1; clear hi219_1 hl219_1; replace p219 := eq_true p219; replace q219 := eq_true q219
      by_cases c9 : t220 < 0
      ·rw [if_pos c9] at H; have c9b0 := decide_eq_true c9; clear c9; have H' := ak_ H; clear H; go_wp2_with (first | ((with_reducible refine zcr (t := 24) rfl ?_); refine zfz (some 30) rfl rfl Tryd.func26 (by kernel_rfl) rfl #[.agg #[.string ((zbg l0 (ji5)).f0), .slice A219_1 ((zbg l0 (ji5)).f1).length c219_1], .string a1] rfl (by rfl) (by (try simp only [List.map_toArray, List.map_cons, List.map_nil]); first | done | (simp only [hji5]; rfl) | rfl | (simp only [List.length_drop, List.length_take]; rfl)) ?_; (with_reducible refine ca_ (zec.calls ((zbg l0 (ji5)).f0) _ _ ((zbg l0 (ji5)).f1) a1 t220 _ ?side1 HC219_1.out A8.out) ?_); (case side1 => exact cx_ (Kd.zch HR219_1.out HB.out)); intro w10 hb; replace HB := bs_ hb; clear hb)); go_roundg k1
       case measure => have := HK1.out; omega
       case rel => exact ⟨(wrap64 ((ji5) + 1)), (x10_1), (by first | rfl | (simp; done) | (simp only [← hji5] <;> (first | rfl | simp)) | (simp [*]; done)), q5_, H', ⟨kq_⟩, ⟨q0_⟩⟩
      ·rw [if_neg c9] at H; have c9b0 := decide_eq_false c9; clear c9; have H' := ak_ H; clear H; go_wp2_with (first | ((with_reducible refine zcr (t := 24) rfl ?_); refine zfz (some 30) rfl rfl Tryd.func26 (by kernel_rfl) rfl #[.agg #[.string ((zbg l0 (ji5)).f0), .slice A219_1 ((zbg l0 (ji5)).f1).length c219_1], .string a1] rfl (by rfl) (by (try simp only [List.map_toArray, List.map_cons, List.map_nil]); first | done | (simp only [hji5]; rfl) | rfl | (simp only [List.length_drop, List.length_take]; rfl)) ?_; (with_reducible refine ca_ (zec.calls ((zbg l0 (ji5)).f0) _ _ ((zbg l0 (ji5)).f1) a1 t220 _ ?side1 HC219_1.out A8.out) ?_); (case side1 => exact cx_ (Kd.zch HR219_1.out HB.out)); intro w11 hb; replace HB := bs_ hb; clear hb)); go_roundg k1
       case measure => have := HK1.out; omega
       case rel => exact ⟨(x9_1), (ji5), q5_, (by first | rfl | (simp; done) | (simp only [← hji5] <;> (first | rfl | simp)) | (simp [*]; done)), H', ⟨kq_⟩, ⟨q0_⟩⟩
     ·rw [if_neg c7] at H; exact absurd H (by simp)
    ·rw [if_neg c6] at H; exact absurd H (by simp)
   ·rw [if_neg c4] at H; have c4b0 := decide_eq_false c4; clear c4
    by_cases c12 : x9_1 < (l0.length : Int)
    ·rw [if_pos c12] at H; have c12b0 := decide_eq_true c12; clear c12
     by_cases c13 : 0 ≤ x9_1
     ·rw [if_pos c13] at H; have c13b0 := decide_eq_true c13; clear c13
      by_cases c14 : x9_1 < (l0.length : Int)
      ·rw [if_pos c14] at H; have c14b0 := decide_eq_true c14; clear c14; obtain ⟨t218, A15, H⟩ := bi_ H; replace H : (some (x9_1, (t218 == 0))) = some (r1, r2) := H; simp only [Option.some.injEq, Prod.mk.injEq] at H; obtain ⟨rfl, rfl⟩ := H; have p217 : 0 ≤ (x9_1 : Int) := of_decide_eq_true q3_; have q217 : x9_1 < (l0.length : Int) := of_decide_eq_true q3_; obtain ⟨ad217, A217_1, c217_1, e217, hx217_0, hx217_1, hl217_1, hi217_1⟩ := zfa HR0.out x9_1 p217 q217; cases e217; replace hx217_0 := hc_ HB.out hx217_0; replace hx217_1 := hc_ HB.out hx217_1; have HR217_1 := ak_ hi217_1; have HC217_1 := ak_ hl217_1; clear hi217_1 hl217_1; replace p217 := eq_true p217; replace q217 := eq_true q217; go_wp2_with (first | (go_at_call 26; (with_reducible refine (zec.calls ((zbg l0 x9_1).f0) _ _ ((zbg l0 x9_1).f1) a1 t218 _ ?side1 HC217_1.out A15.out).mono ?_); (case side1 => exact cx_ (Kd.zch HR217_1.out HB.out)); rintro e w16 ⟨rfl, hb⟩; replace HB := bs_ hb; clear hb)); go_ret2; exact ⟨q4_, q0_⟩
      ·rw [if_neg c14] at H; exact absurd H (by simp)
     ·rw [if_neg c13] at H; exact absurd H (by simp)
    ·rw [if_neg c12] at H; have c12b0 := decide_eq_false c12; clear c12; simp only [Option.some.injEq, Prod.mk.injEq] at H; obtain ⟨rfl, rfl⟩ := H; go_wp2; go_ret2; exact ⟨q4_, q0_⟩
def zfg.f (a0_0 : ByteArray) (l0_1 : List (S81)) : Option (Bool) := some ((l0_1.length : Int) == 0)
theorem zfg.calls (a0_0 : ByteArray) (A0_1 : Option Addr) (c0_1 : Nat) (l0_1 : List (S81)) (r : Bool) (w : World) (hr0_1 : Kd.C k81 w A0_1 l0_1.length l0_1) (hc0_1 : l0_1.length ≤ c0_1) (h : zfg.f a0_0 l0_1 = some r) :
  Calls Tryd.prog 31 #[.agg #[.string a0_0, .slice A0_1 l0_1.length c0_1]] w fun e w' => e = .returned (.bool r) ∧ Below w.heap.size w w' := by
 have hu56 := Tryd.underlying56; have HR0_1 := ak_ hr0_1; have HC0_1 := ak_ hc0_1; clear hr0_1 hc0_1; have HB := ak_ (Below.refl w.heap.size w); have H : (some ((l0_1.length : Int) == 0)) = some r := h; clear h; obtain rfl := Option.some.inj H; go_enter Tryd.func31, Tryd.ntmps31; go_wp2_with (first | ((with_reducible refine gd_ 1 rfl ?_); refine by_ #[.string a0_0, .slice A0_1 l0_1.length c0_1] 56 ?_; intro gb221 hg w2 BK221 hb; have GE221 := gw_ hg; replace HB := bs_ hb; clear hb hg; have hz3 := bc2_ (w := w2) BK221.out)); go_ret; exact ⟨q4_, q0_⟩
def zax.l0 : Nat → List (S56) → Int → Int → Option (Int)
 | 0, _, _, _ => none
 | k + 1, x0, x7, x8 => if x8 < x7 then (if 0 ≤ x8 then (if x8 < (x0.length : Int) then ((zfg.f ((zbg x0 x8).f0) ((zbg x0 x8).f1)).bind fun t223 => (if t223 = true then (some x8) else (zax.l0 k x0 x7 (wrap64 (x8 + 1))))) else (none)) else (none)) else (some (-1))
def zax.f (k : Nat) (l0 : List (S56))  : Option (Int) := zax.l0 k l0 (l0.length : Int) 0
theorem zax.zbt : ∀ k, (∀ y0 y1 y2, LeO (zax.l0 k y0 y1 y2) (zax.l0 (k + 1) y0 y1 y2))
 | 0 => fun _ _ _ r h => by simp [zax.l0] at h
 | k + 1 => by
  have ih0 := zax.zbt k
  ·intro y0 y1 y2
   unfold zax.l0
   with_reducible repeat' first
   | apply ih0
   | apply LeO.refl
   | apply LeO.none
   | refine LeO.ite ?_ ?_
   | refine LeO.bind ?_ (fun _ => ?_)
theorem zax.mono : ∀ a0 k, LeO (zax.f k a0) (zax.f (k + 1) a0) := by
 intro a0 k
 have ih0 := zax.zbt k
 unfold zax.f
 with_reducible repeat' first
   | apply ih0
   | apply LeO.refl
   | apply LeO.none
   | refine LeO.ite ?_ ?_
   | refine LeO.bind ?_ (fun _ => ?_)
theorem zax.calls (k : Nat) (A0 : Option Addr) (c0 : Nat) (l0 : List (S56))  (r : Int) (w : World) (hr0 : Kd.C k56 w A0 l0.length l0) (hc0 : l0.length ≤ c0) (h : zax.f k l0 = some r) :
  Calls Tryd.prog 52 #[.slice A0 l0.length c0, (.func (.func 31) #[] #[])] w fun e w' => e = .returned (.int .i64 r) ∧ Below w.heap.size w w' := by
 have hu56 := Tryd.underlying56; have HR0 := ak_ hr0; have HC0 := ak_ hc0; clear hr0 hc0; have HB := ak_ (Below.refl w.heap.size w); have H : (zax.l0 k l0 (l0.length : Int) 0) = some r := h; clear h; have H' := ak_ H; clear H; go_enter Tryd.func52, Tryd.ntmps52; go_wp2; go_loopg [8] k (fun kq v8 w' => ∃ (x8_1 : Int), v8 = .int .i64 x8_1 ∧ zad (zax.l0 kq l0 (l0.length : Int) x8_1 = some r) ∧ zad (kq ≤ k) ∧ zad (Below w.heap.size w w'))
 case atStart => exact ⟨(0), q5_, H', ⟨Nat.le_refl _⟩, ⟨q0_⟩⟩
 case round =>
  clear H'; obtain ⟨x8_1, rfl, HA, HK1, HB⟩ := hrel
  cases gk with
  | zero => exact absurd HA.out (by simp [zax.l0])
  | succ k1 =>
   have H := HA.out; clear HA; simp only [zax.l0] at H
   by_cases c3 : x8_1 < (l0.length : Int)
   ·rw [if_pos c3] at H; have c3b0 := decide_eq_true c3; clear c3
    by_cases c4 : 0 ≤ x8_1
    ·rw [if_pos c4] at H; have c4b0 := decide_eq_true c4; clear c4
     by_cases c5 : x8_1 < (l0.length : Int)
     ·rw [if_pos c5] at H; have c5b0 := decide_eq_true c5; clear c5; obtain ⟨t223, A6, H⟩ := bi_ H; try dsimp only at H
      have p222 : 0 ≤ (x8_1 : Int) := of_decide_eq_true q3_; have q222 : x8_1 < (l0.length : Int) := of_decide_eq_true q3_; obtain ⟨ad222, A222_1, c222_1, e222, hx222_0, hx222_1, hl222_1, hi222_1⟩ := zfa HR0.out x8_1 p222 q222; cases e222; replace hx222_0 := hc_ HB.out hx222_0; replace hx222_1 := hc_ HB.out hx222_1; have HR222_1 := ak_ hi222_1; have HC222_1 := ak_ hl222_1; clear hi222_1 hl222_1; replace p222 := eq_true p222; replace q222 := eq_true q222
      by_cases c7 : t223 = true
      ·subst c7; replace H := ifT_ H; obtain rfl := Option.some.inj H; go_wp2_with (first | ((with_reducible refine zcr (t := 11) rfl ?_); refine zfz (some 16) rfl rfl Tryd.func31 (by kernel_rfl) rfl #[.agg #[.string ((zbg l0 x8_1).f0), .slice A222_1 ((zbg l0 x8_1).f1).length c222_1]] rfl (by rfl) q2_ ?_; (with_reducible refine ca_ (zfg.calls ((zbg l0 x8_1).f0) _ _ ((zbg l0 x8_1).f1) true _ ?side1 HC222_1.out A6.out) ?_); (case side1 => exact cx_ (Kd.zch HR222_1.out HB.out)); intro w8 hb; replace HB := bs_ hb; clear hb)); go_ret; exact ⟨q4_, q0_⟩
      ·replace c7 := Bool.eq_false_iff.mpr c7; subst c7; replace H := ifF_ H; have H' := ak_ H; clear H; go_wp2_with (first | ((with_reducible refine zcr (t := 11) rfl ?_); refine zfz (some 16) rfl rfl Tryd.func31 (by kernel_rfl) rfl #[.agg #[.string ((zbg l0 x8_1).f0), .slice A222_1 ((zbg l0 x8_1).f1).length c222_1]] rfl (by rfl) q2_ ?_; (with_reducible refine ca_ (zfg.calls ((zbg l0 x8_1).f0) _ _ ((zbg l0 x8_1).f1) false _ ?side1 HC222_1.out A6.out) ?_); (case side1 => exact cx_ (Kd.zch HR222_1.out HB.out)); intro w9 hb; replace HB := bs_ hb; clear hb)); go_roundg k1
       case measure => have := HK1.out; omega
       case rel => exact ⟨(wrap64 (x8_1 + 1)), q5_, H', ⟨kq_⟩, ⟨q0_⟩⟩
     ·rw [if_neg c5] at H; exact absurd H (by simp)
    ·rw [if_neg c4] at H; exact absurd H (by simp)
   ·rw [if_neg c3] at H; have c3b0 := decide_eq_false c3; clear c3; obtain rfl := Option.some.inj H; go_wp2; go_ret; exact ⟨q4_, q0_⟩
def zag.f (l0 : List S56) : Option (List S56) := if l0.length ≤ 1000000 then some (l0.filter fun c => !(c.f1.length == 0)) else none
def zag.p (c : S56) : Bool := c.f1.length == 0
def zag.i : List S56 → Nat → Int
 | [], _ => -1
 | c :: t, i => if zag.p c = true then (i : Int) else zag.i t (i + 1)
theorem zag.i_spec : ∀ (t : List S56) (i : Nat), (zag.i t i = -1 ∧ ∀ c ∈ t, zag.p c = false) ∨ ∃ m c, zag.i t i = ((i + m : Nat) : Int) ∧ t[m]? = some c ∧ zag.p c = true ∧ ∀ d ∈ t.take m, zag.p d = false
 | [], _ => .inl ⟨rfl, fun c hc => by cases hc⟩
 | c :: t, i => by
  unfold zag.i
  by_cases h : zag.p c = true
  ·rw [if_pos h]
   exact .inr ⟨0, c, rfl, rfl, h, fun d hd => by cases hd⟩
  ·rw [if_neg h]
   have h' := Bool.eq_false_iff.2 h
   rcases zag.i_spec t (i + 1) with ⟨e, ha⟩ | ⟨m, d, e, h1, h2, h3⟩
   ·refine .inl ⟨e, fun d hd => ?_⟩
    rcases List.mem_cons.1 hd with rfl | hd
    ·exact h'
    ·exact ha d hd
   ·refine .inr ⟨m + 1, d, by rw [e]; congr 1; omega, h1, h2, fun x hx => ?_⟩
    rw [List.take_succ_cons] at hx
    rcases List.mem_cons.1 hx with rfl | hx
    ·exact h'
    ·exact h3 x hx
theorem zag.i_f (l : List S56) (hl : l.length ≤ 1000000) : ∀ (t : List S56) (i m : Nat), l.drop i = t → i ≤ l.length → t.length < m → zax.l0 m l (l.length : Int) (i : Int) = some (zag.i t i)
 | _, _, 0, _, _, h => absurd h (Nat.not_lt_zero _)
 | [], i, m + 1, h, hi, _ => by
  have := List.drop_eq_nil_iff.1 h
  simp only [zax.l0]
  rw [if_neg (by omega)]; rfl
 | c :: t, i, m + 1, h, hi, hm => by
  have hlt : i < l.length := by
   rcases Nat.lt_or_ge i l.length with h1 | h1
   ·exact h1
   ·rw [List.drop_of_length_le h1] at h; cases h
  have h2 := h
  rw [List.drop_eq_getElem_cons hlt] at h2
  injection h2 with h3 h4
  have e : zbg l (i : Int) = c := by
   unfold zbg
   rw [Int.toNat_natCast, List.getD_eq_getElem?_getD, List.getElem?_eq_getElem hlt, h3]; rfl
  have hw : wrap64 ((i : Int) + 1) = ((i + 1 : Nat) : Int) := by unfold wrap64; omega
  have e2 : ((c.f1.length : Int) == 0) = zag.p c := by rw [Bool.eq_iff_iff]; unfold zag.p; simp
  simp only [zax.l0]
  rw [if_pos (by omega), if_pos (by omega), if_pos (by omega), e, hw, zag.i_f l hl t (i + 1) m h4 (by omega) (by simpa using hm)]
  show (if ((c.f1.length : Int) == 0) = true then some (i : Int) else some (zag.i t (i + 1))) = some (if zag.p c = true then (i : Int) else zag.i t (i + 1))
  rw [e2]
  split <;> rfl
section
variable {α β : Type} {p : α → Bool} {z : List (α × β)} {cur : List β} {i j : Nat}
structure DInv (p : α → Bool) (z : List (α × β)) (cur : List β) (i j : Nat) : Prop where
 len : cur.length = z.length
 le : j ≤ z.length
 cnt : i = ((z.take j).filter fun q => !p q.1).length
 low : cur.take i = ((z.take j).filter fun q => !p q.1).map (·.2)
 high : cur.drop j = (z.drop j).map (·.2)
theorem DInv.ij (h : DInv p z cur i j) : i ≤ j := by
 rw [h.cnt]
 exact Nat.le_trans (List.length_filter_le _ _) (by rw [List.length_take]; exact Nat.min_le_left _ _)
theorem DInv.start {k : Nat} (hk : k ≤ z.length) (h : ∀ q ∈ z.take k, p q.1 = false) : DInv p z (z.map (·.2)) k k where
 len := by simp
 le := hk
 cnt := by rw [List.filter_eq_self.2 (fun q hq => by simp [h q hq]), List.length_take]; omega
 low := by rw [List.filter_eq_self.2 (fun q hq => by simp [h q hq]), List.map_take]
 high := by rw [List.map_drop]
theorem DInv.at (h : DInv p z cur i j) (hj : j < z.length) : cur[j]? = some (z[j]).2 := by
 have h1 := congrArg (fun l => l[0]?) h.high
 simp only [List.getElem?_drop, List.getElem?_map, Nat.add_zero] at h1
 rw [h1, List.getElem?_eq_getElem hj]
 rfl
theorem DInv.skip (h : DInv p z cur i j) (hj : j < z.length) (hp : p (z[j]).1 = true) : DInv p z cur i (j + 1) where
 len := h.len
 le := hj
 cnt := by rw [List.take_add_one, List.getElem?_eq_getElem hj, List.filter_append]; simp [hp, ← h.cnt]
 low := by rw [List.take_add_one, List.getElem?_eq_getElem hj, List.filter_append]; simp [hp, h.low]
 high := by rw [← List.drop_drop, ← List.drop_drop, h.high, List.map_drop, List.map_drop, List.map_drop]
theorem DInv.keep (h : DInv p z cur i j) (hj : j < z.length) (hp : p (z[j]).1 = false) : DInv p z (cur.set i (z[j]).2) (i + 1) (j + 1) where
 len := by rw [List.length_set]; exact h.len
 le := hj
 cnt := by rw [List.take_add_one, List.getElem?_eq_getElem hj, List.filter_append]; simp [hp, ← h.cnt]
 low := by
  have hi : i < cur.length := by have := h.ij; have := h.len; omega
  rw [List.take_add_one, List.getElem?_set_self hi, List.take_set_of_le (Nat.le_refl _), h.low, List.take_add_one, List.getElem?_eq_getElem hj, List.filter_append]
  simp [hp]
 high := by
  have := h.ij
  rw [List.drop_set, if_pos (by omega), ← List.drop_drop, ← List.drop_drop, h.high, List.map_drop, List.map_drop, List.map_drop]
theorem DInv.all (h : DInv p z cur i z.length) : cur.take i = (z.filter fun q => !p q.1).map (·.2) ∧ i = (z.filter fun q => !p q.1).length := by
 have h1 := h.low
 have h2 := h.cnt
 rw [List.take_length] at h1 h2
 exact ⟨h1, h2⟩
theorem zje : ∀ (xs : List α) (rows : List β), rows.length = xs.length → ((xs.zip rows).filter fun q => !p q.1).map (·.1) = xs.filter fun x => !p x
 | [], [], _ => rfl
 | [], _ :: _, h => by simp at h
 | _ :: _, [], h => by simp at h
 | x :: xs, c :: rows, h => by
  have ih := zje xs rows (by simpa using h)
  rw [List.zip_cons_cons]
  cases hp : p x <;> simp [hp, ih]
end
theorem flat_set {k : Nat} {rows : List (List Value)} {c : List Value} {i : Nat} (hk : ∀ r ∈ rows, r.length = k) (hi : i < rows.length) :
  (rows.set i c).flatten = rows.flatten.take (i * k) ++ (c ++ rows.flatten.drop (i * k + k)) := by
 have e : rows.set i c = rows.take i ++ c :: rows.drop (i + 1) := by rw [List.set_eq_take_append_cons_drop, if_pos hi]
 rw [e, List.flatten_append, List.flatten_cons, Mem.flat_take rows i hk, show i * k + k = (i + 1) * k by rw [Nat.succ_mul], Mem.zhr rows (i + 1) hk]
theorem block_set {w : World} {b : Nat} {e : TypeId} {k : Nat} {cur : Array Value} {rows : List (List Value)} {c : List Value} {i : Nat}
  (hb : w.heap[b]? = some (.cells cur e (0, 0))) (hk : ∀ r ∈ rows, r.length = k) (hc : c.length = k) (hi : i < rows.length) (hn : rows.length * k ≤ cur.size) (ht : cur.toList.take (rows.length * k) = rows.flatten) :
  ∃ cur', (w.setCells b (i * k) c).heap[b]? = some (.cells cur' e (0, 0)) ∧ cur'.size = cur.size ∧ cur'.toList.take (rows.length * k) = (rows.set i c).flatten := by
 have hik : i * k + k ≤ rows.length * k := by
  have := Nat.mul_le_mul_right k (show i + 1 ≤ rows.length from hi)
  rw [Nat.succ_mul] at this
  exact this
 obtain ⟨cur', h1, h2, h3⟩ := Mem.zem b e c (i * k) w cur hb (by rw [hc]; omega)
 refine ⟨cur', h1, h2, ?_⟩
 have hl : cur.toList.length = cur.size := Array.length_toList
 have e1 : cur.toList = rows.flatten ++ cur.toList.drop (rows.length * k) := by rw [← ht, List.take_append_drop]
 have hf : rows.flatten.length = rows.length * k := Mem.ziy rows hk
 rw [h3, flat_set hk hi, hc, e1]
 rw [List.take_append_of_le_length (l₁ := rows.flatten) (by omega), List.drop_append_of_le_length (l₁ := rows.flatten) (by omega)]
 simp only [← List.append_assoc]
 refine List.take_left' ?_
 simp only [List.length_append, List.length_take, List.length_drop]
 omega
theorem run_clear_cellsK {P : Program} (w : World) (t e ty : TypeId) (z : Value) (K : Nat) (ht : P.underlying t = some (.slice e)) (hv : ∀ w, (zeroValue e).run P w = .ok z w) (hK : z.cells.size = K) (h1 : ∀ v ∈ z.cells.toList, v.oneCell' = true) (b o n c : Nat) (hn : 0 < n)
  (hc : ∀ j, j < n * K → (w.cell? ⟨b, o + j, none⟩).isSome = true) (hf : ∀ j, j < n * K → w.frozen? ⟨b, o + j, none⟩ = false) :
  ∃ vs : List Value, vs.length = n * K ∧ (Builtin.clear_ #[t] ty #[.slice (some ⟨b, o, none⟩) n c]).run P w = .ok (.tuple #[]) (w.setCells b o vs) := by
 have hl : (Builtin.zeroCells z.cells n).toList.length = n * K := by simp [Builtin.zeroCells, hK, Nat.mul_comm]
 have hm : ∀ v ∈ (Builtin.zeroCells z.cells n).toList, v.oneCell' = true := by
  intro v hv'
  simp only [Builtin.zeroCells] at hv'
  simp at hv'
  obtain ⟨i, hi, rfl⟩ := hv'
  have hlt : i % z.cells.size < z.cells.size := Nat.mod_lt _ (Nat.pos_of_ne_zero (fun h => by rw [h] at hi; simp at hi))
  rw [getElem!_pos z.cells _ hlt]
  exact h1 _ (by simp)
 refine ⟨(Builtin.zeroCells z.cells n).toList, hl, ?_⟩
 have hst := run_storeCells_cells (P := P) b o (Builtin.zeroCells z.cells n).toList 0 w (by rw [hl]; simpa using hc) (by rw [hl]; simpa using hf) hm
 simp only [Nat.add_zero] at hst
 obtain ⟨m, rfl⟩ : ∃ m, n = m + 1 := ⟨n - 1, by omega⟩
 simp [Builtin.clear_, run_underlying ht, hv, hst]
theorem row_cell {k n : Nat} {rows : List (List Value)} {cA : Array Value} (hk : ∀ r ∈ rows, r.length = k) (ht : cA.toList.take (n * k) = rows.flatten) {j t : Nat} {c : List Value} {v : Value} (hj : rows[j]? = some c) (hv : c[t]? = some v) : cA[j * k + t]? = some v := by
 have hjl := (List.getElem?_eq_some_iff.1 hj).1
 have h1 : rows.flatten[j * k + t]? = some v := by
  have e : rows.flatten[j * k + t]? = (rows.flatten.drop (j * k))[t]? := by rw [List.getElem?_drop]
  rw [e, Mem.zhr rows j hk, List.drop_eq_getElem_cons hjl, List.flatten_cons, (List.getElem?_eq_some_iff.1 hj).2, List.getElem?_append_left (List.getElem?_eq_some_iff.1 hv).1, hv]
 rw [← ht, List.getElem?_take] at h1
 split at h1
 ·rwa [Array.getElem?_toList] at h1
 ·cases h1
set_option maxHeartbeats 4000000 in
theorem zag.N (wo w : World) (ok : Nat → Prop) (u : Value) (xs : List S56) (P_ : Nat → Prop) (hB : Below wo.heap.size wo w) (ho : Kd.N k56 56 w wo.heap.size ok u xs) (hP : ∀ k, some k = u.ownBlock → P_ k) (hl : xs.length ≤ 1000000) :
  Calls Tryd.prog 30 #[u, (.func (.func 31) #[] #[])] w fun e w' => ∃ v0, e = .returned v0 ∧ Kd.N k56 56 w' wo.heap.size ok v0 (xs.filter fun c => !zag.p c) ∧ Below wo.heap.size wo w' ∧ Kept w w' P_ := by
 obtain ⟨A, c, hu⟩ := Kd.zdj ho
 subst hu
 obtain ⟨_, hnc, hC⟩ := Kd.zcs ho
 have hIF := fun (W : World) (hC : Kd.C k56 W A xs.length xs) => zax.calls (xs.length + 1) A c xs (zag.i xs 0) W hC hnc (zag.i_f xs hl xs 0 (xs.length + 1) rfl (Nat.zero_le _) (by omega))
 have HI := zad.mk (hIF w hC)
 clear hIF
 rcases zag.i_spec xs 0 with ⟨hi, hall⟩ | ⟨m, cm, hi, hcm, hpm, hpre⟩
 ·have hf : xs.filter (fun c => !zag.p c) = xs := List.filter_eq_self.2 (fun c hc => by rw [hall c hc]; rfl)
  rw [hi] at HI
  have HF := zad.mk hf
  have HN := zad.mk ho
  have HB := zad.mk hB
  clear hi hall hf ho hB hC hnc
  go_enter Tryd.func30, Tryd.ntmps30
  go_wp2_with (go_at_call 52; refine HI.out.mono ?_; rintro e w' ⟨rfl, hb⟩; have HB1 := zad.mk hb; clear hb)
  go_ret
  exact ⟨_, rfl, by rw [HF.out]; exact Kd.zgd HN.out HB1.out, zbm HB.out HB.out.size HB1.out, Kept.of_below HB1.out _⟩
 ·have hml : m < xs.length := (List.getElem?_eq_some_iff.1 hcm).1
  obtain ⟨rows, hrl, hk, h1, hf, hcase⟩ := Mem.N_open ho
  rcases hcase with ⟨_, hx, _⟩ | ⟨b, cap, cur0, hv, hbb, hokb, hbh, hncap, hcm63, hcsz, htake⟩
  ·subst hx; simp at hml
  have hv2 := hv
  injection hv2 with hA _ hcc
  subst hA; subst hcc
  have hob : (Value.slice (some ⟨b, 0, none⟩) xs.length c).ownBlock = some b := rfl
  rw [hob] at hf
  have hzl : (xs.zip rows).length = xs.length := by rw [List.length_zip]; omega
  have hD0 : DInv zag.p (xs.zip rows) rows m (m + 1) := by
   have e : rows = (xs.zip rows).map (·.2) := by rw [List.map_snd_zip (by omega)]
   have hs : DInv zag.p (xs.zip rows) ((xs.zip rows).map (·.2)) m m := DInv.start (by omega) (fun q hq => by
    rw [List.zip, List.take_zipWith] at hq
    exact hpre q.1 (List.of_mem_zip hq).1)
   rw [← e] at hs
   refine hs.skip (by omega) ?_
   rw [List.getElem_zip]
   have : xs[m] = cm := (List.getElem?_eq_some_iff.1 hcm).2
   rw [this]; exact hpm
  have hsz2 : k56.sz = 2 := rfl
  rw [hsz2] at hk htake hcsz
  have HF := zad.mk hf
  have HD := zad.mk hD0
  have HK := zad.mk hk
  have H1 := zad.mk h1
  have HB := zad.mk hB
  have HBH := zad.mk hbh
  have HT := zad.mk htake
  have HCS := zad.mk hcsz
  have HRL := zad.mk hrl
  have HZL := zad.mk hzl
  have HBB := zad.mk hbb
  have HOK := zad.mk hokb
  have HP := zad.mk hP
  have HO := zad.mk ho
  have hi2 : zag.i xs 0 = (m : Int) := by rw [hi]; congr 1; omega
  rw [hi2] at HI
  have hne1 : ((m : Int) == -1) = false := beq_eq_false_iff_ne.2 (by omega)
  have hbw := zad.mk (zcn hbh)
  have HNC := zad.mk hncap
  have HC63 := zad.mk hcm63
  clear hf hD0 hk h1 hB hbh htake hcsz hrl hzl hbb hokb hP ho hi hi2 hpre hpm hcm hv hC hnc hncap hcm63
  have hu56 := Tryd.underlying56
  go_enter Tryd.func30, Tryd.ntmps30
  go_wp2_with (go_at_call 52; refine HI.out.mono ?_; rintro e w1 ⟨rfl, hb⟩; have HB1 := zad.mk hb; clear hb)
  have hK1 : zad (∀ k, k < w.heap.size → k ≠ b → w1.heap[k]? = w.heap[k]?) := ⟨fun k hk _ => HB1.out.block k hk⟩
  have hS1 : zad (w.heap.size ≤ w1.heap.size) := ⟨HB1.out.size⟩
  have hb1 : zad (w1.heap[b]? = some (.cells cur0 56 (0, 0))) := ⟨(HB1.out.block b hbw.out).trans HBH.out⟩
  have hBo : zad (Below wo.heap.size wo w1) := ⟨zbm HB.out HB.out.size HB1.out⟩
  clear HBH HB1 HI HB
  go_loopg [5, 6, 7] xs.length (fun gg s5 s6 _ wr => ∃ (i j : Nat) (cur : List (List Value)) (cA : Array Value), s5 = .int .i64 i ∧ s6 = .int .i64 j ∧ zad (j ≤ xs.length) ∧ zad (xs.length - j ≤ gg) ∧ zad (DInv zag.p (xs.zip rows) cur i j) ∧ zad (i < j) ∧ zad (∀ c ∈ cur, c.length = 2) ∧ zad (∀ c ∈ cur, c ∈ rows) ∧
   zad (wr.heap[b]? = some (.cells cA 56 (0, 0))) ∧ zad (cA.size = c * 2) ∧ zad (cA.toList.take (xs.length * 2) = cur.flatten) ∧ zad (∀ k, k < w.heap.size → k ≠ b → wr.heap[k]? = w.heap[k]?) ∧ zad (w.heap.size ≤ wr.heap.size) ∧ zad (Below wo.heap.size wo wr))
  case atStart => exact ⟨m, m + 1, rows, cur0, rfl, by go_num, ⟨hml⟩, ⟨by omega⟩, HD, ⟨Nat.lt_succ_self _⟩, HK, ⟨fun c hc => hc⟩, hb1, HCS, HT, hK1, hS1, hBo⟩
  case round =>
   clear HD hK1 hS1 hb1 hBo HT HCS
   obtain ⟨i, j, cur, cA, rfl, rfl, hjn, hgg, HD, hij, HC2, HCR, hbk, HCS, HT, HKK, HS, hBo⟩ := hrel
   have hln : xs.length ≤ 1000000 := hl
   by_cases hlt : j < xs.length
   ·obtain ⟨x, hx⟩ : ∃ x, xs[j]? = some x := ⟨_, List.getElem?_eq_getElem hlt⟩
    obtain ⟨cj, hcj⟩ : ∃ c, rows[j]? = some c := ⟨_, List.getElem?_eq_getElem (by have := HRL.out; omega)⟩
    have hzj : (xs.zip rows)[j]'(by have := HZL.out; omega) = (x, cj) := by
     rw [List.getElem_zip]
     exact Prod.ext (List.getElem?_eq_some_iff.1 hx).2 (List.getElem?_eq_some_iff.1 hcj).2
    have hcu : cur[j]? = some cj := by have := HD.out.at (by have := HZL.out; omega); rw [hzj] at this; exact this
    have hFK := Kd.zhl (Kd.zhv (HF.out j x cj hx hcj)) (fun k hk hlt => HKK.out k hk.2 (fun e => hk.1.2 (by rw [e])))
    obtain ⟨A1, c1, hce, hlc, hF81⟩ := zhe hFK
    have hil : i < cur.length := by have := HD.out.len; have := HZL.out; have := hij.out; omega
    obtain ⟨ci, hci⟩ : ∃ c, cur[i]? = some c := ⟨_, List.getElem?_eq_getElem hil⟩
    obtain ⟨o0, o1, hoe⟩ : ∃ o0 o1, ci = [o0, o1] := by
     have := HC2.out ci (List.mem_of_getElem? hci)
     match ci, this with
     | [a, b], _ => exact ⟨a, b, rfl⟩
    subst hce; subst hoe
    have hc0 : wr.cell? ⟨b, j * 2, none⟩ = some (.string x.f0) := (zcj hbk.out _).trans (row_cell HC2.out HT.out hcu (t := 0) rfl)
    have hc1 : wr.cell? ⟨b, j * 2 + 1, none⟩ = some (.slice A1 x.f1.length c1) := (zcj hbk.out _).trans (row_cell HC2.out HT.out hcu (t := 1) rfl)
    have hd0 : wr.cell? ⟨b, i * 2, none⟩ = some o0 := (zcj hbk.out _).trans (row_cell HC2.out HT.out hci (t := 0) rfl)
    have hd1 : wr.cell? ⟨b, i * 2 + 1, none⟩ = some o1 := (zcj hbk.out _).trans (row_cell HC2.out HT.out hci (t := 1) rfl)
    have hfz := zao hbk.out
    have hjlt : (j : Int) < (xs.length : Int) := by omega
    have hj0 : (0 : Int) ≤ (j : Int) := by omega
    have hilt : (i : Int) < (xs.length : Int) := by have := hij.out; omega
    have hi0 : (0 : Int) ≤ (i : Int) := by omega
    have hwj : wrap64 ((j : Int) + 1) = ((j + 1 : Nat) : Int) := by unfold wrap64; omega
    have hwi : wrap64 ((i : Int) + 1) = ((i + 1 : Nat) : Int) := by unfold wrap64; have := hij.out; omega
    have HFF := zad.mk hF81
    have HLC := zad.mk hlc
    have HCU := zad.mk hcu
    have HZJ := zad.mk hzj
    have HCI := zad.mk hci
    have hr : zfg.f x.f0 x.f1 = some (zag.p x) := by
     show some ((x.f1.length : Int) == 0) = some (x.f1.length == 0)
     congr 1
     rw [Bool.eq_iff_iff]; simp
    have HR := zad.mk hr
    clear hF81 hlc hcu hzj hci hFK hr hx hcj
    generalize hpx : zag.p x = px at HR
    have HPX := zad.mk hpx
    clear hpx
    have hcl := fun px (hr : zfg.f x.f0 x.f1 = some px) => zfg.calls x.f0 A1 c1 x.f1 px (wr.alloc (.cells #[.string x.f0, .slice A1 x.f1.length c1] 56)) (Kd.F_now (Kd.F_alloc HFF.out _)) HLC.out hr
    have HCL := zad.mk hcl
    clear hcl
    have hup : ∀ w2 : World, Below (wr.alloc (.cells #[.string x.f0, .slice A1 x.f1.length c1] 56)).heap.size (wr.alloc (.cells #[.string x.f0, .slice A1 x.f1.length c1] 56)) w2 → Below wr.heap.size wr w2 ∧ w2.heap[wr.heap.size]? = some (.cells #[.string x.f0, .slice A1 x.f1.length c1] 56 (0, 0)) := fun w2 h2 =>
     ⟨zbm (zbj (Below.refl _ _) _) (zbj (Below.refl wr.heap.size wr) (.cells #[.string x.f0, .slice A1 x.f1.length c1] 56)).size h2, (h2.block _ (by rw [Mem.zfi]; exact Nat.lt_succ_self _)).trans (Mem.zeo wr #[.string x.f0, .slice A1 x.f1.length c1] 56)⟩
    have HUP := zad.mk hup
    clear hup
    cases px with
    | true =>
     have HC := zad.mk (HCL.out true HR.out)
     clear HCL
     go_wp2_with (go_at_call 31; refine HC.out.mono ?_; rintro e w2 ⟨rfl, hb2⟩; have HB2 := zad.mk hb2; clear hb2)
     go_roundg (xs.length - (j + 1))
     case measure => have := hgg.out; omega
     case rel =>
      obtain ⟨u1, _⟩ := HUP.out _ HB2.out
      have hbl := zcn hbk.out
      exact ⟨i, j + 1, cur, cA, rfl, by go_num, ⟨by omega⟩, ⟨Nat.le_refl _⟩, ⟨HD.out.skip (by have := HZL.out; omega) (by rw [HZJ.out]; exact HPX.out)⟩, ⟨by have := hij.out; omega⟩, HC2, HCR, ⟨(u1.block b hbl).trans hbk.out⟩, HCS, HT, ⟨fun k hk hkb => (u1.block k (Nat.lt_of_lt_of_le hk HS.out)).trans (HKK.out k hk hkb)⟩, ⟨Nat.le_trans HS.out u1.size⟩, ⟨zbm hBo.out hBo.out.size u1⟩⟩
    | false =>
     have HC := zad.mk (HCL.out false HR.out)
     clear HCL
     have hbl := zad.mk (zcn hbk.out)
     go_wp2_with (go_at_call 31; refine HC.out.mono ?_; rintro e w2 ⟨rfl, hb2⟩; have HB2 := zad.mk hb2; clear hb2; (have hx0 : w2.cell? ⟨wr.heap.size, 0, none⟩ = some (.string x.f0) := (zcj (HUP.out _ HB2.out).2 0).trans rfl); (have hx1 : w2.cell? ⟨wr.heap.size, 1, none⟩ = some (.slice A1 x.f1.length c1) := (zcj (HUP.out _ HB2.out).2 1).trans rfl); (replace hd0 : w2.cell? ⟨b, i * 2, none⟩ = some o0 := ((HUP.out _ HB2.out).1.cell (p := ⟨b, i * 2, none⟩) hbl.out).trans hd0); (replace hd1 : w2.cell? ⟨b, i * 2 + 1, none⟩ = some o1 := ((HUP.out _ HB2.out).1.cell (p := ⟨b, i * 2 + 1, none⟩) hbl.out).trans hd1); (have hfz2 : ∀ o, w2.frozen? ⟨b, o, none⟩ = false := fun o => ((HUP.out _ HB2.out).1.frozen (p := ⟨b, o, none⟩) hbl.out).trans (hfz o)); clear hc0 hc1)
     go_roundg (xs.length - (j + 1))
     case measure => have := hgg.out; omega
     case rel =>
      obtain ⟨u1, _⟩ := HUP.out _ HB2.out
      have hb2 := (u1.block b hbl.out).trans hbk.out
      have hcl : cur.length = xs.length := by rw [HD.out.len, HZL.out]
      obtain ⟨cA', g1, g2, g3⟩ := block_set (i := i) (c := [.string x.f0, .slice A1 x.f1.length c1]) hb2 HC2.out rfl (by have := hij.out; omega) (by rw [hcl, HCS.out]; exact Nat.mul_le_mul_right 2 HNC.out) (by rw [hcl]; exact HT.out)
      rw [hcl] at g3
      have hkeep := HD.out.keep (by have := HZL.out; omega) (by rw [HZJ.out]; exact HPX.out)
      rw [HZJ.out] at hkeep
      have hmem : ∀ c ∈ cur.set i [.string x.f0, .slice A1 x.f1.length c1], c ∈ rows := fun c hc => by
       rcases List.mem_or_eq_of_mem_set hc with h | h
       ·exact HCR.out c h
       ·rw [h]; exact HCR.out _ (List.mem_of_getElem? HCU.out)
      refine ⟨i + 1, j + 1, _, cA', by go_num, by go_num, ⟨by omega⟩, ⟨Nat.le_refl _⟩, ⟨hkeep⟩, ⟨by have := hij.out; omega⟩, ⟨fun c hc => HK.out c (hmem c hc)⟩, ⟨hmem⟩, ⟨g1⟩, ⟨g2.trans HCS.out⟩, ⟨g3⟩, ⟨fun k hk hkb => ?_⟩, ⟨?_⟩, ⟨?_⟩⟩
      ·show ((w2.setCells b (i * 2) [.string x.f0, .slice A1 x.f1.length c1]).heap[k]?) = _
       exact ((Mem.zcg b _ _ _).2.2.2.2 k hkb).trans ((u1.block k (Nat.lt_of_lt_of_le hk HS.out)).trans (HKK.out k hk hkb))
      ·exact Nat.le_trans (Nat.le_trans HS.out u1.size) (Nat.le_of_eq (Mem.zcg b [.string x.f0, .slice A1 x.f1.length c1] (i * 2) w2).2.2.2.1.symm)
      ·exact Mem.below_setCells (zbm hBo.out hBo.out.size u1) HBB.out (i * 2) [.string x.f0, .slice A1 x.f1.length c1]
   ·obtain rfl : j = xs.length := by have := hjn.out; omega
    have hin := hij.out
    obtain ⟨vs, hvl, hcl⟩ := run_clear_cellsK (P := Tryd.prog) wr 22 56 0 (.agg #[.string ⟨#[]⟩, .slice none 0 0]) 2 Tryd.underlying22 (fun w => by kernel_rfl) rfl (fun v hv => by
      simp [Value.cells] at hv
      rcases hv with rfl | rfl <;> rfl) b (i * 2) (xs.length - i) (c - i) (by omega)
     (fun t ht => by rw [zcj hbk.out, Array.getElem?_eq_getElem (by rw [HCS.out]; have := HNC.out; omega)]; rfl) (fun t ht => zao hbk.out _)
    have hlt' : ¬ (xs.length : Int) < (xs.length : Int) := by omega
    have hi0 : (0 : Int) ≤ (i : Int) := by omega
    have hil : (i : Int) ≤ (xs.length : Int) := by omega
    have hiN : i ≤ xs.length := by omega
    have hci : ¬ (c = i) := by have := HNC.out; omega
    have hiC : (i : Int) ≤ (c : Int) := by have := HNC.out; omega
    have hicN : i ≤ c := by have := HNC.out; omega
    have HVL := zad.mk hvl
    clear hvl
    go_wp2
    go_ret
    obtain ⟨hall1, hall2⟩ := (show DInv zag.p (xs.zip rows) cur i (xs.zip rows).length from by rw [HZL.out]; exact HD.out).all
    have hfl : ((xs.zip rows).filter fun q => !zag.p q.1).map (·.1) = xs.filter fun x => !zag.p x := zje xs rows HRL.out
    have hlen : (xs.filter fun x => !zag.p x).length = i := by rw [← hfl, List.length_map, ← hall2]
    have hcl2 : cur.length = xs.length := by rw [HD.out.len, HZL.out]
    obtain ⟨cA', q1, q2, q3⟩ := Mem.zem b 56 vs (i * 2) wr cA hbk.out (by rw [HVL.out, HCS.out]; have := HNC.out; omega)
    have hoth := (Mem.zcg b vs (i * 2) wr).2.2.2.2
    have hsz := (Mem.zcg b vs (i * 2) wr).2.2.2.1
    have hN := Mem.N_make (d := k56) (e := 56) (base := wo.heap.size) (ok := ok) (w := wr.setCells b (i * 2) vs) (xs := xs.filter fun x => !zag.p x) (rows := cur.take i) (b := b) (cap := c) (cur := cA')
     (by rw [hlen, List.length_take]; omega) (fun c hc => HC2.out c (List.mem_of_mem_take hc)) (fun c hc => H1.out c (HCR.out c (List.mem_of_mem_take hc)))
     (fun t x c hx hc => by
      rw [← hfl] at hx
      rw [hall1] at hc
      rw [List.getElem?_map] at hx hc
      obtain ⟨q, hq, hq1⟩ := Option.map_eq_some_iff.1 hx
      rw [hq] at hc
      have hq2 : q.2 = c := by simpa using hc
      have hqm := (List.mem_filter.1 (List.mem_of_getElem? hq)).1
      obtain ⟨s, hs⟩ := List.getElem?_of_mem hqm
      have hsl := (List.getElem?_eq_some_iff.1 hs).1
      have hs2 := (List.getElem?_eq_some_iff.1 hs).2
      rw [List.getElem_zip] at hs2
      have hsx : xs[s]? = some x := by rw [List.getElem?_eq_getElem (by rw [List.length_zip] at hsl; omega), ← hq1, ← hs2]
      have hsc : rows[s]? = some c := by rw [List.getElem?_eq_getElem (by rw [List.length_zip] at hsl; omega), ← hq2, ← hs2]
      exact Kd.zgz (Kd.zhl (Kd.zhv (HF.out s x c hsx hsc)) (fun k hk hlt => (hoth k (fun e => hk.1.2 (by rw [e]))).trans (HKK.out k hk.2 (fun e => hk.1.2 (by rw [e]))))) (fun k hk => ⟨hk.1.1, fun e => hk.1.2 (by rw [e])⟩))
     HBB.out HOK.out q1 (by rw [hlen]; exact hicN) HC63.out (by rw [q2, HCS.out]; rfl) (by
      rw [hlen, show k56.sz = 2 from rfl, ← Mem.flat_take cur i HC2.out, ← HT.out, q3, List.take_take, Nat.min_eq_left (Nat.mul_le_mul_right 2 hiN), List.take_append_of_le_length (by rw [List.length_take, Array.length_toList, HCS.out]; omega), List.take_take, Nat.min_self])
    rw [hlen] at hN
    exact ⟨_, rfl, hN, Mem.below_setCells hBo.out HBB.out _ _, by rw [hsz]; exact HS.out, fun k hk hnp => by
     have hkb : k ≠ b := fun e => hnp (HP.out k (by rw [e]; rfl))
     exact (hoth k hkb).trans (HKK.out k hk hkb)⟩
theorem zag.calls : True := trivial
def zce.l (k : Nat) : List S56 → List S56 → Option (List S56 × Int)
 | out, [] => (zag.f out).bind fun o => (zbr.f k o).bind fun b => if b = true then some (o, 0) else some ([], 1)
 | out, c :: r => (zai.f k out c.f0).bind fun t =>
  (if t.2 = true then some out else zfx.f out t.1 [⟨c.f0, []⟩]).bind fun o =>
  if 0 ≤ t.1 ∧ t.1 < o.length then (zhb.f k [(zbg o t.1).f1, c.f1]).bind fun s => if s.2 = 0 then zce.l k (o.set t.1.toNat ⟨(zbg o t.1).f0, s.1⟩) r else some ([], s.2)
  else none
def zce.f (k : Nat) (l0 : List S56) (l1 : List S56) : Option (List S56 × Int) :=
 (zbr.f k l0).bind fun a => if a = true then ((zev.f k l1).bind fun b => if b = true then ((zel.f l0).bind fun o => zce.l k o l1) else some ([], 1)) else some ([], 1)
theorem zce.zbt : ∀ (r out : List S56) (k : Nat), LeO (zce.l k out r) (zce.l (k + 1) out r) := by
 intro r
 induction r with
 | nil => exact fun out k => LeO.bind (LeO.refl _) fun o => LeO.bind (zbr.mono _ _) fun b => LeO.refl _
 | cons c r ih => exact fun out k => LeO.bind (zai.mono _ _ _) fun t => LeO.bind (LeO.refl _) fun o => LeO.ite (LeO.bind (zhb.mono _ _) fun s => LeO.ite (ih _ _) (LeO.refl _)) (LeO.refl _)
theorem zce.mono : ∀ a0 a1 k, LeO (zce.f k a0 a1) (zce.f (k + 1) a0 a1) := by
 intro a0 a1 k
 exact LeO.bind (zbr.mono _ _) fun a => LeO.ite (LeO.bind (zev.mono _ _) fun b => LeO.ite (LeO.bind (LeO.refl _) fun o => zce.zbt a1 o k) (LeO.refl _)) (LeO.refl _)
theorem zce.lit2 {α : Type} {d : Kd α} {e t base : Nat} {W : World} {ok : Nat → Prop} {g ca cb : Nat} {a b : List α} {A B : Option Addr} (hg : W.heap[g]? = some (.cells #[.slice A a.length ca, .slice B b.length cb] t (0, 0))) (hok : ok g) (ha : a.length ≤ ca) (hb : b.length ≤ cb) (hFa : Kd.F d W ok A a.length a) (hFb : Kd.F d W ok B b.length b) :
  Kd.V (Kd.slice e d) t W base ok (.slice (some ⟨g, 0, none⟩) [a, b].length 2) [a, b] := by
 refine Kd.V_mk (Nat.le_refl _) (fun W' hW => ?_)
 have hbb := (hW g hok (zcn hg)).trans hg
 refine ⟨rfl, (by show (2 : Nat) ≤ _; decide), fun _ => ⟨⟨g, 0, none⟩, rfl, fun j p hj => ?_⟩⟩
 have hc : ∀ q u, (#[Value.slice A a.length ca, .slice B b.length cb] : Array Value)[q]? = some u → W'.cell? ((⟨g, 0, none⟩ : Addr).add q) = some u := fun q u hq => by
  rw [Addr.add_lit, Nat.zero_add, zcj hbb q]; exact hq
 match j, hj with
 | 0, hj =>
  simp only [List.getElem?_cons_zero, Option.some.injEq] at hj
  subst hj
  refine ⟨[.slice A a.length ca], rfl, ⟨A, ca, rfl, ha, hFa W' hW⟩, fun q u hq => ?_⟩
  match q, hq with
  | 0, hq => exact hc 0 u (by simpa using hq)
  | q + 1, hq => simp at hq
 | 1, hj =>
  simp only [List.getElem?_cons_succ, List.getElem?_cons_zero, Option.some.injEq] at hj
  subst hj
  refine ⟨[.slice B b.length cb], rfl, ⟨B, cb, rfl, hb, hFb W' hW⟩, fun q u hq => ?_⟩
  match q, hq with
  | 0, hq => exact hc 1 u (by simpa using hq)
  | q + 1, hq => simp at hq
 | j + 2, hj => simp at hj
theorem zce.calls (k : Nat) (P0_ : Nat → Prop) (A0 : Option Addr) (c0 : Nat) (l0 : List S56) (P1_ : Nat → Prop) (A1 : Option Addr) (c1 : Nat) (l1 : List S56) (r1 : List S56) (r2 : Int) (w : World) (hs0 : Kd.V k56 56 w w.heap.size (fun k_ => P0_ k_) (.slice A0 l0.length c0) l0) (hs1 : Kd.V k56 56 w w.heap.size (fun k_ => P1_ k_) (.slice A1 l1.length c1) l1) (h : zce.f k l0 l1 = some (r1, r2)) (hG : Glob w) :
  Calls Tryd.prog 10 #[.slice A0 l0.length c0, .slice A1 l1.length c1] w fun e w' => ∃ v0_, e = .returned (.tuple #[v0_, .int .i64 r2]) ∧ Kd.N k56 56 w' w.heap.size (fun k_ => ((P0_ k_ ∨ P1_ k_) ∨ w.heap.size ≤ k_)) v0_ r1 ∧ Below w.heap.size w w' := by
 unfold zce.f at h; obtain ⟨a, ha, h⟩ := Option.bind_eq_some_iff.1 h; have HST := zad.mk (zbr.calls k A0 c0 l0 a w (Kd.zbs hs0).2.2 (Kd.zbs hs0).2.1 ha hG); have hf1 : ∀ W, Below w.heap.size w W → Kd.F k56 W (fun k => P1_ k ∧ k < w.heap.size) A1 l1.length l1 := fun W hb => Kd.zdk (Kd.zgo (Kd.V_F hs1)) hb; have HF1 := zad.mk hf1; have HC1 := zad.mk (Kd.zbs hs1).2.1; have HS0 := zad.mk hs0; have HG := zad.mk hG; clear ha hf1 hs0 hs1 hG
 cases a with
 | false =>
  simp only [if_neg (show ¬ (false = true) by decide)] at h; injection h with h; injection h with h1 h2; subst h1; subst h2
  go_enter Tryd.func10, Tryd.ntmps10; go_wp2_with (go_at_call 22; refine HST.out.mono ?_; rintro e w1 ⟨rfl, hb⟩; have HB := zad.mk hb; clear hb); go_ret2; exact ⟨_, rfl, Kd.zjb _ _ _ _ _, HB.out⟩
 | true =>
  rw [if_pos rfl] at h; obtain ⟨b, hb, h⟩ := Option.bind_eq_some_iff.1 h; have HIT := zad.mk (fun (W : World) (hw : Below w.heap.size w W) => zev.calls k A1 c1 l1 b W (Kd.F_now (HF1.out W hw)) HC1.out hb (HG.out.below hw)); clear hb
  cases b with
  | false =>
   simp only [if_neg (show ¬ (false = true) by decide)] at h; injection h with h; injection h with h1 h2; subst h1; subst h2
   go_enter Tryd.func10, Tryd.ntmps10
   go_wp2_with (first
    | (go_at_call 22; refine HST.out.mono ?_; rintro e w1 ⟨rfl, hb⟩; have HB := zad.mk hb; clear hb)
    | (go_at_call 23; refine (HIT.out _ HB.out).mono ?_; rintro e w2 ⟨rfl, hb⟩; have HB2 := zad.mk (zbm HB.out HB.out.size hb); clear hb))
   go_ret2; exact ⟨_, rfl, Kd.zjb _ _ _ _ _, HB2.out⟩
  | true =>
   rw [if_pos rfl] at h; obtain ⟨o, ho, h⟩ := Option.bind_eq_some_iff.1 h; have H := zad.mk h; have HCL := zad.mk (fun (W : World) (hw : Below w.heap.size w W) => zel.calls P0_ A0 c0 l0 o W (Kd.zjg HS0.out hw) ho); have hlm : l1.length ≤ 9223372036854775807 := Kd.F_max (HF1.out w (Below.refl _ _)); clear h ho; go_enter Tryd.func10, Tryd.ntmps10
   go_wp2_with (first
    | (go_at_call 22; refine HST.out.mono ?_; rintro e w1 ⟨rfl, hb⟩; have HB := zad.mk hb; clear hb)
    | (go_at_call 23; refine (HIT.out _ HB.out).mono ?_; rintro e w2 ⟨rfl, hb⟩; have HB2 := zad.mk (zbm HB.out HB.out.size hb); clear hb)
    | (go_at_call 24; refine (HCL.out _ HB2.out).mono ?_; rintro e w3 ⟨v3, rfl, hN, hb⟩; have HN := zad.mk (Kd.zij (Kd.zdm (ok' := fun k_ => ((P0_ k_ ∨ P1_ k_) ∨ w.heap.size ≤ k_)) hN (fun k_ hk => hk.elim (fun h => .inl (.inl h)) (fun h => .inr (Nat.le_trans HB2.out.size h)))) HB2.out.size); have HB3 := zad.mk (zbm HB2.out HB2.out.size hb); clear hb hN))
   go_loopg [6, 25] l1.length (fun gg s6 s25 wr => ∃ (i : Nat) (out : List S56) (Au : Option Addr) (cu : Nat), s6 = .slice Au out.length cu ∧ s25 = .int .i64 i ∧ zad (i ≤ l1.length) ∧ zad (l1.length - i ≤ gg) ∧ zad (zce.l k out (l1.drop i) = some (r1, r2)) ∧ zad (Kd.N k56 56 wr w.heap.size (fun k_ => ((P0_ k_ ∨ P1_ k_) ∨ w.heap.size ≤ k_)) s6 out) ∧ zad (Below w.heap.size w wr))
   case atStart =>
    obtain ⟨Au, cu, rfl⟩ := Kd.zdj HN.out; exact ⟨0, o, Au, cu, rfl, rfl, ⟨Nat.zero_le _⟩, ⟨Nat.le_refl _⟩, H, HN, HB3⟩
   case round =>
    clear HN HB HB2 HB3 H HST HIT HCL HS0; obtain ⟨i, out, Au, cu, rfl, rfl, hi, hgg, HA, HN, HB⟩ := hrel
    by_cases hlt : i < l1.length
    ·obtain ⟨x, hx⟩ : ∃ x, l1[i]? = some x := ⟨_, List.getElem?_eq_getElem hlt⟩
     have hdrop : l1.drop i = x :: l1.drop (i + 1) := by
      rw [List.drop_eq_getElem_cons hlt, (List.getElem?_eq_some_iff.1 hx).2]
     have hA := HA.out; rw [hdrop] at hA; simp only [zce.l] at hA; obtain ⟨⟨t1, t2⟩, hbs, hA⟩ := Option.bind_eq_some_iff.1 hA; obtain ⟨o, ho, hA⟩ := Option.bind_eq_some_iff.1 hA; simp only [] at ho hA
     by_cases hin : 0 ≤ t1 ∧ t1 < (o.length : Int)
     case neg => rw [if_neg hin] at hA; cases hA
     rw [if_pos hin] at hA; obtain ⟨⟨s1, s2⟩, hsum, hA⟩ := Option.bind_eq_some_iff.1 hA; simp only [] at hA; obtain ⟨p, rfl⟩ : ∃ p : Nat, t1 = (p : Int) := ⟨t1.toNat, by omega⟩; have hpo : p < o.length := by omega
     obtain ⟨ad, cx, hA1, _, hFK, hcc, _⟩ := Kd.F_get (HF1.out wr HB.out) z56 (i : Int) (by omega) (by omega); subst hA1; rw [show l1.getD ((i : Int)).toNat z56 = x by simp [List.getD, hx]] at hFK; obtain ⟨Ax, cx1, hce, hlx, hFx⟩ := zhe hFK; subst hce; have hc0 : wr.cell? (ad.add (i * 2)) = some (.string x.f0) := hcc 0 _ rfl
     have hc1 : wr.cell? ⟨(ad.add (i * 2)).block, (ad.add (i * 2)).off + 1, none⟩ = some (.slice Ax x.f1.length cx1) := by
      rw [← zfw ad (i * 2) 1 (by decide)]; exact hcc 1 _ rfl
     have HFX := zad.mk (fun (W : World) (hW : Below w.heap.size w W) => Kd.F_step hFx (W1 := W) (fun k hk _ => (hW.block k hk.2).trans (HB.out.block k hk.2).symm)); have hilt : (i : Int) < (l1.length : Int) := by omega
     have hi0 : (0 : Int) ≤ (i : Int) := by omega
     have hwi : wrap64 ((i : Int) + 1) = ((i + 1 : Nat) : Int) := by unfold wrap64; omega
     have HBS := zad.mk (fun (W : World) (hC : Kd.C k56 W Au out.length out) => zai.calls k Au cu out x.f0 (p : Int) t2 W hC (Kd.zcs HN.out).2.1 hbs); have HLX := zad.mk hlx; have HSM := zad.mk hsum; have HA2 := zad.mk hA; have HPO := zad.mk hpo; have HO := zad.mk ho; obtain ⟨g, hg⟩ : ∃ g, g = wr.heap.size := ⟨_, rfl⟩; have HGE := zad.mk hg; have HGB := zad.mk (show w.heap.size ≤ g by rw [hg]; exact HB.out.size); clear hbs hsum hA ho hx hdrop hin hFK hcc hFx hlx hpo HA hg
     have hup : ∀ w2 : World, Below (wr.alloc (.cells #[.string x.f0, .slice Ax x.f1.length cx1] 56)).heap.size (wr.alloc (.cells #[.string x.f0, .slice Ax x.f1.length cx1] 56)) w2 → Below wr.heap.size wr w2 ∧ w2.heap[wr.heap.size]? = some (.cells #[.string x.f0, .slice Ax x.f1.length cx1] 56 (0, 0)) := fun w2 h2 =>
      ⟨zbm (zbj (Below.refl _ _) _) (zbj (Below.refl wr.heap.size wr) (.cells #[.string x.f0, .slice Ax x.f1.length cx1] 56)).size h2, (h2.block _ (by rw [Mem.zfi]; exact Nat.lt_succ_self _)).trans (Mem.zeo wr #[.string x.f0, .slice Ax x.f1.length cx1] 56)⟩
     have HUP := zad.mk hup; clear hup; have HOWN := zad.mk (Kd.N_lt HN.out); cases t2
     case' false =>
      have ho := HO.out; rw [if_neg (by decide)] at ho; unfold zfx.f at ho; split at ho
      case isFalse => cases ho
      rename_i hcond; injection ho with ho
      have HOE := zad.mk ho; have HPL := zad.mk (show p ≤ out.length by have := hcond.2.1; omega); have HOL := zad.mk hcond.2.2.2; clear ho hcond
      go_wp2_with (first
       | (go_at_call 25; refine (HBS.out _ (Kd.F_now (Kd.F_alloc (Kd.N_F HN.out) _))).mono ?_; rintro e w4 ⟨rfl, hb⟩; have HU := zad.mk (HUP.out _ hb); have HN4 := zad.mk (Kd.zgd HN.out HU.out.1); have HB4 := zad.mk (zbm HB.out HB.out.size HU.out.1); have HX4 := zad.mk HU.out.2; (have hx0 : w4.cell? ⟨wr.heap.size, 0, none⟩ = some (.string x.f0) := (zcj HU.out.2 0).trans rfl); clear hb HU HN HB)
       | (go_at_call 28; refine (Mem.insC_N (d := k56) rfl w _ (fun k_ => ((P0_ k_ ∨ P1_ k_) ∨ w.heap.size ≤ k_)) (fun _ => False) (.slice Au out.length cu) w4.heap.size 1 #[.string x.f0, .slice none 0 0] out ⟨x.f0, []⟩ p (fun k => some k = (Value.slice Au out.length cu).ownBlock) (zbm HB4.out HB4.out.size (zbj (Below.refl _ _) _)) (Kd.zdl HN4.out _) (fun k hk => hk) (Mem.zeo _ _ _) (Nat.le_refl 1) HB4.out.size (fun e => Nat.lt_irrefl _ (Kd.N_lt HN4.out _ e.symm)) rfl (k56_mkF _ _ ⟨x.f0, []⟩ (A1 := none) (c1 := 0) (Nat.le_refl 0) (Kd.F_nil _ _ _)) (fun k h => h.elim) HPL.out HOL.out).mono ?_; rintro e w5 ⟨v5, rfl, hN5, hb5, hk5⟩; (rw [show out.take p ++ ([⟨x.f0, []⟩] ++ out.drop p) = o from HOE.out] at hN5); have HN5 := zad.mk (Kd.zdm (ok' := fun k_ => ((P0_ k_ ∨ P1_ k_) ∨ w.heap.size ≤ k_)) hN5 (fun k hk => hk.elim (fun h => h.elim id (fun h => h.elim)) (fun h => .inr h))); have HB5 := zad.mk hb5; have HBX := zad.mk (((hk5.2 wr.heap.size (by rw [Mem.zfi]; exact Nat.lt_succ_of_lt (zcn HX4.out)) (fun e => Nat.lt_irrefl _ (HOWN.out _ e.symm))).trans (Mem.alloc_elder w4 _ _ (zcn HX4.out))).trans HX4.out); clear hN5 hb5 hk5 HN4 HB4 HX4; obtain ⟨Au, cu, rfl⟩ := Kd.zdj HN5.out))
      clear HPL HOL HOE
     case' true =>
      obtain rfl : o = out := by have := HO.out; rw [if_pos rfl] at this; injection this with this; exact this.symm
      go_wp2_with (go_at_call 25; refine (HBS.out _ (Kd.F_now (Kd.F_alloc (Kd.N_F HN.out) _))).mono ?_; rintro e w5 ⟨rfl, hb⟩; have HU := zad.mk (HUP.out _ hb); have HN5 := zad.mk (Kd.zgd HN.out HU.out.1); have HB5 := zad.mk (zbm HB.out HB.out.size HU.out.1); have HBX := zad.mk HU.out.2; clear hb HU HN HB)
     all_goals
      have hpol := HPO.out; obtain ⟨gb, cap, hv, hgb1, hgb2, _⟩ := Kd.N_form HN5.out (by omega); injection hv with hvA _ hvc
      subst hvA; subst hvc; obtain ⟨cy, _, hFKy, hcy, hfzy⟩ := Kd.N_elem HN5.out z56 (p : Int) (by omega) (by omega); obtain ⟨y, hyd⟩ : ∃ y, y = zbg o (p : Int) := ⟨_, rfl⟩; have HYD := zad.mk hyd; rw [show o.getD ((p : Int)).toNat z56 = y from hyd.symm] at hFKy; obtain ⟨Ay, cy1, hce, hly, hFy⟩ := zhe hFKy; subst hce; have hy0 : w5.cell? ⟨gb, p * 2, none⟩ = some (.string y.f0) := hcy 0 _ rfl; have hy1 : w5.cell? ⟨gb, p * 2 + 1, none⟩ = some (.slice Ay y.f1.length cy1) := hcy 1 _ rfl; have hb1 : w5.cell? ⟨wr.heap.size, 1, none⟩ = some (.slice Ax x.f1.length cx1) := (zcj HBX.out 1).trans rfl; have HFY := zad.mk hFy; have HLY := zad.mk hly; have HGB1 := zad.mk hgb1; have HGB2 := zad.mk hgb2; have HFZ := zad.mk hfzy; have HCY := zad.mk hcy; have hplt : (p : Int) < (o.length : Int) := by omega
      have hp0 : (0 : Int) ≤ (p : Int) := by omega
      clear hyd hFKy hFy hly hgb1 hgb2 hfzy hcy hc0 hc1
      have hsumC : ∀ (W : World) (gn : Nat), Below w5.heap.size w5 W → W.heap[gn]? = some (.cells #[.slice Ay y.f1.length cy1, .slice Ax x.f1.length cx1] 54 (0, 0)) → w5.heap.size ≤ gn → Calls Tryd.prog 29 #[.slice (some ⟨gn, 0, none⟩) 2 2] W fun e w' => ∃ v6, e = .returned (.tuple #[v6, .int .i64 s2]) ∧ Kd.N k81 81 w' w5.heap.size (fun k_ => ((P0_ k_ ∨ P1_ k_) ∨ w.heap.size ≤ k_) ∧ k_ ≠ gb) v6 s1 ∧ Below w5.heap.size w5 w' := by
       intro W gn hW hgn hge; have hBw := HB5.out.size; have hg1 := HGB1.out; have hg2 := HGB2.out; have hF1 : Kd.F k81 W (fun k_ => ((P0_ k_ ∨ P1_ k_) ∨ w.heap.size ≤ k_) ∧ k_ ≠ gb) Ay y.f1.length y.f1 := Kd.zdk HFY.out hW; have hF2 : Kd.F k81 W (fun k_ => ((P0_ k_ ∨ P1_ k_) ∨ w.heap.size ≤ k_) ∧ k_ ≠ gb) Ax x.f1.length x.f1 := Kd.F_mono (HFX.out W (zbm HB5.out hBw hW)) (fun k hk => ⟨.inl (.inr hk.1), fun e => by have := hk.2; omega⟩); have hS := HSM.out; rw [show zbg o (p : Int) = y from HYD.out.symm] at hS; refine (zhb.calls k (fun k_ => ((P0_ k_ ∨ P1_ k_) ∨ w.heap.size ≤ k_) ∧ k_ ≠ gb) (some ⟨gn, 0, none⟩) 2 [y.f1, x.f1] s1 s2 W (zce.lit2 hgn ⟨.inr (by omega), by omega⟩ HLY.out HLX.out hF1 hF2) hS (HG.out.below (zbm HB5.out hBw hW))).mono ?_; rintro e w' ⟨v, rfl, hN, hb⟩; exact ⟨v, rfl, Kd.zij (Kd.zdm hN (fun k hk => hk.elim id (fun h => ⟨.inr (Nat.le_trans hBw (Nat.le_trans hW.size h)), fun e => by have := hW.size; omega⟩))) hW.size, zbm hW hW.size hb⟩
      have HSC := zad.mk hsumC; clear hsumC; have hltg := zcn HBX.out
      go_region_held3 (fun w' => w'.cell? ⟨gb, p * 2 + 1, none⟩ = some (.slice Ay y.f1.length cy1) ∧ w'.cell? ⟨wr.heap.size, 1, none⟩ = some (.slice Ax x.f1.length cx1))
       (first | go_keep | exact ⟨(hb6.cell (p := ⟨gb, p * 2 + 1, none⟩) HGB2.out).trans hy1, (hb6.cell (p := ⟨wr.heap.size, 1, none⟩) hltg).trans hb1⟩)
       (first | (go_at_call 29; refine (HSC.out _ _ (zdi (zbj (Below.refl _ _) _)) (Mem.zeo _ _ _) (Nat.le_refl _)).mono ?_; rintro e w6 ⟨v6, rfl, hN6, hb6⟩))
      obtain ⟨A6, c6, rfl⟩ := Kd.zdj hN6; have hz1 : w6.cell? ⟨gb, p * 2 + 1, none⟩ = some (.slice Ay y.f1.length cy1) := (hb6.cell (p := ⟨gb, p * 2 + 1, none⟩) HGB2.out).trans hy1; have hzf : w6.frozen? ⟨gb, p * 2 + 1, none⟩ = false := (hb6.frozen (p := ⟨gb, p * 2 + 1, none⟩) HGB2.out).trans (HFZ.out 1); have HN6 := zad.mk hN6; have HB6 := zad.mk hb6; have HY0 := zad.mk hy0; clear hN6 hb6 hy0 hy1 hb1; have hA := HA2.out; rw [show zbg o (p : Int) = y from HYD.out.symm] at hA
      by_cases hs : s2 = 0
      ·subst hs; rw [if_pos rfl] at hA; have HA3 := zad.mk hA; clear hA HA2 HSM; go_wp2; go_roundg (l1.length - (i + 1))
       case measure => have := hgg.out; omega
       case rel =>
        have hN := (Kd.N_seg (Kd.zgd HN5.out HB6.out) (p : Int) hp0 hplt (c := [.string y.f0, .slice Ay y.f1.length cy1]) (seg := [.slice A6 s1.length c6]) (j := 1) (x' := ⟨y.f0, s1⟩) (okp := fun k_ => ((P0_ k_ ∨ P1_ k_) ∨ w.heap.size ≤ k_) ∧ k_ ≠ gb) rfl (fun j u hu => (HB6.out.cell (p := ⟨gb, _, none⟩) HGB2.out).trans (HCY.out j u hu)) (Nat.le_refl 2) (k56_mkF w6 _ ⟨y.f0, s1⟩ (A1 := A6) (c1 := c6) (Kd.zcs HN6.out).2.1 (Kd.N_F HN6.out)) (fun k hk => hk)).1; refine ⟨i + 1, o.set p ⟨y.f0, s1⟩, some ⟨gb, 0, none⟩, cu, by rw [List.length_set], by go_num, ⟨by omega⟩, ⟨Nat.le_refl _⟩, HA3, ⟨hN⟩, ⟨Mem.below_setCells (zbm HB5.out HB5.out.size HB6.out) HGB1.out (p * 2 + 1) [.slice A6 s1.length c6]⟩⟩
      ·rw [if_neg hs] at hA; injection hA with hA; injection hA with hr1 hr2; subst hr1; subst hr2
       have hsb : (s2 != 0) = true := by simpa using hs
       clear HA2 HSM; go_wp2; go_ret2; exact ⟨_, rfl, Kd.zjb _ _ _ _ _, zbm HB5.out HB5.out.size HB6.out⟩
    ·obtain rfl : i = l1.length := by have := hi.out; omega
     have hA := HA.out; rw [List.drop_length] at hA; simp only [zce.l] at hA; obtain ⟨o2, hd, hA⟩ := Option.bind_eq_some_iff.1 hA; obtain ⟨b, hb, hA⟩ := Option.bind_eq_some_iff.1 hA; unfold zag.f at hd; split at hd
     case isFalse => cases hd
     rename_i hol; injection hd with hd
     have HDEL := zad.mk (zag.N w wr _ (.slice Au out.length cu) out (fun k => w.heap.size ≤ k) HB.out HN.out (fun k hk => Kd.zha HN.out k hk.symm) hol); have HOD := zad.mk (show (out.filter fun c => !zag.p c) = o2 from hd); have HST2 := zad.mk (fun (W : World) (hw : Below w.heap.size w W) (A : Option Addr) (c : Nat) (hC : Kd.C k56 W A o2.length o2) (hc : o2.length ≤ c) => zbr.calls k A c o2 b W hC hc hb (HG.out.below hw)); have HR := zad.mk hA; have hnl : ¬ (l1.length : Int) < (l1.length : Int) := by omega
     clear hd hb hA HA HN HB hgg hi
     cases b with
     | true =>
      have hR := HR.out; rw [if_pos rfl] at hR; injection hR with hR; injection hR with hr1 hr2; subst hr1; subst hr2
      clear HR
      go_wp2_with (first
       | (go_at_call 30; refine HDEL.out.mono ?_; rintro e w5 ⟨v5, rfl, hN, hb, _⟩; rw [HOD.out] at hN; obtain ⟨A5, c5, rfl⟩ := Kd.zdj hN; have HN5 := zad.mk hN; have HB5 := zad.mk hb; clear hN hb)
       | (go_at_call 22; refine (HST2.out _ HB5.out _ _ (Kd.zcs HN5.out).2.2 (Kd.zcs HN5.out).2.1).mono ?_; rintro e w6 ⟨rfl, hb⟩; have HN6 := zad.mk (Kd.zgd HN5.out hb); have HB6 := zad.mk (zbm HB5.out HB5.out.size hb); clear hb))
      go_ret2; exact ⟨_, rfl, HN6.out, HB6.out⟩
     | false =>
      have hR := HR.out; rw [if_neg (by decide)] at hR; injection hR with hR; injection hR with hr1 hr2; subst hr1; subst hr2
      clear HR
      go_wp2_with (first
       | (go_at_call 30; refine HDEL.out.mono ?_; rintro e w5 ⟨v5, rfl, hN, hb, _⟩; rw [HOD.out] at hN; obtain ⟨A5, c5, rfl⟩ := Kd.zdj hN; have HN5 := zad.mk hN; have HB5 := zad.mk hb; clear hN hb)
       | (go_at_call 22; refine (HST2.out _ HB5.out _ _ (Kd.zcs HN5.out).2.2 (Kd.zcs HN5.out).2.1).mono ?_; rintro e w6 ⟨rfl, hb⟩; have HB6 := zad.mk (zbm HB5.out HB5.out.size hb); clear hb))
      go_ret2; exact ⟨_, rfl, Kd.zjb _ _ _ _ _, HB6.out⟩

end Go.Proofs.YtchpbnabbjdfgaaDoor.P
