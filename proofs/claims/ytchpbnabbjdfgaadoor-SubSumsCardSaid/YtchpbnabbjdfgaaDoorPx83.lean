-- HALVED
import Derived.Test.YtchpbnabbjdfgaaDoorPx0
import Derived.Test.YtchpbnabbjdfgaaDoorPx70
namespace Go.Proofs.YtchpbnabbjdfgaaDoor.P
open Go.RowKit Go.Proofs.YtchpbnabbjdfgaaDoorW.PrintWords Go.Proofs.YtchpbnabbjdfgaaDoorW.PrintLast Go.Proofs.YtchpbnabbjdfgaaDoorW.PrintMore
attribute [local go_sem] zdz zer zel zem zdi zdj zea zeb   -- for this text's walks alone
set_option linter.unusedVariables false
set_option linter.unusedSimpArgs false
set_option maxHeartbeats 8000000
set_option maxRecDepth 100000
def sub_idle.f (a0_0 : Int) (a0_1 : Int) (l0_2 : List (S56)) (a0_3 : Int) (a0_4 : Int) (l0_5 : List (S41)) : Option (Int × Int × (List (S56)) × Int × Int × (List (S41))) := some (a0_0, a0_1, l0_2, 0, 0, ([] : List (S41)))
theorem sub_idle.calls (a0_0 : Int) (a0_1 : Int) (P0_2_ : Nat → Prop) (A0_2 : Option Addr) (c0_2 : Nat) (l0_2 : List (S56)) (a0_3 : Int) (a0_4 : Int) (A0_5 : Option Addr) (c0_5 : Nat) (l0_5 : List (S41)) (r1 : Int) (r2 : Int) (r3 : List (S56)) (r4 : Int) (r5 : Int) (r6 : List (S41)) (w : World) (hs0_2 : Kd.V k56 56 w w.heap.size (fun k_ => P0_2_ k_) (.slice A0_2 l0_2.length c0_2) l0_2) (hr0_5 : Kd.C k41 w A0_5 l0_5.length l0_5) (hc0_5 : l0_5.length ≤ c0_5) (h : sub_idle.f a0_0 a0_1 l0_2 a0_3 a0_4 l0_5 = some (r1, r2, r3, r4, r5, r6)) :
  Calls Tryd.prog 38 #[.agg #[.int .i64 a0_0, .int .i64 a0_1, .slice A0_2 l0_2.length c0_2, .int .i64 a0_3, .int .i64 a0_4, .slice A0_5 l0_5.length c0_5]] w fun e w' => ∃ v2_ v5_ : Value, e = .returned (.agg #[.int .i64 r1, .int .i64 r2, v2_, .int .i64 r4, .int .i64 r5, v5_]) ∧ Kd.V k56 56 w' w.heap.size (fun k_ => (P0_2_ k_ ∨ w.heap.size ≤ k_) ∧ some k_ ≠ (v5_ : Value).ownBlock) v2_ r3 ∧ Kd.R k41 41 w' w.heap.size (fun k_ => (w.heap.size ≤ k_)) v5_ r6 ∧ Below w.heap.size w w' := by
 have hu33 := Tryd.underlying33
 have HO0_2 := ak_ (show Kd.V k56 56 w w.heap.size (fun k_ => (P0_2_ k_ ∨ w.heap.size ≤ k_)) (.slice A0_2 l0_2.length c0_2) l0_2 from Kd.zao hs0_2 (fun k_ hk => .inl hk))
 have HR0_5 := ak_ hr0_5
 have HC0_5 := ak_ hc0_5
 clear hr0_5 hc0_5
 have HB := ak_ (Below.refl w.heap.size w)
 have H : (some (a0_0, a0_1, l0_2, 0, 0, ([] : List (S41)))) = some (r1, r2, r3, r4, r5, r6) := h
 clear h
 simp only [Option.some.injEq, Prod.mk.injEq] at H
 obtain ⟨rfl, rfl, rfl, rfl, rfl, rfl⟩ := H
 go_enter Tryd.func38, Tryd.ntmps38
 go_wp2_with (first | ((with_reducible refine gd_ 1 rfl ?_); refine by_ #[.int .i64 a0_0, .int .i64 a0_1, .slice A0_2 l0_2.length c0_2, .int .i64 a0_3, .int .i64 a0_4, .slice A0_5 l0_5.length c0_5] 33 ?_; intro gb230 hg w2 BK230 hb; have GE230 := ak_ (q2_ : w.heap.size ≤ gb230); replace HO0_2 := Ve_ q37_ hg hb; replace HB := bs_ hb; clear hb hg) | ((with_reducible refine gd_ 2 rfl ?_); refine by_ #[.int .i64 0, .int .i64 0, .slice none 0 0, .int .i64 0, .int .i64 0, .slice none 0 0] 33 ?_; intro gb231 hg w3 BK231 hb; have GE231 := ak_ (q2_ : w.heap.size ≤ gb231); have NB230_231 := ak_ ((by rw [hg]; exact Nat.ne_of_lt (zdh (g := gb230) (o := .cells #[.int .i64 a0_0, .int .i64 a0_1, .slice A0_2 l0_2.length c0_2, .int .i64 a0_3, .int .i64 a0_4, .slice A0_5 l0_5.length c0_5] 33 (0, 0)) (by (with_reducible repeat first | apply bN_ | apply bD_ | apply bA_); exact BK230.out)) : gb230 ≠ gb231)); have NB231_230 := ak_ ((by rw [hg]; exact Nat.ne_of_gt (zdh (g := gb230) (o := .cells #[.int .i64 a0_0, .int .i64 a0_1, .slice A0_2 l0_2.length c0_2, .int .i64 a0_3, .int .i64 a0_4, .slice A0_5 l0_5.length c0_5] 33 (0, 0)) (by (with_reducible repeat first | apply bN_ | apply bD_ | apply bA_); exact BK230.out)) : gb231 ≠ gb230)); replace HO0_2 := Ve_ q37_ hg hb; replace BK230 := ak_ (zdb (g := gb230) (o := .cells #[.int .i64 a0_0, .int .i64 a0_1, .slice A0_2 l0_2.length c0_2, .int .i64 a0_3, .int .i64 a0_4, .slice A0_5 l0_5.length c0_5] 33 (0, 0)) (by (with_reducible repeat first | apply bN_ | apply bD_ | apply bA_); exact BK230.out) hb); replace HB := bs_ hb; clear hb hg; have hn4 := np_ NB230_231; have hz5 := bc6_ (w := w3) BK230.out; have hz6 := bc6_ (w := w3) BK231.out))
 refine bodyPost_ret (results_cell_row rfl _ _ gb231 33 #[.int .i64 a0_0, .int .i64 a0_1, .slice A0_2 l0_2.length c0_2, .int .i64 0, .int .i64 0, .slice none 0 0] (0, 0) _ rfl (by (with_reducible repeat first | apply bN_ | apply bD_ | apply bA_); refine zci (cs := #[.int .i64 a0_0, .int .i64 a0_1, .slice A0_2 l0_2.length c0_2, .int .i64 0, .int .i64 0, .slice none 0 0]) ?_ 5 _ rfl; (with_reducible repeat first | apply bN_ | apply bD_ | apply bA_); refine zci (cs := #[.int .i64 a0_0, .int .i64 a0_1, .slice A0_2 l0_2.length c0_2, .int .i64 0, .int .i64 0, .slice none 0 0]) ?_ 4 _ rfl; (with_reducible repeat first | apply bN_ | apply bD_ | apply bA_); refine zci (cs := #[.int .i64 a0_0, .int .i64 a0_1, .slice A0_2 l0_2.length c0_2, .int .i64 0, .int .i64 0, .slice none 0 0]) ?_ 3 _ rfl; (with_reducible repeat first | apply bN_ | apply bD_ | apply bA_); refine zci (cs := #[.int .i64 a0_0, .int .i64 a0_1, .slice none 0 0, .int .i64 0, .int .i64 0, .slice none 0 0]) ?_ 2 _ rfl; (with_reducible repeat first | apply bN_ | apply bD_ | apply bA_); refine zci (cs := #[.int .i64 a0_0, .int .i64 0, .slice none 0 0, .int .i64 0, .int .i64 0, .slice none 0 0]) ?_ 1 _ rfl; (with_reducible repeat first | apply bN_ | apply bD_ | apply bA_); refine zci (cs := #[.int .i64 0, .int .i64 0, .slice none 0 0, .int .i64 0, .int .i64 0, .slice none 0 0]) ?_ 0 _ rfl; (with_reducible repeat first | apply bN_ | apply bD_ | apply bA_); refine zcp ?_ NB231_230.out _; (with_reducible repeat first | apply bN_ | apply bD_ | apply bA_); refine zcp ?_ NB231_230.out _; (with_reducible repeat first | apply bN_ | apply bD_ | apply bA_); refine zcp ?_ NB231_230.out _; (with_reducible repeat first | apply bN_ | apply bD_ | apply bA_); exact BK231.out) Tryd.underlying33 rfl (by kernel_rfl)) rfl ?_
 exact ⟨_, _, q5_, by (with_reducible repeat (first | apply Kd.zbg | apply Kd.zbf | apply Kd.zbl)); exact Kd.zao (Vf_ (Vf_ (Vf_ (Vf_ (Vf_ (Vf_ (Kd.zcr (p := ⟨gb230, 5, none⟩) (Kd.zcr (p := ⟨gb230, 4, none⟩) (Kd.zcr (p := ⟨gb230, 3, none⟩) (Kd.zao (Kd.zao HO0_2.out (fun k_ hk => (⟨hk, hk.1.2⟩ : _ ∧ k_ ≠ gb230))) (fun k_ hk => (⟨hk, hk.1.2⟩ : _ ∧ k_ ≠ gb231))) (fun _ hk => hk.1.2) (.int .i64 0)) (fun _ hk => hk.1.2) (.int .i64 0)) (fun _ hk => hk.1.2) (.slice none 0 0)))))))) (fun _ hk => ⟨hk.1.1.1.1, (by simp [Value.ownBlock])⟩), q52_, q0_⟩
def zgj.f (l0 : List S41) (a1 : Int) (l2 : List S41) : Option (List S41) := if 0 ≤ a1 ∧ a1 ≤ l0.length ∧ l2.length = 1 ∧ l0.length ≤ 1000000 then some (l0.take a1.toNat ++ (l2 ++ l0.drop a1.toNat)) else none
theorem zgj.calls : True := trivial
def zfu.f (l0 : List S41) : Option (List S41) := if l0.length ≤ 1000000 then some l0 else none
set_option maxHeartbeats 2000000 in
theorem zfu.calls (P_ : Nat → Prop) (A : Option Addr) (c : Nat) (l0 r : List S41) (w : World) (hs : Kd.V k41 41 w w.heap.size (fun k_ => P_ k_) (.slice A l0.length c) l0) (h : zfu.f l0 = some r) :
  Calls Tryd.prog 64 #[.slice A l0.length c] w fun e w' => ∃ v0_ : Value, e = .returned v0_ ∧ Kd.N k41 41 w' w.heap.size (fun k_ => (P_ k_ ∨ w.heap.size ≤ k_)) v0_ r ∧ Below w.heap.size w w' := by
 unfold zfu.f at h
 split at h
 case isFalse => cases h
 rename_i hl
 injection h with h
 subst h
 have q22 : ∀ (w : World) (a : Option Addr) (n c n' c' : Nat), (binOp .eql 31 (.slice a n c) (.slice none n' c')).run Tryd.prog w = .ok (.bool a.isNone) w := fun w a n c n' c' => Lib.run_eql_slice_nil w _ _ a n c n' c' Tryd.underlying31
 have HF := ak_ (Kd.ziy (Kd.zhc (Kd.V_F hs)) (.cells #[] 41))
 cases A with
 | none =>
  have e0 : l0 = [] := by
   have := (Kd.zbb hs).2.2.2.2
   cases l0 with
   | nil => rfl
   | cons x l => obtain ⟨ad, h1, _⟩ := this (by simp); cases h1
  subst e0
  clear hs HF
  go_enter Tryd.func64, Tryd.ntmps64
  go_wp2
  go_ret
  exact ⟨_, rfl, Kd.N_nil _ _ _ _ _, Below.refl _ _⟩
 | some ad =>
  clear hs
  go_enter Tryd.func64, Tryd.ntmps64
  go_wp2_with (at_builtin; refine Kd.zdv k41 (w0 := w) w.heap.size rfl _ _ 31 41 (.agg #[(.int .i64 0), (.int .i64 0), (.int .i64 0), (.int .i64 0), (.int .i64 0), (.slice none 0 0)]) 64 rfl Tryd.underlying31 (by kernel_rfl) rfl (by decide) (by omega) (.slice (some ⟨w.heap.size, 0, none⟩) 0 0) ([] : List S41) l0 (some ad) l0.length c (fun k_ => (P_ k_ ∨ w.heap.size ≤ k_)) (fun k => P_ k ∧ k < w.heap.size) rfl rfl (cl_made k41 41 w _ (.inr (Nat.le_refl _))) HF.out (fun k hk => ⟨.inl hk.1, by simp [Value.ownBlock]; have := hk.2; omega⟩) (fun k hk => .inr (by simp at hk; omega)) (zbt (Below.refl _ _) _) (by simp) (by simp; omega) ?_)
  intro v' w1 hown hb hg hat
  go_wp2
  go_ret
  exact ⟨v', rfl, hown, hb⟩
def zej.f (a0_0 : Int) (a0_1 : Int) (a0_2 : Int) (a0_3 : Int) (a0_4 : Int) (l0_5 : List (S56)) (a1 : Int) : Option (Int) := some (wrap64 (a0_3 - a1))
theorem zej.calls (a0_0 : Int) (a0_1 : Int) (a0_2 : Int) (a0_3 : Int) (a0_4 : Int) (A0_5 : Option Addr) (c0_5 : Nat) (l0_5 : List (S56)) (a1 : Int) (r : Int) (w : World) (hr0_5 : Kd.C k56 w A0_5 l0_5.length l0_5) (hc0_5 : l0_5.length ≤ c0_5) (h : zej.f a0_0 a0_1 a0_2 a0_3 a0_4 l0_5 a1 = some r) :
  Calls Tryd.prog 62 #[.agg #[.int .i64 a0_0, .int .i64 a0_1, .int .i64 a0_2, .int .i64 a0_3, .int .i64 a0_4, .slice A0_5 l0_5.length c0_5], .int .i64 a1] w fun e w' => e = .returned (.int .i64 r) ∧ Below w.heap.size w w' := by
 have hu41 := Tryd.underlying41
 have HR0_5 := ak_ hr0_5
 have HC0_5 := ak_ hc0_5
 clear hr0_5 hc0_5
 have HB := ak_ (Below.refl w.heap.size w)
 have H : (some (wrap64 (a0_3 - a1))) = some r := h
 clear h
 obtain rfl := Option.some.inj H
 go_enter Tryd.func62, Tryd.ntmps62
 go_wp2_with (first | ((with_reducible refine gd_ 2 rfl ?_); refine by_ #[.int .i64 a0_0, .int .i64 a0_1, .int .i64 a0_2, .int .i64 a0_3, .int .i64 a0_4, .slice A0_5 l0_5.length c0_5] 41 ?_; intro gb238 hg w3 BK238 hb; have GE238 := ak_ (q2_ : w.heap.size ≤ gb238); replace HB := bs_ hb; clear hb hg; have hz4 := bc6_ (w := w3) BK238.out))
 go_ret
 exact ⟨q5_, q0_⟩
def zam.l0 : Nat → List (S41) → Int → Int → Int → Int → Option (Int × Bool)
 | 0, _, _, _, _, _ => none
 | k + 1, x0, x1, x8, x9, x10 => if x9 < x10 then (if 0 ≤ (wrap64 ((IntKind.u64.wrap (wrap64 (x9 + x10))) / 2)) then (if (wrap64 ((IntKind.u64.wrap (wrap64 (x9 + x10))) / 2)) < (x0.length : Int) then ((zej.f ((zaa x0 (wrap64 ((IntKind.u64.wrap (wrap64 (x9 + x10))) / 2))).f0) ((zaa x0 (wrap64 ((IntKind.u64.wrap (wrap64 (x9 + x10))) / 2))).f1) ((zaa x0 (wrap64 ((IntKind.u64.wrap (wrap64 (x9 + x10))) / 2))).f2) ((zaa x0 (wrap64 ((IntKind.u64.wrap (wrap64 (x9 + x10))) / 2))).f3) ((zaa x0 (wrap64 ((IntKind.u64.wrap (wrap64 (x9 + x10))) / 2))).f4) ((zaa x0 (wrap64 ((IntKind.u64.wrap (wrap64 (x9 + x10))) / 2))).f5) x1).bind fun t242 => (if t242 < 0 then (zam.l0 k x0 x1 x8 (wrap64 ((wrap64 ((IntKind.u64.wrap (wrap64 (x9 + x10))) / 2)) + 1)) x10) else (zam.l0 k x0 x1 x8 x9 (wrap64 ((IntKind.u64.wrap (wrap64 (x9 + x10))) / 2))))) else (none)) else (none)) else (if x9 < x8 then (if 0 ≤ x9 then (if x9 < (x0.length : Int) then ((zej.f ((zaa x0 x9).f0) ((zaa x0 x9).f1) ((zaa x0 x9).f2) ((zaa x0 x9).f3) ((zaa x0 x9).f4) ((zaa x0 x9).f5) x1).bind fun t240 => (some (x9, (t240 == 0)))) else (none)) else (none)) else (some (x9, false)))
def zam.f (k : Nat) (l0 : List (S41)) (a1 : Int)  : Option (Int × Bool) := zam.l0 k l0 a1 (l0.length : Int) 0 (l0.length : Int)
theorem zam.zch : ∀ k, (∀ y0 y1 y2 y3 y4, LeO (zam.l0 k y0 y1 y2 y3 y4) (zam.l0 (k + 1) y0 y1 y2 y3 y4))
 | 0 => fun _ _ _ _ _ r h => by simp [zam.l0] at h
 | k + 1 => by
  have ih0 := zam.zch k
  ·intro y0 y1 y2 y3 y4
   unfold zam.l0
   with_reducible repeat' first
   | apply ih0
   | apply LeO.refl
   | apply LeO.none
   | refine LeO.ite ?_ ?_
   | refine LeO.bind ?_ (fun _ => ?_)
theorem zam.mono : ∀ a0 a1 k, LeO (zam.f k a0 a1) (zam.f (k + 1) a0 a1) := by
 intro a0 a1 k
 have ih0 := zam.zch k
 unfold zam.f
 with_reducible repeat' first
   | apply ih0
   | apply LeO.refl
   | apply LeO.none
   | refine LeO.ite ?_ ?_
   | refine LeO.bind ?_ (fun _ => ?_)
theorem zam.calls (k : Nat) (A0 : Option Addr) (c0 : Nat) (l0 : List (S41)) (a1 : Int)  (r1 : Int) (r2 : Bool) (w : World) (hr0 : Kd.C k41 w A0 l0.length l0) (hc0 : l0.length ≤ c0) (h : zam.f k l0 a1 = some (r1, r2)) :
  Calls Tryd.prog 61 #[.slice A0 l0.length c0, .int .i64 a1, (.func (.func 62) #[] #[])] w fun e w' => e = .returned (.tuple #[.int .i64 r1, .bool r2]) ∧ Below w.heap.size w w' := by
 have hu41 := Tryd.underlying41
 have HR0 := ak_ hr0
 have HC0 := ak_ hc0
 clear hr0 hc0
 have HB := ak_ (Below.refl w.heap.size w)
 have H : (zam.l0 k l0 a1 (l0.length : Int) 0 (l0.length : Int)) = some (r1, r2) := h
 clear h
 have H' := ak_ H
 clear H
 go_enter Tryd.func61, Tryd.ntmps61
 go_wp2
 go_loopg [9, 10] k (fun kq v9 v10 w' => ∃ (x9_1 : Int) (x10_1 : Int), v9 = .int .i64 x9_1 ∧ v10 = .int .i64 x10_1 ∧ zab (zam.l0 kq l0 a1 (l0.length : Int) x9_1 x10_1 = some (r1, r2)) ∧ zab (kq ≤ k) ∧ zab (Below w.heap.size w w'))
 case atStart => exact ⟨(0), ((l0.length : Int)), q8_, q8_, H', ⟨Nat.le_refl _⟩, ⟨q0_⟩⟩
 case round =>
  clear H'
  obtain ⟨x9_1, x10_1, rfl, rfl, HA, HK1, HB⟩ := hrel
  cases gk with
  | zero => exact absurd HA.out (by simp [zam.l0])
  | succ k1 =>
   have H := HA.out
   clear HA
   simp only [zam.l0] at H
   by_cases c4 : x9_1 < x10_1
   ·rw [if_pos c4] at H
    have c4b0 := decide_eq_true c4
    clear c4
    obtain ⟨ji5, hji5⟩ : ∃ j_ : Int, (wrap64 ((IntKind.u64.wrap (wrap64 (x9_1 + x10_1))) / 2)) = j_ := ⟨_, rfl⟩
    replace H : (if 0 ≤ (ji5) then (if (ji5) < (l0.length : Int) then ((zej.f ((zaa l0 (ji5)).f0) ((zaa l0 (ji5)).f1) ((zaa l0 (ji5)).f2) ((zaa l0 (ji5)).f3) ((zaa l0 (ji5)).f4) ((zaa l0 (ji5)).f5) a1).bind fun t242 => (if t242 < 0 then (zam.l0 k1 l0 a1 (l0.length : Int) (wrap64 ((ji5) + 1)) x10_1) else (zam.l0 k1 l0 a1 (l0.length : Int) x9_1 ji5))) else (none)) else (none)) = some (r1, r2) := by first | (rw [hji5] at H; exact H) | (simp only [hji5] at H ⊢; exact H)
    have hji5w : (IntKind.i64.wrap ((IntKind.u64.wrap (wrap64 (x9_1 + x10_1))) / 2)) = ji5 := (zhe _).trans hji5
    by_cases c6 : 0 ≤ (ji5)
    ·rw [if_pos c6] at H
     have c6b0 := decide_eq_true c6
     clear c6
     by_cases c7 : (ji5) < (l0.length : Int)
     ·rw [if_pos c7] at H
      have c7b0 := decide_eq_true c7
      clear c7
      obtain ⟨t242, A8, H⟩ := bi_ H
      try dsimp only at H
      have p241 : 0 ≤ ((ji5) : Int) := of_decide_eq_true q4_
      have q241 : (ji5) < (l0.length : Int) := of_decide_eq_true q4_
      obtain ⟨ad241, A241_5, c241_5, e241, hx241_0, hx241_1, hx241_2, hx241_3, hx241_4, hx241_5, hl241_5, hi241_5⟩ := zih HR0.out (ji5) p241 q241
      cases e241
      replace hx241_0 := hc_ HB.out hx241_0
      replace hx241_1 := hc_ HB.out hx241_1
      replace hx241_2 := hc_ HB.out hx241_2
      replace hx241_3 := hc_ HB.out hx241_3
      replace hx241_4 := hc_ HB.out hx241_4
      replace hx241_5 := hc_ HB.out hx241_5
      have HR241_5 := ak_ hi241_5
      have HC241_5 := ak_ hl241_5
      clear hi241_5 hl241_5
      replace p241 := eq_true p241
      replace q241 := eq_true q241
      by_cases c9 : t242 < 0
      ·rw [if_pos c9] at H
       have c9b0 := decide_eq_true c9
       clear c9
       have H' := ak_ H
       clear H
       go_wp2_with (first | ((with_reducible refine zdc (t := 24) rfl ?_); refine zgc (some 30) rfl rfl Tryd.func62 (by kernel_rfl) rfl #[.agg #[.int .i64 ((zaa l0 (ji5)).f0), .int .i64 ((zaa l0 (ji5)).f1), .int .i64 ((zaa l0 (ji5)).f2), .int .i64 ((zaa l0 (ji5)).f3), .int .i64 ((zaa l0 (ji5)).f4), .slice A241_5 ((zaa l0 (ji5)).f5).length c241_5], .int .i64 a1] rfl (by rfl) q113_ ?_; (with_reducible refine ca_ (zej.calls ((zaa l0 (ji5)).f0) ((zaa l0 (ji5)).f1) ((zaa l0 (ji5)).f2) ((zaa l0 (ji5)).f3) ((zaa l0 (ji5)).f4) _ _ ((zaa l0 (ji5)).f5) a1 t242 _ ?side1 HC241_5.out A8.out) ?_); (case side1 => exact cx_ (Kd.zcc HR241_5.out HB.out)); intro w10 hb; replace HB := bs_ hb; clear hb))
       go_roundg k1
       case measure => have := HK1.out; omega
       case rel => exact ⟨(wrap64 ((ji5) + 1)), (x10_1), q163_, q8_, H', ⟨kq_⟩, ⟨q0_⟩⟩
      ·rw [if_neg c9] at H
       have c9b0 := decide_eq_false c9
       clear c9
       have H' := ak_ H
       clear H
       go_wp2_with (first | ((with_reducible refine zdc (t := 24) rfl ?_); refine zgc (some 30) rfl rfl Tryd.func62 (by kernel_rfl) rfl #[.agg #[.int .i64 ((zaa l0 (ji5)).f0), .int .i64 ((zaa l0 (ji5)).f1), .int .i64 ((zaa l0 (ji5)).f2), .int .i64 ((zaa l0 (ji5)).f3), .int .i64 ((zaa l0 (ji5)).f4), .slice A241_5 ((zaa l0 (ji5)).f5).length c241_5], .int .i64 a1] rfl (by rfl) q113_ ?_; (with_reducible refine ca_ (zej.calls ((zaa l0 (ji5)).f0) ((zaa l0 (ji5)).f1) ((zaa l0 (ji5)).f2) ((zaa l0 (ji5)).f3) ((zaa l0 (ji5)).f4) _ _ ((zaa l0 (ji5)).f5) a1 t242 _ ?side1 HC241_5.out A8.out) ?_); (case side1 => exact cx_ (Kd.zcc HR241_5.out HB.out)); intro w11 hb; replace HB := bs_ hb; clear hb))
       go_roundg k1
       case measure => have := HK1.out; omega
       case rel => exact ⟨(x9_1), (ji5), q8_, q163_, H', ⟨kq_⟩, ⟨q0_⟩⟩
     ·rw [if_neg c7] at H
      exact absurd H (by simp)
    ·rw [if_neg c6] at H
     exact absurd H (by simp)
   ·rw [if_neg c4] at H
    have c4b0 := decide_eq_false c4
    clear c4
    by_cases c12 : x9_1 < (l0.length : Int)
    ·rw [if_pos c12] at H
     have c12b0 := decide_eq_true c12
     clear c12
     by_cases c13 : 0 ≤ x9_1
     ·rw [if_pos c13] at H
      have c13b0 := decide_eq_true c13
      clear c13
      by_cases c14 : x9_1 < (l0.length : Int)
      ·rw [if_pos c14] at H
       have c14b0 := decide_eq_true c14
       clear c14
       obtain ⟨t240, A15, H⟩ := bi_ H
       replace H : (some (x9_1, (t240 == 0))) = some (r1, r2) := H
       simp only [Option.some.injEq, Prod.mk.injEq] at H
       obtain ⟨rfl, rfl⟩ := H
       have p239 : 0 ≤ (x9_1 : Int) := of_decide_eq_true q4_
       have q239 : x9_1 < (l0.length : Int) := of_decide_eq_true q4_
       obtain ⟨ad239, A239_5, c239_5, e239, hx239_0, hx239_1, hx239_2, hx239_3, hx239_4, hx239_5, hl239_5, hi239_5⟩ := zih HR0.out x9_1 p239 q239
       cases e239
       replace hx239_0 := hc_ HB.out hx239_0
       replace hx239_1 := hc_ HB.out hx239_1
       replace hx239_2 := hc_ HB.out hx239_2
       replace hx239_3 := hc_ HB.out hx239_3
       replace hx239_4 := hc_ HB.out hx239_4
       replace hx239_5 := hc_ HB.out hx239_5
       have HR239_5 := ak_ hi239_5
       have HC239_5 := ak_ hl239_5
       clear hi239_5 hl239_5
       replace p239 := eq_true p239
       replace q239 := eq_true q239
       go_wp2_with (first | (go_at_call 62; (with_reducible refine (zej.calls ((zaa l0 x9_1).f0) ((zaa l0 x9_1).f1) ((zaa l0 x9_1).f2) ((zaa l0 x9_1).f3) ((zaa l0 x9_1).f4) _ _ ((zaa l0 x9_1).f5) a1 t240 _ ?side1 HC239_5.out A15.out).mono ?_); (case side1 => exact cx_ (Kd.zcc HR239_5.out HB.out)); rintro e w16 ⟨rfl, hb⟩; replace HB := bs_ hb; clear hb))
       go_ret2
       exact ⟨q5_, q0_⟩
      ·rw [if_neg c14] at H
       exact absurd H (by simp)
     ·rw [if_neg c13] at H
      exact absurd H (by simp)
    ·rw [if_neg c12] at H
     have c12b0 := decide_eq_false c12
     clear c12
     simp only [Option.some.injEq, Prod.mk.injEq] at H
     obtain ⟨rfl, rfl⟩ := H
     go_wp2
     go_ret2
     exact ⟨q5_, q0_⟩
def zbx.g (k : Nat) (id pos : Int) (st : List S56) (at_ of_ : Int) (got : List S41) : Option (Int × Int × List S56 × Int × Int × List S41) :=
 if (got.length : Int) < of_ then some (id, pos, st, at_, of_, got) else
 if (got.map (·.f5)).flatten.length ≤ 1000000 ∧ got.length ≤ 1000000 then (zck.f k [] (got.map (·.f5)).flatten).bind fun t => if t.2 = 0 then some (id, at_, t.1, 0, 0, []) else some (id, pos, st, 0, 0, []) else none
def zbx.h (k : Nat) (id pos : Int) (st : List S56) (at_ of_ : Int) (got : List S41) (n : S41) : Option (Int × Int × List S56 × Int × Int × List S41) :=
 if n.f2 = at_ ∧ n.f4 = of_ then ((zam.f k got n.f3).bind fun t =>
  (if t.2 = true then some got else (zfu.f got).bind fun c => zgj.f c t.1 [n]).bind fun g => zbx.g k id pos st at_ of_ g)
 else some (id, pos, st, at_, of_, got)
def zbx.f (k : Nat) (a0_0 a0_1 : Int) (l0_2 : List S56) (a0_3 a0_4 : Int) (l0_5 : List S41) (a1_0 a1_1 a1_2 a1_3 a1_4 : Int) (l1_5 : List S56) : Option (Int × Int × List S56 × Int × Int × List S41) :=
 if a0_3 = 0 ∨ a1_2 > a0_3 then zbx.h k a0_0 a0_1 l0_2 a1_2 a1_4 [] ⟨a1_0, a1_1, a1_2, a1_3, a1_4, l1_5⟩ else zbx.h k a0_0 a0_1 l0_2 a0_3 a0_4 l0_5 ⟨a1_0, a1_1, a1_2, a1_3, a1_4, l1_5⟩
theorem zbx.mono_g (k : Nat) (a b c d e f) : LeO (zbx.g k a b c d e f) (zbx.g (k + 1) a b c d e f) := LeO.ite (LeO.refl _) (LeO.ite (LeO.bind (zck.mono _ _ _) fun t => LeO.refl _) (LeO.refl _))
theorem zbx.mono_h (k : Nat) (a b c d e f n) : LeO (zbx.h k a b c d e f n) (zbx.h (k + 1) a b c d e f n) := LeO.ite (LeO.bind (zam.mono _ _ _) fun t => LeO.bind (LeO.refl _) fun g => zbx.mono_g k _ _ _ _ _ g) (LeO.refl _)
theorem zbx.mono : ∀ a0_0 a0_1 a0_2 a0_3 a0_4 a0_5 a1_0 a1_1 a1_2 a1_3 a1_4 a1_5 k, LeO (zbx.f k a0_0 a0_1 a0_2 a0_3 a0_4 a0_5 a1_0 a1_1 a1_2 a1_3 a1_4 a1_5) (zbx.f (k + 1) a0_0 a0_1 a0_2 a0_3 a0_4 a0_5 a1_0 a1_1 a1_2 a1_3 a1_4 a1_5) := by
 exact fun _ _ _ _ _ _ _ _ _ _ _ _ k => LeO.ite (zbx.mono_h k _ _ _ _ _ _ _) (zbx.mono_h k _ _ _ _ _ _ _)
theorem zbx.anew (w : World) (o : Obj) : w.heap.size < (w.alloc o).heap.size := by rw [Mem.zhq]; exact Nat.lt_succ_self _
theorem zbx.fill6 {w : World} {g t : Nat} {u0 u1 u2 u3 u4 u5 v0 v1 v2 v3 v4 v5 : Value} (h : w.heap[g]? = some (.cells #[u0, u1, u2, u3, u4, u5] t (0, 0))) :
  (w.setCells g 0 [v0, v1, v2, v3, v4, v5]).heap[g]? = some (.cells #[v0, v1, v2, v3, v4, v5] t (0, 0)) :=
 zci (zci (zci (zci (zci (zci h 0 v0 rfl) 1 v1 rfl) 2 v2 rfl) 3 v3 rfl) 4 v4 rfl) 5 v5 rfl
theorem zbx.calls (k : Nat) (a0_0 a0_1 : Int) (P0_2_ : Nat → Prop) (A0_2 : Option Addr) (c0_2 : Nat) (l0_2 : List S56) (a0_3 a0_4 : Int) (P0_5_ : Nat → Prop) (A0_5 : Option Addr) (c0_5 : Nat) (l0_5 : List S41) (a1_0 a1_1 a1_2 a1_3 a1_4 : Int) (P1_5_ : Nat → Prop) (A1_5 : Option Addr) (c1_5 : Nat) (l1_5 : List S56) (r1 r2 : Int) (r3 : List S56) (r4 r5 : Int) (r6 : List S41) (w : World)
  (hs0_2 : Kd.V k56 56 w w.heap.size (fun k_ => P0_2_ k_) (.slice A0_2 l0_2.length c0_2) l0_2) (hs0_5 : Kd.V k41 41 w w.heap.size (fun k_ => P0_5_ k_) (.slice A0_5 l0_5.length c0_5) l0_5) (hs1_5 : Kd.V k56 56 w w.heap.size (fun k_ => P1_5_ k_) (.slice A1_5 l1_5.length c1_5) l1_5)
  (h : zbx.f k a0_0 a0_1 l0_2 a0_3 a0_4 l0_5 a1_0 a1_1 a1_2 a1_3 a1_4 l1_5 = some (r1, r2, r3, r4, r5, r6)) (hG : Glob w) :
  Calls Tryd.prog 39 #[.agg #[.int .i64 a0_0, .int .i64 a0_1, .slice A0_2 l0_2.length c0_2, .int .i64 a0_3, .int .i64 a0_4, .slice A0_5 l0_5.length c0_5], .agg #[.int .i64 a1_0, .int .i64 a1_1, .int .i64 a1_2, .int .i64 a1_3, .int .i64 a1_4, .slice A1_5 l1_5.length c1_5]] w fun e w' => ∃ v2_ v5_ : Value, e = .returned (.agg #[.int .i64 r1, .int .i64 r2, v2_, .int .i64 r4, .int .i64 r5, v5_]) ∧
   Kd.V k56 56 w' w.heap.size (fun k_ => (P0_2_ k_ ∨ P0_5_ k_ ∨ P1_5_ k_) ∨ w.heap.size ≤ k_) v2_ r3 ∧ Kd.V k41 41 w' w.heap.size (fun k_ => (P0_2_ k_ ∨ P0_5_ k_ ∨ P1_5_ k_) ∨ w.heap.size ≤ k_) v5_ r6 ∧ Below w.heap.size w w' := by
 have hu33 := Tryd.underlying33
 have hu41 := Tryd.underlying41
 have HF2 := zab.mk (fun (W : World) (hb : Below w.heap.size w W) => Kd.zdp (Kd.zhc (Kd.V_F hs0_2)) hb)
 have HF5 := zab.mk (fun (W : World) (hb : Below w.heap.size w W) => Kd.zdp (Kd.zhc (Kd.V_F hs0_5)) hb)
 have HFN := zab.mk (fun (W : World) (hb : Below w.heap.size w W) => Kd.zdp (Kd.zhc (Kd.V_F hs1_5)) hb)
 have HC2 := zab.mk (Kd.zbb hs0_2).2.1
 have HC5 := zab.mk (Kd.zbb hs0_5).2.1
 have HCN := zab.mk (Kd.zbb hs1_5).2.1
 have HG := zab.mk hG
 have H := zab.mk h
 clear hs0_2 hs0_5 hs1_5 hG h
 go_enter Tryd.func39, Tryd.ntmps39
 go_upto_region 1 with (first
  | ((with_reducible refine gate_dst (N := 2) rfl ?_); refine zja ?hg (N := 2) ?hd (cs := #[.int .i64 a0_0, .int .i64 a0_1, .slice A0_2 l0_2.length c0_2, .int .i64 a0_3, .int .i64 a0_4, .slice A0_5 l0_5.length c0_5]) (t := 33) ?hr ?_; (case hd => rfl); (case hg => rfl); (case hr => first | (go_simp; done) | (go_simp; rfl)); intro g0 hg0 w1 hx0 hb0; have X0 := zab.mk hx0; have B0 := zab.mk hb0; have E0 := zab.mk hg0; clear hx0 hb0 hg0)
  | ((with_reducible refine gate_dst (N := 3) rfl ?_); refine zja ?hg (N := 3) ?hd (cs := #[.int .i64 a1_0, .int .i64 a1_1, .int .i64 a1_2, .int .i64 a1_3, .int .i64 a1_4, .slice A1_5 l1_5.length c1_5]) (t := 41) ?hr ?_; (case hd => rfl); (case hg => rfl); (case hr => first | (go_simp; done) | (go_simp; rfl)); intro g1 hg1 w2 hx1 hb1; have X1 := zab.mk hx1; have B1 := zab.mk hb1; have E1 := zab.mk hg1; clear hx1 hb1 hg1)
  | ((with_reducible refine gate_dst (N := 4) rfl ?_); refine zja ?hg (N := 4) ?hd (cs := #[.int .i64 0, .int .i64 0, .slice none 0 0, .int .i64 0, .int .i64 0, .slice none 0 0]) (t := 33) ?hr ?_; (case hd => rfl); (case hg => rfl); (case hr => first | (go_simp; done) | (go_simp; rfl)); intro g2 hg2 w3 hx2 hb2; have HB := zab.mk (zcl B0.out B0.out.size (zcl B1.out B1.out.size hb2)); have K0 := zab.mk ((zcl B1.out B1.out.size hb2).block g0 (zdh X0.out) |>.trans X0.out); have K1 := zab.mk ((hb2.block g1 (zdh X1.out)).trans X1.out); have K2 := zab.mk hx2; have GG := zab.mk (show w.heap.size ≤ g0 ∧ g0 < g1 ∧ g1 < g2 from ⟨Nat.le_of_eq E0.out.symm, by rw [E1.out]; exact zdh X0.out, by rw [hg2]; exact zdh X1.out⟩); clear hx2 hb2 hg2 X0 X1 B0 B1 E0 E1; have hc0 := fun i => zbe K0.out i; have hc1 := fun i => zbe K1.out i; (have hc03 : w3.cell? ⟨g0, 3, none⟩ = some (.int .i64 a0_3) := (hc0 3).trans rfl); (have hc12 : w3.cell? ⟨g1, 2, none⟩ = some (.int .i64 a1_2) := (hc1 2).trans rfl); (have hc14 : w3.cell? ⟨g1, 4, none⟩ = some (.int .i64 a1_4) := (hc1 4).trans rfl); (have hc04 : w3.cell? ⟨g0, 4, none⟩ = some (.int .i64 a0_4) := (hc0 4).trans rfl); (have hc05 : w3.cell? ⟨g0, 5, none⟩ = some (.slice A0_5 l0_5.length c0_5) := (hc0 5).trans rfl); have hf0 := zaf K0.out; (have hn01 : g0 ≠ g1 := by have := GG.out; omega); (have hn10 : g1 ≠ g0 := by have := GG.out; omega); clear hc0 hc1))
 obtain ⟨bA, hbA⟩ : ∃ b : Bool, b = decide (a0_3 = 0 ∨ a1_2 > a0_3) := ⟨_, rfl⟩
 have HBA := zab.mk hbA
 clear hbA
 simp only [Act.put, List.setIfInBounds_toArray, List.set_cons_zero, List.set_cons_succ]
 go_cut [21] (fun s21 wx => s21 = .bool bA ∧ wx = w3)
 case first =>
  have hcase : a0_3 = 0 ∨ (a0_3 ≠ 0 ∧ a1_2 > a0_3) ∨ (a0_3 ≠ 0 ∧ ¬ a1_2 > a0_3) := by omega
  rcases hcase with hz | ⟨hz, hgt⟩ | ⟨hz, hgt⟩
  ·have hq1 : (a0_3 == 0) = true := by simpa using hz
   have HQ := zab.mk (show bA = true by rw [HBA.out]; exact decide_eq_true (.inl hz))
   clear hz
   go_wp2_with fail
   go_meet
   exact ⟨by rw [HQ.out], rfl⟩
  ·have hq1 : (a0_3 == 0) = false := by simpa using hz
   have HQ := zab.mk (show bA = true by rw [HBA.out]; exact decide_eq_true (.inr hgt))
   have hgd : decide (a0_3 < a1_2) = true := decide_eq_true hgt
   clear hz hgt
   go_wp2_with fail
   go_meet
   exact ⟨by rw [HQ.out], rfl⟩
  ·have hq1 : (a0_3 == 0) = false := by simpa using hz
   have HQ := zab.mk (show bA = false by rw [HBA.out]; exact decide_eq_false (fun h => h.elim hz hgt))
   have hgd : decide (a0_3 < a1_2) = false := decide_eq_false hgt
   clear hz hgt
   go_wp2_with fail
   go_meet
   exact ⟨by rw [HQ.out], rfl⟩
 case rest =>
  obtain ⟨rfl, rfl⟩ := hcut
  go_upto_if 21 with (fail)
  go_cut [] (fun wx => zab (∃ (atv ofv : Int) (got : List S41) (Ag : Option Addr) (cg : Nat), wx.heap[g0]? = some (.cells #[.int .i64 a0_0, .int .i64 a0_1, .slice A0_2 l0_2.length c0_2, .int .i64 atv, .int .i64 ofv, .slice Ag got.length cg] 33 (0, 0)) ∧ wx.heap[g1]? = some (.cells #[.int .i64 a1_0, .int .i64 a1_1, .int .i64 a1_2, .int .i64 a1_3, .int .i64 a1_4, .slice A1_5 l1_5.length c1_5] 41 (0, 0)) ∧ wx.heap[g2]? = some (.cells #[.int .i64 0, .int .i64 0, .slice none 0 0, .int .i64 0, .int .i64 0, .slice none 0 0] 33 (0, 0)) ∧ Below w.heap.size w wx ∧
   zbx.h k a0_0 a0_1 l0_2 atv ofv got ⟨a1_0, a1_1, a1_2, a1_3, a1_4, l1_5⟩ = some (r1, r2, r3, r4, r5, r6) ∧ got.length ≤ cg ∧ (∀ W, Below w.heap.size w W → Kd.F k41 W (fun k => P0_5_ k ∧ k < w.heap.size) Ag got.length got)))
  case first =>
   cases bA with
   | true =>
    have HZ := zab.mk (of_decide_eq_true HBA.out.symm)
    go_wp2_with fail
    go_region_held3 (fun w' => w'.cell? ⟨g1, 2, none⟩ = some (.int .i64 a1_2) ∧ w'.cell? ⟨g1, 4, none⟩ = some (.int .i64 a1_4)) (first | go_keep) (first | fail)
    go_wp2_with fail
    go_meet
    refine ⟨?_⟩
    exact ⟨a1_2, a1_4, [], none, 0, zci (zci (zci K0.out 3 _ rfl) 4 _ rfl) 5 _ rfl, ((Mem.zbw g0 [.int .i64 a1_2, .int .i64 a1_4, .slice none 0 0] 3 _).2.2.2.2 g1 (by have := GG.out; omega)).trans K1.out, ((Mem.zbw g0 [.int .i64 a1_2, .int .i64 a1_4, .slice none 0 0] 3 _).2.2.2.2 g2 (by have := GG.out; omega)).trans K2.out,
     zeh (Mem.below_setCells HB.out GG.out.1 3 [.int .i64 a1_2, .int .i64 a1_4, .slice none 0 0]), by have := H.out; unfold zbx.f at this; rw [if_pos HZ.out] at this; exact this, Nat.zero_le _, fun W _ => Kd.F_nil _ _ _⟩
   | false =>
    have HZ := zab.mk (of_decide_eq_false HBA.out.symm)
    go_wp2_with fail
    go_meet
    refine ⟨?_⟩
    exact ⟨a0_3, a0_4, l0_5, A0_5, c0_5, K0.out, K1.out, K2.out, HB.out, by have := H.out; unfold zbx.f at this; rw [if_neg HZ.out] at this; exact this, HC5.out, HF5.out⟩
  case rest =>
   clear K0 K1 K2 HB HBA H hc03 hc04 hc05 hc12 hc14 hf0 hn01 hn10
   obtain ⟨atv, ofv, got, Ag, cg, K0, K1, K2, HB, H, hcg, hfg⟩ := hcut.out
   replace K0 := zab.mk K0
   replace K1 := zab.mk K1
   replace K2 := zab.mk K2
   replace HB := zab.mk HB
   replace H := zab.mk H
   have HCG := zab.mk hcg
   have HFG := zab.mk hfg
   clear hcg hfg hcut
   obtain ⟨wr, hwr⟩ : ∃ W, W = wc := ⟨_, rfl⟩
   subst hwr
   have c00 : wr.cell? ⟨g0, 0, none⟩ = some (.int .i64 a0_0) := (zbe K0.out 0).trans rfl
   have c01 : wr.cell? ⟨g0, 1, none⟩ = some (.int .i64 a0_1) := (zbe K0.out 1).trans rfl
   have c02 : wr.cell? ⟨g0, 2, none⟩ = some (.slice A0_2 l0_2.length c0_2) := (zbe K0.out 2).trans rfl
   have c03 : wr.cell? ⟨g0, 3, none⟩ = some (.int .i64 atv) := (zbe K0.out 3).trans rfl
   have c04 : wr.cell? ⟨g0, 4, none⟩ = some (.int .i64 ofv) := (zbe K0.out 4).trans rfl
   have c05 : wr.cell? ⟨g0, 5, none⟩ = some (.slice Ag got.length cg) := (zbe K0.out 5).trans rfl
   have d2 : wr.cell? ⟨g1, 2, none⟩ = some (.int .i64 a1_2) := (zbe K1.out 2).trans rfl
   have d3 : wr.cell? ⟨g1, 3, none⟩ = some (.int .i64 a1_3) := (zbe K1.out 3).trans rfl
   have d4 : wr.cell? ⟨g1, 4, none⟩ = some (.int .i64 a1_4) := (zbe K1.out 4).trans rfl
   have hm3 : (a1_2 ≠ atv ∨ (a1_2 = atv ∧ a1_4 ≠ ofv)) ∨ (a1_2 = atv ∧ a1_4 = ofv) := by omega
   rcases hm3 with hm | ⟨hm1, hm2⟩
   ·have hH := H.out
    unfold zbx.h at hH
    rw [if_neg (show ¬ (a1_2 = atv ∧ a1_4 = ofv) by omega)] at hH
    simp only [Option.some.injEq, Prod.mk.injEq] at hH
    obtain ⟨rfl, rfl, rfl, rfl, rfl, rfl⟩ := hH
    clear H
    have z0 : wr.cell? ⟨g2, 0, none⟩ = some (.int .i64 0) := (zbe K2.out 0).trans rfl
    have z1 : wr.cell? ⟨g2, 1, none⟩ = some (.int .i64 0) := (zbe K2.out 1).trans rfl
    have z2 : wr.cell? ⟨g2, 2, none⟩ = some (.slice none 0 0) := (zbe K2.out 2).trans rfl
    have z3 : wr.cell? ⟨g2, 3, none⟩ = some (.int .i64 0) := (zbe K2.out 3).trans rfl
    have z4 : wr.cell? ⟨g2, 4, none⟩ = some (.int .i64 0) := (zbe K2.out 4).trans rfl
    have z5 : wr.cell? ⟨g2, 5, none⟩ = some (.slice none 0 0) := (zbe K2.out 5).trans rfl
    have zf := zaf K2.out
    have hend : ∃ v2_ v5_ : Value, (.agg #[.int .i64 a0_0, .int .i64 a0_1, .slice A0_2 l0_2.length c0_2, .int .i64 atv, .int .i64 ofv, .slice Ag got.length cg] : Value) = .agg #[.int .i64 a0_0, .int .i64 a0_1, v2_, .int .i64 atv, .int .i64 ofv, v5_] ∧
      Kd.V k56 56 (wr.setCells g2 0 [.int .i64 a0_0, .int .i64 a0_1, .slice A0_2 l0_2.length c0_2, .int .i64 atv, .int .i64 ofv, .slice Ag got.length cg]) w.heap.size (fun k_ => (P0_2_ k_ ∨ P0_5_ k_ ∨ P1_5_ k_) ∨ w.heap.size ≤ k_) v2_ l0_2 ∧ Kd.V k41 41 (wr.setCells g2 0 [.int .i64 a0_0, .int .i64 a0_1, .slice A0_2 l0_2.length c0_2, .int .i64 atv, .int .i64 ofv, .slice Ag got.length cg]) w.heap.size (fun k_ => (P0_2_ k_ ∨ P0_5_ k_ ∨ P1_5_ k_) ∨ w.heap.size ≤ k_) v5_ got ∧ Below w.heap.size w (wr.setCells g2 0 [.int .i64 a0_0, .int .i64 a0_1, .slice A0_2 l0_2.length c0_2, .int .i64 atv, .int .i64 ofv, .slice Ag got.length cg]) := by
     have hB := Mem.below_setCells HB.out (show w.heap.size ≤ g2 by have := GG.out; omega) 0 [.int .i64 a0_0, .int .i64 a0_1, .slice A0_2 l0_2.length c0_2, .int .i64 atv, .int .i64 ofv, .slice Ag got.length cg]
     exact ⟨_, _, rfl, Kd.V_mk HC2.out (Kd.zhf (HF2.out _ hB) (fun k hk => .inl (.inl hk.1))), Kd.V_mk HCG.out (Kd.zhf (HFG.out _ hB) (fun k hk => .inl (.inr (.inl hk.1)))), hB⟩
    have HEND := zab.mk hend
    have HROW := zab.mk (zbx.fill6 (v0 := .int .i64 a0_0) (v1 := .int .i64 a0_1) (v2 := .slice A0_2 l0_2.length c0_2) (v3 := .int .i64 atv) (v4 := .int .i64 ofv) (v5 := .slice Ag got.length cg) K2.out)
    clear hend
    rcases hm with hm | ⟨hm, hm4⟩
    ·have q1 : (a1_2 != atv) = true := by simpa using hm
     clear hm
     go_wp2
     refine bodyPost_ret (results_cell_row rfl _ _ g2 33 _ (0, 0) _ rfl HROW.out hu33 rfl (by kernel_rfl)) rfl ?_
     obtain ⟨v2, v5, he, hr⟩ := HEND.out
     exact ⟨v2, v5, by rw [← he], hr⟩
    ·have q1 : (a1_2 != atv) = false := by simpa using hm
     have q2 : (a1_4 != ofv) = true := by simpa using hm4
     clear hm hm4
     go_wp2
     refine bodyPost_ret (results_cell_row rfl _ _ g2 33 _ (0, 0) _ rfl HROW.out hu33 rfl (by kernel_rfl)) rfl ?_
     obtain ⟨v2, v5, he, hr⟩ := HEND.out
     exact ⟨v2, v5, by rw [← he], hr⟩
   ·have hH := H.out
    unfold zbx.h at hH
    rw [if_pos (show a1_2 = atv ∧ a1_4 = ofv from ⟨hm1, hm2⟩)] at hH
    obtain ⟨⟨t1, t2⟩, hbs, hH⟩ := Option.bind_eq_some_iff.1 hH
    obtain ⟨got2, hins, hH⟩ := Option.bind_eq_some_iff.1 hH
    simp only [] at hins
    have q1 : (a1_2 != atv) = false := by simpa using hm1
    have q2 : (a1_4 != ofv) = false := by simpa using hm2
    have HBS := zab.mk (fun (W : World) (hw : Below w.heap.size w W) => zam.calls k Ag cg got a1_3 t1 t2 W (Kd.F_now (HFG.out W hw)) HCG.out hbs)
    replace H := zab.mk hH
    have HINS := zab.mk hins
    have hgl := zab.mk (show g0 < wr.heap.size ∧ g1 < wr.heap.size ∧ g2 < wr.heap.size from ⟨zdh K0.out, zdh K1.out, zdh K2.out⟩)
    clear hH hbs hins hm1 hm2
    go_upto_if 51 with (go_at_call 61; refine (HBS.out _ HB.out).mono ?_; rintro e w5 ⟨rfl, hb⟩; have HB5 := zab.mk hb; clear hb c00 c01 c02 c03 c04 c05 d2 d3 d4)
    go_cut [] (fun wx => zab (∃ (Ag2 : Option Addr) (cg2 : Nat), wx.heap[g0]? = some (.cells #[.int .i64 a0_0, .int .i64 a0_1, .slice A0_2 l0_2.length c0_2, .int .i64 atv, .int .i64 ofv, .slice Ag2 got2.length cg2] 33 (0, 0)) ∧ wx.heap[g2]? = some (.cells #[.int .i64 0, .int .i64 0, .slice none 0 0, .int .i64 0, .int .i64 0, .slice none 0 0] 33 (0, 0)) ∧ Below w.heap.size w wx ∧ got2.length ≤ cg2 ∧ Kd.F k41 wx (fun k => ((P0_5_ k ∨ P1_5_ k) ∨ w.heap.size ≤ k) ∧ k ≠ g0 ∧ k ≠ g2) Ag2 got2.length got2))
    case first =>
     have HBB5 := zab.mk (zcl HB.out HB.out.size HB5.out)
     have k50 := (HB5.out.block g0 hgl.out.1).trans K0.out
     have k52 := (HB5.out.block g2 hgl.out.2.2).trans K2.out
     have K50 := zab.mk k50
     have K52 := zab.mk k52
     clear k50 k52
     cases t2 with
     | true =>
      have hins := HINS.out
      rw [if_pos rfl] at hins
      injection hins with hins
      subst hins
      clear HINS
      go_wp2_with fail
      go_meet
      refine ⟨?_⟩
      exact ⟨Ag, cg, K50.out, K52.out, HBB5.out, HCG.out, Kd.zhf (HFG.out _ HBB5.out) (fun k hk => ⟨.inl (.inl hk.1), fun e => by have := GG.out; have := hk.2; omega, fun e => by have := GG.out; have := hk.2; omega⟩)⟩
     | false =>
      have c05 : w5.cell? ⟨g0, 5, none⟩ = some (.slice Ag got.length cg) := (HB5.out.cell (p := ⟨g0, 5, none⟩) hgl.out.1).trans ((zbe K0.out 5).trans rfl)
      have d0 : w5.cell? ⟨g1, 0, none⟩ = some (.int .i64 a1_0) := (HB5.out.cell (p := ⟨g1, 0, none⟩) hgl.out.2.1).trans ((zbe K1.out 0).trans rfl)
      have d1 : w5.cell? ⟨g1, 1, none⟩ = some (.int .i64 a1_1) := (HB5.out.cell (p := ⟨g1, 1, none⟩) hgl.out.2.1).trans ((zbe K1.out 1).trans rfl)
      have d2 : w5.cell? ⟨g1, 2, none⟩ = some (.int .i64 a1_2) := (HB5.out.cell (p := ⟨g1, 2, none⟩) hgl.out.2.1).trans ((zbe K1.out 2).trans rfl)
      have d3 : w5.cell? ⟨g1, 3, none⟩ = some (.int .i64 a1_3) := (HB5.out.cell (p := ⟨g1, 3, none⟩) hgl.out.2.1).trans ((zbe K1.out 3).trans rfl)
      have d4 : w5.cell? ⟨g1, 4, none⟩ = some (.int .i64 a1_4) := (HB5.out.cell (p := ⟨g1, 4, none⟩) hgl.out.2.1).trans ((zbe K1.out 4).trans rfl)
      have d5 : w5.cell? ⟨g1, 5, none⟩ = some (.slice A1_5 l1_5.length c1_5) := (HB5.out.cell (p := ⟨g1, 5, none⟩) hgl.out.2.1).trans ((zbe K1.out 5).trans rfl)
      have f05 : w5.frozen? ⟨g0, 5, none⟩ = false := (HB5.out.frozen (p := ⟨g0, 5, none⟩) hgl.out.1).trans (zaf K0.out 5)
      have hins := HINS.out
      rw [if_neg (by decide)] at hins
      obtain ⟨gc, hgc, hins⟩ := Option.bind_eq_some_iff.1 hins
      unfold zgj.f at hins
      split at hins
      case isFalse => cases hins
      rename_i hcond
      injection hins with hins
      have hB5 := HBB5.out
      have hg5 : g0 < w5.heap.size ∧ g1 < w5.heap.size ∧ g2 < w5.heap.size := by have := hgl.out; have := HB5.out.size; omega
      have hcl : ∀ W : World, Below w5.heap.size w5 W → Calls Tryd.prog 64 #[.slice Ag got.length cg] W fun e w' => ∃ v0 : Value, e = .returned v0 ∧ Kd.N k41 41 w' w5.heap.size (fun k_ => (P0_5_ k_ ∧ k_ < w.heap.size) ∨ w5.heap.size ≤ k_) v0 gc ∧ Below W.heap.size W w' ∧ (∀ k, v0.ownBlock = some k → W.heap.size ≤ k) ∧ Below w5.heap.size w5 w' := fun W hw =>
       (zfu.calls (fun k => P0_5_ k ∧ k < w.heap.size) Ag cg got gc W (Kd.V_mk HCG.out (HFG.out W (zcl hB5 hB5.size hw))) hgc).mono (fun e w' ⟨v0, he, hN, hb⟩ => ⟨v0, he, Kd.zfc (Kd.zct hN (fun k hk => hk.elim .inl (fun h => .inr (Nat.le_trans hw.size h)))) hw.size, hb, Kd.zcy hN, zcl hw hw.size hb⟩)
      have hin : ∀ (W : World) (u : Value) (gn : Nat), Below w5.heap.size w5 W → Kd.N k41 41 W w5.heap.size (fun k_ => (P0_5_ k_ ∧ k_ < w.heap.size) ∨ w5.heap.size ≤ k_) u gc → W.heap[gn]? = some (.cells #[.int .i64 a1_0, .int .i64 a1_1, .int .i64 a1_2, .int .i64 a1_3, .int .i64 a1_4, .slice A1_5 l1_5.length c1_5] 41 (0, 0)) → w5.heap.size ≤ gn → some gn ≠ u.ownBlock →
        Calls Tryd.prog 63 #[u, .int .i64 t1, .slice (some ⟨gn, 0, none⟩) 1 1] W fun e w' => ∃ v0 : Value, e = .returned v0 ∧ Kd.N k41 41 w' w5.heap.size (fun k_ => (P0_5_ k_ ∨ P1_5_ k_) ∧ k_ < w.heap.size ∨ w5.heap.size ≤ k_) v0 got2 ∧ Below w5.heap.size w5 w' := by
       intro W u gn hw hN hgn hge hne
       obtain ⟨p, rfl⟩ : ∃ p : Nat, t1 = (p : Int) := ⟨t1.toNat, by have := hcond.1; omega⟩
       have hx : Kd.FK k41 W (fun k => P1_5_ k ∧ k < w.heap.size) ⟨a1_0, a1_1, a1_2, a1_3, a1_4, l1_5⟩ [.int .i64 a1_0, .int .i64 a1_1, .int .i64 a1_2, .int .i64 a1_3, .int .i64 a1_4, .slice A1_5 l1_5.length c1_5] := k41_mkF W _ ⟨a1_0, a1_1, a1_2, a1_3, a1_4, l1_5⟩ HCN.out (HFN.out W (zcl hB5 hB5.size hw))
       refine (Mem.insN_N (d := k41) rfl w5 W _ (fun k => P1_5_ k ∧ k < w.heap.size) u gn 1 #[.int .i64 a1_0, .int .i64 a1_1, .int .i64 a1_2, .int .i64 a1_3, .int .i64 a1_4, .slice A1_5 l1_5.length c1_5] gc ⟨a1_0, a1_1, a1_2, a1_3, a1_4, l1_5⟩ p (fun k => some k = u.ownBlock) hw hN (fun k hk => hk) hgn (Nat.le_refl 1) hge hne rfl hx (fun k hk e => by have := Kd.zcy hN k e.symm; have := hB5.size; omega) (by have := hcond.2.1; omega) hcond.2.2.2).mono ?_
       rintro e w' ⟨v0, rfl, hN2, hb2, _⟩
       rw [show gc.take p ++ ([⟨a1_0, a1_1, a1_2, a1_3, a1_4, l1_5⟩] ++ gc.drop p) = got2 from hins] at hN2
       exact ⟨v0, rfl, Kd.zct hN2 (fun k hk => hk.elim (fun h => h.elim (fun h => h.elim (fun h => .inl ⟨.inl h.1, h.2⟩) .inr) (fun h => .inl ⟨.inr h.1, h.2⟩)) .inr), hb2⟩
      have HCL := zab.mk hcl
      have HIN := zab.mk hin
      have HG5 := zab.mk hg5
      clear hcl hin hins hgc hcond HINS hB5 hg5
      have hke : ∀ W' : World, W'.heap[g0]? = w5.heap[g0]? → W'.heap[g1]? = w5.heap[g1]? → W'.cell? ⟨g0, 5, none⟩ = some (.slice Ag got.length cg) ∧ W'.cell? ⟨g1, 0, none⟩ = some (.int .i64 a1_0) ∧ W'.cell? ⟨g1, 1, none⟩ = some (.int .i64 a1_1) ∧ W'.cell? ⟨g1, 2, none⟩ = some (.int .i64 a1_2) ∧ W'.cell? ⟨g1, 3, none⟩ = some (.int .i64 a1_3) ∧ W'.cell? ⟨g1, 4, none⟩ = some (.int .i64 a1_4) ∧ W'.cell? ⟨g1, 5, none⟩ = some (.slice A1_5 l1_5.length c1_5) := fun W' h0 h1 => by
       have e0 := h0.trans ((HB5.out.block g0 hgl.out.1).trans K0.out)
       have e1 := h1.trans ((HB5.out.block g1 hgl.out.2.1).trans K1.out)
       exact ⟨(zbe e0 5).trans rfl, (zbe e1 0).trans rfl, (zbe e1 1).trans rfl, (zbe e1 2).trans rfl, (zbe e1 3).trans rfl, (zbe e1 4).trans rfl, (zbe e1 5).trans rfl⟩
      have HKE := zab.mk hke
      have HIA := zab.mk (show ∀ (wc : World) (vc : Value), Below w5.heap.size w5 wc → Kd.N k41 41 wc w5.heap.size (fun k_ => (P0_5_ k_ ∧ k_ < w.heap.size) ∨ w5.heap.size ≤ k_) vc gc → Calls Tryd.prog 63 #[vc, .int .i64 t1, .slice (some ⟨wc.heap.size, 0, none⟩) 1 1] (wc.alloc (.cells #[.int .i64 a1_0, .int .i64 a1_1, .int .i64 a1_2, .int .i64 a1_3, .int .i64 a1_4, .slice A1_5 l1_5.length c1_5] 41)) fun e w' => ∃ v0 : Value, e = .returned v0 ∧ Kd.N k41 41 w' w5.heap.size (fun k_ => (P0_5_ k_ ∨ P1_5_ k_) ∧ k_ < w.heap.size ∨ w5.heap.size ≤ k_) v0 got2 ∧ Below w5.heap.size w5 w' from fun wc vc hb hN => HIN.out _ vc wc.heap.size (zcl hb hb.size (zbt (Below.refl _ _) _)) (Kd.zcx hN _) (Mem.zgh wc _ _) hb.size (fun e => Nat.lt_irrefl _ (Kd.N_lt hN _ e.symm)))
      have HIB := zab.mk (show ∀ (wc : World) (vc : Value), Below (w5.alloc (.cells #[.int .i64 a1_0, .int .i64 a1_1, .int .i64 a1_2, .int .i64 a1_3, .int .i64 a1_4, .slice A1_5 l1_5.length c1_5] 41)).drew.heap.size (w5.alloc (.cells #[.int .i64 a1_0, .int .i64 a1_1, .int .i64 a1_2, .int .i64 a1_3, .int .i64 a1_4, .slice A1_5 l1_5.length c1_5] 41)).drew wc → Below w5.heap.size w5 wc → Kd.N k41 41 wc w5.heap.size (fun k_ => (P0_5_ k_ ∧ k_ < w.heap.size) ∨ w5.heap.size ≤ k_) vc gc → (∀ k, vc.ownBlock = some k → (w5.alloc (.cells #[.int .i64 a1_0, .int .i64 a1_1, .int .i64 a1_2, .int .i64 a1_3, .int .i64 a1_4, .slice A1_5 l1_5.length c1_5] 41)).drew.heap.size ≤ k) → Calls Tryd.prog 63 #[vc, .int .i64 t1, .slice (some ⟨w5.heap.size, 0, none⟩) 1 1] wc fun e w' => ∃ v0 : Value, e = .returned v0 ∧ Kd.N k41 41 w' w5.heap.size (fun k_ => (P0_5_ k_ ∨ P1_5_ k_) ∧ k_ < w.heap.size ∨ w5.heap.size ≤ k_) v0 got2 ∧ Below w5.heap.size w5 w' from fun wc vc hbc hb hN hbs => HIN.out _ vc w5.heap.size hb hN ((hbc.block _ (zbx.anew w5 _)).trans (Mem.zgh w5 _ _)) (Nat.le_refl _) (fun e => absurd (hbs _ e.symm) (Nat.not_le.2 (zbx.anew w5 _))))
      have hl0 := HG5.out.1
      have hl1 := HG5.out.2.1
      clear hke
      have nn0 := World.new_ne w5 _ c05
      have nn1 := World.new_ne w5 _ d0
      go_wp2_with fail
      go_region_law (first
       | (go_simp; go_at_call 64; refine (HCL.out _ (by first | exact Below.refl _ _ | exact zeh (Below.refl _ _) | exact zeh (zbt (Below.refl _ _) _) | exact zbt (Below.refl _ _) _)).mono ?_; rintro e wc ⟨vc, rfl, hNc, hbc, hbs, hb5⟩; obtain ⟨e05, e0, e1, e2, e3, e4, e5⟩ := HKE.out wc (hb5.block g0 hl0) (hb5.block g1 hl1))
       | (go_simp; go_at_call 63; ((with_reducible refine (HIA.out wc vc hb5 hNc).mono ?_)); rintro e wi ⟨vi, rfl, hNi, hbi⟩; obtain ⟨Ai, ci, rfl⟩ := Kd.zdl hNi; have fi := (hbi.frozen (p := ⟨g0, 5, none⟩) hl0).trans f05; have e05i := (HKE.out wi (hbi.block g0 hl0) (hbi.block g1 hl1)).1)
       | (go_simp; go_at_call 63; ((with_reducible refine (HIB.out wc vc hbc hb5 hNc hbs).mono ?_)); rintro e wi ⟨vi, rfl, hNi, hbi⟩; obtain ⟨Ai, ci, rfl⟩ := Kd.zdl hNi; have fi := (hbi.frozen (p := ⟨g0, 5, none⟩) hl0).trans f05; have e05i := (HKE.out wi (hbi.block g0 hl0) (hbi.block g1 hl1)).1)
       | fail)
      all_goals
       go_wp2_with fail
       go_meet
       refine ⟨?_⟩
       exact ⟨Ai, ci, zci ((hbi.block g0 hl0).trans K50.out) 5 _ rfl, ((Mem.zbw g0 [.slice Ai got2.length ci] 5 wi).2.2.2.2 g2 (fun e => by have := GG.out; omega)).trans ((hbi.block g2 HG5.out.2.2).trans K52.out), Mem.below_setCells (zcl HBB5.out HBB5.out.size hbi) GG.out.1 5 [.slice Ai got2.length ci], (Kd.zcj hNi).2.1,
        Kd.F_far (p := ⟨g0, 5, none⟩) (Kd.zhf (Kd.N_F hNi) (fun k hk => hk.elim (fun h => ⟨.inl h.1, fun e => by have := GG.out; have := h.2; omega, fun e => by have := GG.out; have := h.2; omega⟩) (fun h => ⟨.inr (Nat.le_trans HBB5.out.size h), fun e => by have := HG5.out; omega, fun e => by have := HG5.out; omega⟩))) (fun k hk => hk.2.1) _⟩
    case rest =>
     obtain ⟨Ag2, cg2, K0', K2', HB', hcg2, hF2⟩ := hcut.out
     clear K0 K1 K2 HB HFG HCG HF5 HFN HCN HBS HINS hgl HB5 hcut
     obtain ⟨wq, hwq⟩ : ∃ W, W = wc := ⟨_, rfl⟩
     subst hwq
     have K0 := zab.mk K0'
     have K2 := zab.mk K2'
     have HB := zab.mk HB'
     have HCG := zab.mk hcg2
     have HFG := zab.mk hF2
     clear K0' K2' HB' hcg2 hF2
     have c00 : wq.cell? ⟨g0, 0, none⟩ = some (.int .i64 a0_0) := (zbe K0.out 0).trans rfl
     have c01 : wq.cell? ⟨g0, 1, none⟩ = some (.int .i64 a0_1) := (zbe K0.out 1).trans rfl
     have c02 : wq.cell? ⟨g0, 2, none⟩ = some (.slice A0_2 l0_2.length c0_2) := (zbe K0.out 2).trans rfl
     have c03 : wq.cell? ⟨g0, 3, none⟩ = some (.int .i64 atv) := (zbe K0.out 3).trans rfl
     have c04 : wq.cell? ⟨g0, 4, none⟩ = some (.int .i64 ofv) := (zbe K0.out 4).trans rfl
     have c05 : wq.cell? ⟨g0, 5, none⟩ = some (.slice Ag2 got2.length cg2) := (zbe K0.out 5).trans rfl
     have hH := H.out
     unfold zbx.g at hH
     clear H
     by_cases hl : (got2.length : Int) < ofv
     ·rw [if_pos hl] at hH
      simp only [Option.some.injEq, Prod.mk.injEq] at hH
      obtain ⟨rfl, rfl, rfl, rfl, rfl, rfl⟩ := hH
      have z0 : wq.cell? ⟨g2, 0, none⟩ = some (.int .i64 0) := (zbe K2.out 0).trans rfl
      have z1 : wq.cell? ⟨g2, 1, none⟩ = some (.int .i64 0) := (zbe K2.out 1).trans rfl
      have z2 : wq.cell? ⟨g2, 2, none⟩ = some (.slice none 0 0) := (zbe K2.out 2).trans rfl
      have z3 : wq.cell? ⟨g2, 3, none⟩ = some (.int .i64 0) := (zbe K2.out 3).trans rfl
      have z4 : wq.cell? ⟨g2, 4, none⟩ = some (.int .i64 0) := (zbe K2.out 4).trans rfl
      have z5 : wq.cell? ⟨g2, 5, none⟩ = some (.slice none 0 0) := (zbe K2.out 5).trans rfl
      have zf := zaf K2.out
      have hB := Mem.below_setCells HB.out (show w.heap.size ≤ g2 by have := GG.out; omega) 0 [.int .i64 a0_0, .int .i64 a0_1, .slice A0_2 l0_2.length c0_2, .int .i64 atv, .int .i64 ofv, .slice Ag2 got2.length cg2]
      have HEND := zab.mk (show Kd.V k56 56 (wq.setCells g2 0 [.int .i64 a0_0, .int .i64 a0_1, .slice A0_2 l0_2.length c0_2, .int .i64 atv, .int .i64 ofv, .slice Ag2 got2.length cg2]) w.heap.size (fun k_ => (P0_2_ k_ ∨ P0_5_ k_ ∨ P1_5_ k_) ∨ w.heap.size ≤ k_) (.slice A0_2 l0_2.length c0_2) l0_2 ∧ Kd.V k41 41 (wq.setCells g2 0 [.int .i64 a0_0, .int .i64 a0_1, .slice A0_2 l0_2.length c0_2, .int .i64 atv, .int .i64 ofv, .slice Ag2 got2.length cg2]) w.heap.size (fun k_ => (P0_2_ k_ ∨ P0_5_ k_ ∨ P1_5_ k_) ∨ w.heap.size ≤ k_) (.slice Ag2 got2.length cg2) got2 ∧ Below w.heap.size w (wq.setCells g2 0 [.int .i64 a0_0, .int .i64 a0_1, .slice A0_2 l0_2.length c0_2, .int .i64 atv, .int .i64 ofv, .slice Ag2 got2.length cg2]) from
       ⟨Kd.V_mk HC2.out (Kd.zhf (HF2.out _ hB) (fun k hk => .inl (.inl hk.1))), Kd.V_mk HCG.out (Kd.zhf (Kd.F_step HFG.out (fun k hk _ => (Mem.zbw g2 [.int .i64 a0_0, .int .i64 a0_1, .slice A0_2 l0_2.length c0_2, .int .i64 atv, .int .i64 ofv, .slice Ag2 got2.length cg2] 0 wq).2.2.2.2 k hk.2.2)) (fun k hk => hk.1.elim (fun h => .inl (.inr h)) .inr)), hB⟩)
      have HRW := zab.mk (zbx.fill6 (v0 := .int .i64 a0_0) (v1 := .int .i64 a0_1) (v2 := .slice A0_2 l0_2.length c0_2) (v3 := .int .i64 atv) (v4 := .int .i64 ofv) (v5 := .slice Ag2 got2.length cg2) K2.out)
      clear hB
      go_wp2
      refine bodyPost_ret (results_cell_row rfl _ _ g2 33 _ (0, 0) _ rfl HRW.out hu33 rfl (by kernel_rfl)) rfl ?_
      exact ⟨_, _, rfl, HEND.out⟩
     ·rw [if_neg hl] at hH
      split at hH
      case isFalse => cases hH
      rename_i hcond
      obtain ⟨⟨t1, t2⟩, hap, hH⟩ := Option.bind_eq_some_iff.1 hH
      simp only [] at hH
      have HH := zab.mk hH
      have HAP := zab.mk hap
      have hgl := zab.mk (show g0 < wq.heap.size ∧ g2 < wq.heap.size from ⟨zdh K0.out, zdh K2.out⟩)
      have HLF := zab.mk hcond.1
      have hln := hcond.2
      have HFX := zab.mk (fun (W : World) (hW : Below wq.heap.size wq W) => Kd.zdp (Kd.zhc HFG.out) hW)
      have HFR := zab.mk (show ∀ k, wq.heap.size ≤ k → ((P0_5_ k ∨ P1_5_ k) ∨ w.heap.size ≤ k) ∧ k ≠ g0 ∧ k ≠ g2 from fun k hk => ⟨.inr (Nat.le_trans HB.out.size hk), fun e => by have := hgl.out; omega, fun e => by have := hgl.out; omega⟩)
      clear hH hap hcond
      go_wp2_with fail
      go_loopg [7, 70] got2.length (fun gg s7 s70 wx => ∃ (i : Nat) (Aa : Option Addr) (ca n : Nat), s7 = .slice Aa n ca ∧ s70 = .int .i64 i ∧ zab (i ≤ got2.length) ∧ zab (got2.length - i ≤ gg) ∧ zab (Kd.N k56 56 wx wq.heap.size (fun k => ((P0_5_ k ∨ P1_5_ k) ∨ w.heap.size ≤ k) ∧ k ≠ g0 ∧ k ≠ g2) (.slice Aa n ca) ((got2.map (·.f5)).take i).flatten) ∧ zab (Below wq.heap.size wq wx))
      case atStart => exact ⟨0, none, 0, 0, rfl, rfl, ⟨Nat.zero_le _⟩, ⟨Nat.le_refl _⟩, ⟨Kd.N_nil _ _ _ _ _⟩, ⟨Below.refl _ _⟩⟩
      case round =>
       clear c00 c01 c02 c03 c04 c05
       obtain ⟨i, Aa, ca, n, rfl, rfl, hi, hgg, HN, HW⟩ := hrel
       by_cases hlt : i < got2.length
       ·obtain ⟨x, hx⟩ : ∃ x, got2[i]? = some x := ⟨_, List.getElem?_eq_getElem hlt⟩
        obtain ⟨ad, cx, hA1, _, hFK, hcc, _⟩ := Kd.F_get (HFX.out wr HW.out) z41 (i : Int) (by omega) (by omega)
        subst hA1
        rw [show got2.getD ((i : Int)).toNat z41 = x by simp [List.getD, hx]] at hFK
        obtain ⟨Ax, cx1, hce, hlx, hFx⟩ := k41_openF hFK
        subst hce
        have e0 : wr.cell? (ad.add (i * 6)) = some (.int .i64 x.f0) := hcc 0 _ rfl
        have e1 : wr.cell? ⟨(ad.add (i * 6)).block, (ad.add (i * 6)).off + 1, none⟩ = some (.int .i64 x.f1) := by rw [← zdf ad (i * 6) 1 (by decide)]; exact hcc 1 _ rfl
        have e2 : wr.cell? ⟨(ad.add (i * 6)).block, (ad.add (i * 6)).off + 2, none⟩ = some (.int .i64 x.f2) := by rw [← zdf ad (i * 6) 2 (by decide)]; exact hcc 2 _ rfl
        have e3 : wr.cell? ⟨(ad.add (i * 6)).block, (ad.add (i * 6)).off + 3, none⟩ = some (.int .i64 x.f3) := by rw [← zdf ad (i * 6) 3 (by decide)]; exact hcc 3 _ rfl
        have e4 : wr.cell? ⟨(ad.add (i * 6)).block, (ad.add (i * 6)).off + 4, none⟩ = some (.int .i64 x.f4) := by rw [← zdf ad (i * 6) 4 (by decide)]; exact hcc 4 _ rfl
        have e5 : wr.cell? ⟨(ad.add (i * 6)).block, (ad.add (i * 6)).off + 5, none⟩ = some (.slice Ax x.f5.length cx1) := by rw [← zdf ad (i * 6) 5 (by decide)]; exact hcc 5 _ rfl
        have htk : ((got2.map (·.f5)).take (i + 1)).flatten = ((got2.map (·.f5)).take i).flatten ++ x.f5 := by
         have hm : i < (got2.map (·.f5)).length := by rw [List.length_map]; exact hlt
         rw [List.take_succ_eq_append_getElem hm, List.flatten_append, List.getElem_map, (List.getElem?_eq_some_iff.1 hx).2]; simp
        have hbd : ((got2.map (·.f5)).take i).flatten.length + x.f5.length ≤ 1000000 := by
         have h1 := congrArg List.length htk
         rw [List.length_append] at h1
         rw [← h1]
         refine Nat.le_trans ?_ HLF.out
         conv => rhs; rw [← List.take_append_drop (i + 1) (got2.map (·.f5)), List.flatten_append, List.length_append]
         exact Nat.le_add_right _ _
        have hilt : (i : Int) < (got2.length : Int) := by omega
        have hi0 : (0 : Int) ≤ (i : Int) := by omega
        have hwi : wrap64 ((i : Int) + 1) = ((i + 1 : Nat) : Int) := by unfold wrap64; omega
        have HTK := zab.mk htk
        have HBD := zab.mk (show (((got2.map (·.f5)).take i).flatten.length + x.f5.length) * 40 ≤ 140737488355328 by omega)
        have HFX5 := zab.mk hFx
        obtain ⟨T, hT⟩ : ∃ T, T = ((got2.map (·.f5)).take i).flatten := ⟨_, rfl⟩
        rw [← hT] at HTK HBD HN
        clear hFx hlx hFK hcc htk hbd hx
        clear hT
        go_wp2_with ((with_reducible refine zgk (b := .append) (xs := #[.tmp 74, .tmp 76]) rfl ?_); at_builtin; refine Kd.zdv k56 (w0 := wq) wq.heap.size rfl (.tmp 74) (.tmp 76) 22 56 (.agg #[(.string ⟨#[]⟩), (.slice none 0 0)]) 40 rfl Tryd.underlying22 (by kernel_rfl) rfl (by decide) (by omega) _ T x.f5 Ax x.f5.length cx1 (fun k => ((P0_5_ k ∨ P1_5_ k) ∨ w.heap.size ≤ k) ∧ k ≠ g0 ∧ k ≠ g2) (fun k => (((P0_5_ k ∨ P1_5_ k) ∨ w.heap.size ≤ k) ∧ k ≠ g0 ∧ k ≠ g2) ∧ k < wq.heap.size) rfl rfl (Kd.zcx HN.out _) (Kd.ziy HFX5.out _) (fun k hk => ⟨hk.1, fun he => Nat.not_le.2 hk.2 (Kd.zcy HN.out k he.symm)⟩) (fun k hk => HFR.out k (Nat.le_trans HW.out.size (Nat.le_trans (Nat.le_of_lt (zbx.anew wr _)) hk))) (zcl HW.out HW.out.size (zbt (Below.refl _ _) _)) (Nat.le_trans HW.out.size (Nat.le_of_lt (zbx.anew wr _))) HBD.out ?_; intro v2 w3 hN2 hb2 hg hat; (obtain ⟨A2, c2, rfl⟩ := Kd.zdl hN2); have HN2 := zab.mk hN2; have HW2 := zab.mk hb2; clear hN2 hb2 hg hat HN HW)
        go_roundg (got2.length - (i + 1))
        case measure => have := hgg.out; omega
        case rel => exact ⟨i + 1, A2, c2, T.length + x.f5.length, rfl, by go_num, ⟨by omega⟩, ⟨Nat.le_refl _⟩, ⟨by have h2 := HN2.out; rw [List.length_append] at h2; rw [HTK.out]; exact h2⟩, HW2⟩
       ·obtain rfl : i = got2.length := by have := hi.out; omega
        have hnl : ¬ (got2.length : Int) < (got2.length : Int) := by omega
        have hTe : ((got2.map (·.f5)).take got2.length).flatten = (got2.map (·.f5)).flatten := by rw [List.take_of_length_le (by rw [List.length_map]; exact Nat.le_refl _)]
        rw [hTe] at HN
        have hB := zcl HB.out HB.out.size HW.out
        have hn := (Kd.zcj HN.out).1
        have hV := Kd.N_V (base' := wr.heap.size) HN.out
        rw [hn] at hV
        have hac := zck.calls k (fun _ => False) none 0 [] (fun k => ((P0_5_ k ∨ P1_5_ k) ∨ w.heap.size ≤ k) ∧ k ≠ g0 ∧ k ≠ g2) Aa ca (got2.map (·.f5)).flatten t1 t2 wr (Kd.V_nil _ _ _ _ _) hV HAP.out (HG.out.below hB)
        rw [← hn] at hac
        have HAC := zab.mk (show Calls Tryd.prog 10 #[.slice none 0 0, .slice Aa n ca] wr _ from hac)
        clear hac hV hn
        have HBW := zab.mk hB
        have k0 := zab.mk ((HW.out.block g0 hgl.out.1).trans K0.out)
        have k2 := zab.mk ((HW.out.block g2 hgl.out.2).trans K2.out)
        have hgw := zab.mk (show g0 < wr.heap.size ∧ g2 < wr.heap.size from ⟨zdh k0.out, zdh k2.out⟩)
        have HFW := zab.mk (HFX.out wr HW.out)
        clear hTe hB HN HAP K0 K2 HB HW HFX HFR HFG hi hgg hgl
        go_upto_if 85 with (go_at_call 10; ((with_reducible refine HAC.out.mono ?_)); rintro e w5 ⟨v5, rfl, hN5, hb5⟩; (obtain ⟨A5, c5, rfl⟩ := Kd.zdl hN5); have HN5 := zab.mk hN5; have HB5 := zab.mk hb5; clear hN5 hb5)
        go_cut [] (fun wx => zab (∃ (pos : Int) (st : List S56) (A2 : Option Addr) (c2 : Nat), wx.heap[g0]? = some (.cells #[.int .i64 a0_0, .int .i64 pos, .slice A2 st.length c2, .int .i64 atv, .int .i64 ofv, .slice Ag2 got2.length cg2] 33 (0, 0)) ∧ wx.heap[g2]? = some (.cells #[.int .i64 0, .int .i64 0, .slice none 0 0, .int .i64 0, .int .i64 0, .slice none 0 0] 33 (0, 0)) ∧ Below w.heap.size w wx ∧ st.length ≤ c2 ∧ Kd.F k56 wx (fun k => ((P0_2_ k ∨ P0_5_ k ∨ P1_5_ k) ∨ w.heap.size ≤ k) ∧ k ≠ g0 ∧ k ≠ g2) A2 st.length st ∧ Kd.C k41 wx Ag2 got2.length got2 ∧ (a0_0, pos, st, (0 : Int), (0 : Int), ([] : List S41)) = (r1, r2, r3, r4, r5, r6)))
        case first =>
         have k0' := zab.mk ((HB5.out.block g0 hgw.out.1).trans k0.out)
         have k2' := zab.mk ((HB5.out.block g2 hgw.out.2).trans k2.out)
         have HBX := zab.mk (zcl HBW.out HBW.out.size HB5.out)
         have HCX := zab.mk (Kd.F_now (Kd.zdp HFW.out HB5.out))
         have hR := HH.out
         by_cases h0 : t2 = 0
         ·subst h0
          rw [if_pos rfl] at hR
          have HR := zab.mk hR
          have c01 : w5.cell? ⟨g0, 1, none⟩ = some (.int .i64 a0_1) := (zbe k0'.out 1).trans rfl
          have c02 : w5.cell? ⟨g0, 2, none⟩ = some (.slice A0_2 l0_2.length c0_2) := (zbe k0'.out 2).trans rfl
          have c03 : w5.cell? ⟨g0, 3, none⟩ = some (.int .i64 atv) := (zbe k0'.out 3).trans rfl
          have zf := zaf k0'.out
          clear hR HH HAC
          go_wp2_with fail
          go_meet
          refine ⟨?_⟩
          have hgg := GG.out
          refine ⟨atv, t1, A5, c5, zci (zci k0'.out 2 _ rfl) 1 _ rfl, (Below.heap_setCell _ _ _ g2 (fun e => by have e' : g2 = g0 := e; omega)).trans ((Below.heap_setCell _ _ _ g2 (fun e => by have e' : g2 = g0 := e; omega)).trans k2'.out), zef (zef HBX.out hgg.1) hgg.1, (Kd.zcj HN5.out).2.1, ?_, ?_, by simpa using HR.out⟩
          ·refine Kd.F_far (p := ⟨g0, 1, none⟩) (Kd.F_far (p := ⟨g0, 2, none⟩) (Kd.zhf (Kd.N_F HN5.out) (fun k hk => ?_)) (fun k hk => hk.2.1) _) (fun k hk => hk.2.1) _
           rcases hk with hk | hk
           ·rcases hk with hk | hk
            ·exact hk.elim
            ·exact ⟨hk.1.elim (fun h => .inl (.inr h)) .inr, hk.2⟩
           ·have := hgw.out; have := HBW.out.size; exact ⟨.inr (by omega), by omega, by omega⟩
          ·exact Kd.F_now (Kd.F_far (p := ⟨g0, 1, none⟩) (Kd.F_far (p := ⟨g0, 2, none⟩) (Kd.zdp HFW.out HB5.out) (fun k hk => hk.1.2.1) _) (fun k hk => hk.1.2.1) _)
         ·rw [if_neg h0] at hR
          have HR := zab.mk hR
          have hnb : (t2 == 0) = false := by simpa using h0
          clear hR HH HAC h0
          go_wp2_with fail
          go_meet
          refine ⟨?_⟩
          exact ⟨a0_1, l0_2, A0_2, c0_2, k0'.out, k2'.out, HBX.out, HC2.out, Kd.zhf (HF2.out _ HBX.out) (fun k hk => ⟨.inl (.inl hk.1), fun e => by have := GG.out; have := hk.2; omega, fun e => by have := GG.out; have := hk.2; omega⟩), HCX.out, by simpa using HR.out⟩
        case rest =>
         obtain ⟨pos, st, A2, c2, q0, q2, qb, ql, qf, qc, qe⟩ := hcut.out
         simp only [Prod.mk.injEq] at qe
         obtain ⟨rfl, rfl, rfl, rfl, rfl, rfl⟩ := qe
         have hgq := zab.mk (show g0 < wc.heap.size ∧ g2 < wc.heap.size from ⟨zdh q0, zdh q2⟩)
         have HID := zab.mk (sub_idle.calls a0_0 pos (fun k => ((P0_2_ k ∨ P0_5_ k ∨ P1_5_ k) ∨ w.heap.size ≤ k) ∧ k ≠ g0 ∧ k ≠ g2) A2 c2 st atv ofv Ag2 cg2 got2 a0_0 pos st 0 0 [] wc (Kd.V_mk ql qf) qc HCG.out rfl)
         have c00 : wc.cell? ⟨g0, 0, none⟩ = some (.int .i64 a0_0) := (zbe q0 0).trans rfl
         have c01 : wc.cell? ⟨g0, 1, none⟩ = some (.int .i64 pos) := (zbe q0 1).trans rfl
         have c02 : wc.cell? ⟨g0, 2, none⟩ = some (.slice A2 st.length c2) := (zbe q0 2).trans rfl
         have c03 : wc.cell? ⟨g0, 3, none⟩ = some (.int .i64 atv) := (zbe q0 3).trans rfl
         have c04 : wc.cell? ⟨g0, 4, none⟩ = some (.int .i64 ofv) := (zbe q0 4).trans rfl
         have c05 : wc.cell? ⟨g0, 5, none⟩ = some (.slice Ag2 got2.length cg2) := (zbe q0 5).trans rfl
         have Q2 := zab.mk q2
         have QB := zab.mk qb
         clear q0 q2 qb ql qf qc hcut HH HAC HF2 HCG HC2 HC5 HB5 HN5 HFW HBW k0 k2 hgw
         go_wp2_with (go_at_call 38; ((with_reducible refine HID.out.mono ?_)); rintro e w6 ⟨v6, v7, rfl, hV6, hR7, hb6⟩; (obtain ⟨A6, c6, rfl⟩ := Kd.zcs hV6); (obtain ⟨A7, c7, rfl⟩ := Kd.zfd hR7); have z2 := (hb6.block g2 hgq.out.2).trans Q2.out; (have z20 : w6.cell? ⟨g2, 0, none⟩ = some (.int .i64 0) := (zbe z2 0).trans rfl); (have z21 : w6.cell? ⟨g2, 1, none⟩ = some (.int .i64 0) := (zbe z2 1).trans rfl); (have z22 : w6.cell? ⟨g2, 2, none⟩ = some (.slice none 0 0) := (zbe z2 2).trans rfl); (have z23 : w6.cell? ⟨g2, 3, none⟩ = some (.int .i64 0) := (zbe z2 3).trans rfl); (have z24 : w6.cell? ⟨g2, 4, none⟩ = some (.int .i64 0) := (zbe z2 4).trans rfl); (have z25 : w6.cell? ⟨g2, 5, none⟩ = some (.slice none 0 0) := (zbe z2 5).trans rfl); have zf := zaf z2; have Z2 := zab.mk z2; have V6 := zab.mk hV6; have R7 := zab.mk hR7; have B6 := zab.mk hb6; clear z2 hV6 hR7 hb6 c00 c01 c02 c03 c04 c05)
         refine bodyPost_ret (results_cell_row rfl _ _ g2 33 _ (0, 0) _ rfl (zbx.fill6 (v0 := .int .i64 a0_0) (v1 := .int .i64 pos) (v2 := .slice A6 st.length c6) (v3 := .int .i64 0) (v4 := .int .i64 0) (v5 := .slice A7 ([] : List S41).length c7) Z2.out) hu33 rfl (by kernel_rfl)) rfl ?_
         have hoth := (Mem.zbw g2 [.int .i64 a0_0, .int .i64 pos, .slice A6 st.length c6, .int .i64 0, .int .i64 0, .slice A7 ([] : List S41).length c7] 0 w6).2.2.2.2
         refine ⟨_, _, rfl, Kd.V_mk (Kd.zbb V6.out).2.1 (Kd.zhf (Kd.F_step (W1 := w6.setCells g2 0 [.int .i64 a0_0, .int .i64 pos, .slice A6 st.length c6, .int .i64 0, .int .i64 0, .slice A7 ([] : List S41).length c7]) (Kd.V_F V6.out) (fun k hk _ => hoth k ?_)) (fun k hk => ?_)), Kd.V_mk (Nat.zero_le _) (Kd.zhf (Kd.F_step (W1 := w6.setCells g2 0 [.int .i64 a0_0, .int .i64 pos, .slice A6 st.length c6, .int .i64 0, .int .i64 0, .slice A7 ([] : List S41).length c7]) (Kd.R_F R7.out) (fun k hk _ => hoth k ?_)) (fun k hk => .inr (Nat.le_trans QB.out.size hk))), Mem.below_setCells (zcl QB.out QB.out.size B6.out) (by have := GG.out; omega) 0 [.int .i64 a0_0, .int .i64 pos, .slice A6 st.length c6, .int .i64 0, .int .i64 0, .slice A7 ([] : List S41).length c7]⟩
         ·exact hk.1.elim (fun h => h.2.2) (fun h e => by have := hgq.out; omega)
         ·exact hk.1.elim (fun h => h.1) (fun h => .inr (Nat.le_trans QB.out.size h))
         ·exact fun e => by have := hgq.out; omega

end Go.Proofs.YtchpbnabbjdfgaaDoor.P
