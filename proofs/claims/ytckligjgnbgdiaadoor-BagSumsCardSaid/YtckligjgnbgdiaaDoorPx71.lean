-- HALVED
import Derived.Test.YtckligjgnbgdiaaDoorPx0
import Derived.Test.YtckligjgnbgdiaaDoorPx19
import Derived.Test.YtckligjgnbgdiaaDoorPx49
namespace Go.Proofs.YtckligjgnbgdiaaDoor.P
open Go.RowKit Go.Proofs.YtckligjgnbgdiaaDoorW.PrintWords Go.Proofs.YtckligjgnbgdiaaDoorW.PrintLast Go.Proofs.YtckligjgnbgdiaaDoorW.PrintMore
attribute [local go_sem] max2_int min2_mn max_two min_two max_three min_three max_four min_four   -- for this text's walks alone
set_option linter.unusedVariables false
set_option linter.unusedSimpArgs false
set_option maxHeartbeats 4000000 in
set_option maxRecDepth 100000 in
theorem api_Count_44.grow (n : Int) (w : World) (hn0 : 0 ≤ n) (hn : n ≤ 2000000) :
  Calls Tryd.prog 54 #[.slice none 0 0, .int .i64 n] w fun e w' => ∃ v0_ : Value, e = .returned v0_ ∧ Kd.N k27 27 w' w.heap.size (fun k_ => w.heap.size ≤ k_) v0_ [] ∧ Below w.heap.size w w' := by
 have hneg : ¬ n < 0 := by omega
 have hw : IntKind.i64.wrap (n - 0) = n := by rw [IntKind.wrap_i64]; omega
 have hw2 : IntKind.i64.wrap n = n := by rw [IntKind.wrap_i64]; omega
 by_cases hp : (0 : Int) < n
 ·go_enter Tryd.func54, Tryd.ntmps54
  go_wp2_with (refine Kd.N_append_zeros k27 (w0 := w) w.heap.size rfl _ _ 22 3 27 (.agg #[(.slice none 0 0), (.int .i64 0)]) 32 rfl Tryd.underlying22 Tryd.underlying3 info27 rfl (by decide) (by omega) (.slice none 0 0) ([] : List S27) z27 n (fun k_ => w.heap.size ≤ k_) rfl rfl (k27_mkF _ _ z27 (Nat.le_refl _) (Kd.F_nil _ _ _)) (fun k hk => hk) (Kd.N_nil _ _ _ _ _) hn0 (Below.refl _ _) (Nat.le_refl _) (by simp; omega) ?_)
  intro v1 w1 hN hb hg hat
  obtain ⟨A, c, he⟩ := Kd.N_slice hN
  subst he
  go_wp2
  go_ret
  exact ⟨_, rfl, Kd.N_take (m := 0) hN (Nat.zero_le _), hb⟩
 ·have hz : n = 0 := by omega
  subst hz
  go_enter Tryd.func54, Tryd.ntmps54
  go_wp2
  go_ret
  exact ⟨_, rfl, Kd.N_nil _ _ _ _ _, Below.refl _ _⟩
def api_Count_44.f (l0 : List (List S27)) : Option (List S27) := if l0.length ≤ 1000000 ∧ l0.flatten.length ≤ 1000000 then some l0.flatten else none
theorem api_Count_44.take_ (l : List (List S27)) (i : Nat) (hi : i < l.length) : (l.take (i + 1)).flatten = (l.take i).flatten ++ l[i] := by
 rw [List.take_succ_eq_append_getElem hi, List.flatten_append]
 simp
theorem api_Count_44.le_ (l : List (List S27)) (i : Nat) : (l.take i).flatten.length ≤ l.flatten.length := by
 conv => rhs; rw [← List.take_append_drop i l, List.flatten_append, List.length_append]
 omega
set_option maxHeartbeats 8000000 in
set_option maxRecDepth 100000 in
theorem api_Count_44.calls (P_ : Nat → Prop) (A : Option Addr) (c : Nat) (l0 : List (List S27)) (r : List S27) (w : World) (hs : Kd.V (Kd.slice 27 k27) 22 w w.heap.size (fun k_ => P_ k_) (.slice A l0.length c) l0) (h : api_Count_44.f l0 = some r) :
  Calls Tryd.prog 44 #[.slice A l0.length c] w fun e w' => ∃ v0_ : Value, e = .returned v0_ ∧ Kd.N k27 27 w' w.heap.size (fun k_ => (P_ k_ ∨ w.heap.size ≤ k_)) v0_ r ∧ Below w.heap.size w w' := by
 unfold api_Count_44.f at h
 split at h
 case isFalse => cases h
 rename_i hl
 obtain ⟨hl1, hl2⟩ := hl
 injection h with h
 subst h
 have hF := Kd.V_F hs
 have hlc := (Kd.V_reads' hs).2.1
 have hget : ∀ (W : World), Below w.heap.size w W → ∀ i : Nat, (hi : i < l0.length) → ∃ ad A1 c1, A = some ad ∧ W.cell? (ad.add i) = some (.slice A1 (l0[i]).length c1) ∧ (l0[i]).length ≤ c1 ∧ Kd.F k27 W (fun k => P_ k ∧ k < w.heap.size) A1 (l0[i]).length (l0[i]) := by
  intro W hb i hi
  have hF' : Kd.F (Kd.slice 27 k27) W (fun k => P_ k ∧ k < w.heap.size) A l0.length l0 := Kd.F_below (Kd.F_bound hF) hb
  obtain ⟨ad, cs, hA, hcl, hK, hcc, _⟩ := Kd.F_get hF' [] (i : Int) (by omega) (by omega)
  have e : l0.getD (i : Int).toNat [] = l0[i] := by simp [List.getD, hi]
  rw [e] at hK
  obtain ⟨A1, c1, hcs, hle, hFi⟩ := Kd.FK_slice_open hK
  subst hcs
  have h1 := hcc 0 _ rfl
  rw [show (Kd.slice 27 k27).sz = 1 from rfl, Nat.mul_one, Nat.add_zero, show (i : Int).toNat = i by simp] at h1
  exact ⟨ad, A1, c1, hA, h1, hle, hFi⟩
 have HG := Aside0.mk hget
 clear hget
 have hn : l0.length < 9223372036854775808 := by omega
 obtain ⟨S, hS⟩ : ∃ S : Nat → Nat, ∀ i, S i = (l0.take i).flatten.length := ⟨_, fun _ => rfl⟩
 have S0 : S 0 = 0 := by rw [hS]; rfl
 have S1 : ∀ i (hi : i < l0.length), S (i + 1) = S i + (l0[i]).length := fun i hi => by rw [hS, hS, api_Count_44.take_ l0 i hi, List.length_append]
 have S2 : ∀ i, S i ≤ 1000000 := fun i => by rw [hS]; exact Nat.le_trans (api_Count_44.le_ l0 i) hl2
 have HS := Aside0.mk hS
 have HS0 := Aside0.mk S0
 have HS1 := Aside0.mk S1
 have HS2 := Aside0.mk S2
 clear hs hF hS S0 S1 S2
 go_enter Tryd.func44, Tryd.ntmps44
 go_wp2
 go_loopg [3, 11] l0.length (fun kx s3 s11 wr => ∃ i : Nat, s3 = .int .i64 (S i : Nat) ∧ s11 = .int .i64 i ∧ i ≤ l0.length ∧ l0.length - i ≤ kx ∧ w = wr)
 case atStart => exact ⟨0, by rw [HS0.out]; rfl, rfl, Nat.zero_le _, Nat.le_refl _, rfl⟩
 case round =>
  obtain ⟨i, rfl, rfl, hi, hkx, rfl⟩ := hrel
  by_cases hlt : (i : Int) < (l0.length : Int)
  ·have hi' : i < l0.length := by omega
   obtain ⟨ad, A1, c1, rfl, hcell, hle, hFi⟩ := HG.out w (Below.refl _ _) i hi'
   have hsum := HS1.out i hi'
   have hb1 := HS2.out (i + 1)
   generalize l0[i] = x at hcell hle hFi hsum
   have hi0 : (0 : Int) ≤ (i : Int) := by omega
   have hit : ((i : Int)).toNat = i := by omega
   have hw1 : wrap64 ((S i : Int) + (x.length : Int)) = (S (i + 1) : Nat) := by unfold wrap64; omega
   have hw2 : wrap64 ((i : Int) + 1) = (i : Int) + 1 := by unfold wrap64; omega
   have hnn2 : ¬ ((((S (i + 1) : Nat) : Int)) < 0) := Int.not_lt.mpr (Int.natCast_nonneg _)
   clear hle hFi hsum hb1
   go_wp2
   go_roundg (l0.length - (i + 1))
   case measure => omega
   case rel => exact ⟨i + 1, rfl, by simp, by omega, Nat.le_refl _, rfl⟩
  ·have e : i = l0.length := by omega
   subst e
   have hgr := api_Count_44.grow ((S l0.length : Nat) : Int) w (by omega) (by have := HS2.out l0.length; omega)
   go_wp2_with (go_at_call 54; refine hgr.mono ?_; rintro e w1 ⟨v0, rfl, hN, hb⟩)
   have HN := Aside0.mk hN
   have HB := Aside0.mk hb
   clear hN hb hgr
   go_loopg [6, 27] l0.length (fun kx s6 s27 w2 => ∃ i : Nat, s27 = .int .i64 i ∧ i ≤ l0.length ∧ l0.length - i ≤ kx ∧ Aside0 (Kd.N k27 27 w2 w.heap.size (fun k_ => P_ k_ ∨ w.heap.size ≤ k_) s6 ((l0.take i).flatten)) ∧ Aside0 (Below w.heap.size w w2))
   case atStart => exact ⟨0, rfl, Nat.zero_le _, Nat.le_refl _, ⟨Kd.N_mono HN.out (fun _ h => .inr h)⟩, HB⟩
   case round =>
    clear HN HB
    obtain ⟨i, rfl, hi, hkx, HN, HB⟩ := hrel
    by_cases hlt2 : (i : Int) < (l0.length : Int)
    ·have hi' : i < l0.length := by omega
     obtain ⟨ad, A1, c1, rfl, hcell, hle, hFi⟩ := HG.out _ HB.out i hi'
     have hsum := api_Count_44.take_ l0 i hi'
     have hb1 := HS2.out (i + 1)
     rw [HS.out, hsum, List.length_append] at hb1
     generalize l0[i] = x at hcell hle hFi hsum hb1
     have hi0 : (0 : Int) ≤ (i : Int) := by omega
     have hit : ((i : Int)).toNat = i := by omega
     have hw2 : wrap64 ((i : Int) + 1) = (i : Int) + 1 := by unfold wrap64; omega
     obtain ⟨T, hT⟩ : ∃ T, T = (l0.take i).flatten := ⟨_, rfl⟩
     rw [← hT] at HN hsum hb1
     have HF := Aside0.mk hFi
     clear hFi
     go_wp2_with ((with_reducible refine gate_builtin (b := .append) (xs := #[.tmp 31, .tmp 32]) rfl ?_); at_builtin; refine Kd.N_append_rows k27 (w0 := w) w.heap.size rfl (.tmp 31) (.tmp 32) 22 27 (.agg #[(.slice none 0 0), (.int .i64 0)]) 32 rfl Tryd.underlying22 info27 rfl (by decide) (by omega) _ T x A1 x.length c1 (fun k_ => P_ k_ ∨ w.heap.size ≤ k_) (fun k => P_ k ∧ k < w.heap.size) rfl rfl HN.out HF.out (fun k hk => ⟨.inl hk.1, fun he => Nat.not_le.2 hk.2 (Kd.N_base HN.out k he.symm)⟩) (fun k hk => .inr (Nat.le_trans HB.out.size hk)) HB.out HB.out.size (Nat.le_trans (Nat.mul_le_mul_right 32 hb1) (by decide)) ?_; intro v2 w3 hN2 hb2 hg hat; rw [← hsum] at hN2; have HN2 := Aside0.mk hN2; have HB2 := Aside0.mk hb2; clear hN2 hb2 hg hat HN HB HF hsum hb1 hle hT)
     go_roundg (l0.length - (i + 1))
     case measure => omega
     case rel => exact ⟨i + 1, by simp, by omega, Nat.le_refl _, HN2, HB2⟩
    ·have e2 : i = l0.length := by omega
     subst e2
     go_wp2
     go_ret
     refine ⟨_, rfl, ?_, HB.out⟩
     have := HN.out
     rw [List.take_length] at this
     exact this
def bag_Sum_1.f (k : Nat) (l0 : List (S27)) : Option (Bool) := (bag_Right.f k l0).bind fun t343 => (some (!t343))
theorem bag_Sum_1.mono : ∀ a0 k, LeO (bag_Sum_1.f k a0) (bag_Sum_1.f (k + 1) a0) := by
 intro a0 k
 unfold bag_Sum_1.f
 repeat' first
   | (with_reducible exact bag_Right.mono _ _)
   | (with_reducible exact LeO.refl _)
   | (with_reducible exact LeO.none _)
   | (with_reducible refine LeO.ite ?_ ?_)
   | (with_reducible refine LeO.bind ?_ (fun _ => ?_))
   | exact bag_Right.mono _ _
   | exact LeO.none _
   | refine LeO.ite ?_ ?_
   | refine LeO.bind ?_ (fun _ => ?_)
set_option maxHeartbeats 8000000 in
set_option maxRecDepth 100000 in
theorem bag_Sum_1.calls (k : Nat) (A0 : Option Addr) (c0 : Nat) (l0 : List (S27)) (r : Bool) (w : World) (hr0 : Kd.C k27 w A0 l0.length l0) (hc0 : l0.length ≤ c0) (h : bag_Sum_1.f k l0 = some r) (hG : Glob w) :
  Calls Tryd.prog 43 #[.slice A0 l0.length c0] w fun e w' => e = .returned (.bool r) ∧ Below w.heap.size w w' := by
 have HG := Aside0.mk hG
 clear hG
 have HR0 := Aside0.mk hr0
 have HC0 := Aside0.mk hc0
 clear hr0 hc0
 have HB := Aside0.mk (Below.refl w.heap.size w)
 have H : ((bag_Right.f k l0).bind fun t343 => (some (!t343))) = some r := h
 clear h
 replace H := Option.bind_eq_some_iff.mp H
 obtain ⟨t343, A20, H⟩ := H
 replace H : (some (!t343)) = some r := H
 have A2 := Aside0.mk A20
 clear A20
 obtain rfl := Option.some.inj H
 go_enter Tryd.func43, Tryd.ntmps43
 go_wp2_with (first | ((with_reducible refine gate_callee (f := 12) rfl ?_); refine goesL_ (some 4) rfl rfl Tryd.func12 (by kernel_rfl) rfl #[.slice A0 l0.length c0] rfl q2_ ?_; (with_reducible refine (bag_Right.calls k _ _ l0 t343 _ ?side1 ?side2 A2.out q1_).mono ?_); (case side1 => repeat (first | exact HR0.out | (with_reducible refine Kd.C_alloc ?_ _) | (with_reducible refine Kd.C_drewN ?_ _) | (with_reducible refine Kd.C_drew ?_))); (case side2 => exact HC0.out); rintro e w3 ⟨rfl, hb⟩; refine ⟨_, rfl, ?_⟩; have n0_ := Aside0.mk (below_step q0_ hb); clear HB; have HB := n0_; clear n0_; (try clear hb); (try clear hb2); (try clear hk); (try clear hi)))
 go_ret
 exact ⟨q4_, q0_⟩
def api_Count_53_at_bag_Sum_1.l0 : Nat → List (List (S27)) → Int → Int → Option (Int)
 | 0, _, _, _ => none
 | k + 1, x0, x7, x8 => if x8 < x7 then (if 0 ≤ x8 then (if x8 < (x0.length : Int) then ((bag_Sum_1.f k (rd_L6 x0 x8)).bind fun t345 => (if t345 = true then (some x8) else (api_Count_53_at_bag_Sum_1.l0 k x0 x7 (wrap64 (x8 + 1))))) else (none)) else (none)) else (some (-1))
def api_Count_53_at_bag_Sum_1.f (k : Nat) (l0 : List (List (S27)))  : Option (Int) := api_Count_53_at_bag_Sum_1.l0 k l0 (l0.length : Int) 0
theorem api_Count_53_at_bag_Sum_1.mono_l : ∀ k, (∀ y0 y1 y2, LeO (api_Count_53_at_bag_Sum_1.l0 k y0 y1 y2) (api_Count_53_at_bag_Sum_1.l0 (k + 1) y0 y1 y2))
 | 0 => fun _ _ _ r h => by simp [api_Count_53_at_bag_Sum_1.l0] at h
 | k + 1 => by
  have ih0 := api_Count_53_at_bag_Sum_1.mono_l k
  ·intro y0 y1 y2
   unfold api_Count_53_at_bag_Sum_1.l0
   repeat' first
   | (with_reducible exact ih0 _ _ _)
   | (with_reducible exact bag_Sum_1.mono _ _)
   | (with_reducible exact LeO.refl _)
   | (with_reducible exact LeO.none _)
   | (with_reducible refine LeO.ite ?_ ?_)
   | (with_reducible refine LeO.bind ?_ (fun _ => ?_))
   | exact ih0 _ _ _
   | exact bag_Sum_1.mono _ _
   | exact LeO.none _
   | refine LeO.ite ?_ ?_
   | refine LeO.bind ?_ (fun _ => ?_)
theorem api_Count_53_at_bag_Sum_1.mono : ∀ a0 k, LeO (api_Count_53_at_bag_Sum_1.f k a0) (api_Count_53_at_bag_Sum_1.f (k + 1) a0) := by
 intro a0 k
 have ih0 := api_Count_53_at_bag_Sum_1.mono_l k
 unfold api_Count_53_at_bag_Sum_1.f
 repeat' first
   | (with_reducible exact ih0 _ _ _)
   | (with_reducible exact bag_Sum_1.mono _ _)
   | (with_reducible exact LeO.refl _)
   | (with_reducible exact LeO.none _)
   | (with_reducible refine LeO.ite ?_ ?_)
   | (with_reducible refine LeO.bind ?_ (fun _ => ?_))
   | exact ih0 _ _ _
   | exact bag_Sum_1.mono _ _
   | exact LeO.none _
   | refine LeO.ite ?_ ?_
   | refine LeO.bind ?_ (fun _ => ?_)
set_option maxHeartbeats 8000000 in
set_option maxRecDepth 100000 in
theorem api_Count_53_at_bag_Sum_1.calls (k : Nat) (A0 : Option Addr) (c0 : Nat) (l0 : List (List (S27)))  (r : Int) (w : World) (hr0 : Kd.C (Kd.slice 27 k27) w A0 l0.length l0) (hc0 : l0.length ≤ c0) (h : api_Count_53_at_bag_Sum_1.f k l0 = some r) (hG : Glob w) :
  Calls Tryd.prog 53 #[.slice A0 l0.length c0, (.func (.func 43) #[] #[])] w fun e w' => e = .returned (.int .i64 r) ∧ Below w.heap.size w w' := by
 have HG := Aside0.mk hG
 clear hG
 have HR0 := Aside0.mk hr0
 have HC0 := Aside0.mk hc0
 clear hr0 hc0
 have HB := Aside0.mk (Below.refl w.heap.size w)
 have H : (api_Count_53_at_bag_Sum_1.l0 k l0 (l0.length : Int) 0) = some r := h
 clear h
 have H' := Aside0.mk H
 clear H
 go_enter Tryd.func53, Tryd.ntmps53
 go_wp2
 go_loopg [8] k (fun kq v8 w' => ∃ (x8_1 : Int), v8 = .int .i64 x8_1 ∧ Aside0 (api_Count_53_at_bag_Sum_1.l0 kq l0 (l0.length : Int) x8_1 = some r) ∧ Aside0 (kq ≤ k) ∧ Aside0 (Below w.heap.size w w'))
 case atStart => exact ⟨(0), q9_, H', ⟨Nat.le_refl _⟩, ⟨q0_⟩⟩
 case round =>
  clear H'
  try clear p2
  obtain ⟨x8_1, rfl, HA, HK1, HB⟩ := hrel
  cases gk with
  | zero => exact absurd HA.out (by simp [api_Count_53_at_bag_Sum_1.l0])
  | succ k1 =>
   have H := HA.out
   clear HA
   simp only [api_Count_53_at_bag_Sum_1.l0] at H
   by_cases c3 : x8_1 < (l0.length : Int)
   ·rw [if_pos c3] at H
    have c3b0 : decide (x8_1 < (l0.length : Int)) = true := decide_eq_true c3
    clear c3
    by_cases c4 : 0 ≤ x8_1
    ·rw [if_pos c4] at H
     have c4b0 : decide (0 ≤ x8_1) = true := decide_eq_true c4
     clear c4
     by_cases c5 : x8_1 < (l0.length : Int)
     ·rw [if_pos c5] at H
      have c5b0 : decide (x8_1 < (l0.length : Int)) = true := decide_eq_true c5
      clear c5
      replace H := Option.bind_eq_some_iff.mp H
      obtain ⟨t345, A60, H⟩ := H
      replace H : (if t345 = true then (some x8_1) else (api_Count_53_at_bag_Sum_1.l0 k1 l0 (l0.length : Int) (wrap64 (x8_1 + 1)))) = some r := H
      have A6 := Aside0.mk A60
      clear A60
      by_cases c7 : t345 = true
      ·subst c7
       replace H := ifT_ H
       obtain rfl := Option.some.inj H
       have p344 : 0 ≤ (x8_1 : Int) := of_decide_eq_true q5_
       have q344 : x8_1 < (l0.length : Int) := of_decide_eq_true q5_
       obtain ⟨ad344, A344_0, c344_0, e344, hx344_0, hl344_0, hi344_0⟩ := at_L6 HR0.out x8_1 p344 q344
       cases e344
       replace hx344_0 := (HB.out.cell (World.block_lt_of_cell? w _ hx344_0)).trans hx344_0
       have HR344_0 := Aside0.mk hi344_0
       have HC344_0 := Aside0.mk hl344_0
       clear hi344_0 hl344_0
       replace p344 := eq_true p344
       replace q344 := eq_true q344
       go_wp2_with (first | ((with_reducible refine gate_calleeT (t := 11) rfl ?_); refine goesTL_ (some 16) rfl rfl Tryd.func43 (by kernel_rfl) rfl #[.slice A344_0 (rd_L6 l0 x8_1).length c344_0] rfl (by rfl) q2_ ?_; (with_reducible refine (bag_Sum_1.calls k1 _ _ (rd_L6 l0 x8_1) true _ ?side1 ?side2 A6.out q1_).mono ?_); (case side1 => repeat (first | exact (Kd.C_below HR344_0.out HB.out) | (with_reducible refine Kd.C_alloc ?_ _) | (with_reducible refine Kd.C_drewN ?_ _) | (with_reducible refine Kd.C_drew ?_))); (case side2 => exact HC344_0.out); rintro e w8 ⟨rfl, hb⟩; refine ⟨_, rfl, ?_⟩; have n0_ := Aside0.mk (below_step q0_ hb); clear HB; have HB := n0_; clear n0_; (try clear hb); (try clear hb2); (try clear hk); (try clear hi)))
       go_ret
       exact ⟨q4_, q0_⟩
      ·replace c7 := Bool.eq_false_iff.mpr c7
       subst c7
       replace H := ifF_ H
       have H' := Aside0.mk H
       clear H
       have p344 : 0 ≤ (x8_1 : Int) := of_decide_eq_true q5_
       have q344 : x8_1 < (l0.length : Int) := of_decide_eq_true q5_
       obtain ⟨ad344, A344_0, c344_0, e344, hx344_0, hl344_0, hi344_0⟩ := at_L6 HR0.out x8_1 p344 q344
       cases e344
       replace hx344_0 := (HB.out.cell (World.block_lt_of_cell? w _ hx344_0)).trans hx344_0
       have HR344_0 := Aside0.mk hi344_0
       have HC344_0 := Aside0.mk hl344_0
       clear hi344_0 hl344_0
       replace p344 := eq_true p344
       replace q344 := eq_true q344
       go_wp2_with (first | ((with_reducible refine gate_calleeT (t := 11) rfl ?_); refine goesTL_ (some 16) rfl rfl Tryd.func43 (by kernel_rfl) rfl #[.slice A344_0 (rd_L6 l0 x8_1).length c344_0] rfl (by rfl) q2_ ?_; (with_reducible refine (bag_Sum_1.calls k1 _ _ (rd_L6 l0 x8_1) false _ ?side1 ?side2 A6.out q1_).mono ?_); (case side1 => repeat (first | exact (Kd.C_below HR344_0.out HB.out) | (with_reducible refine Kd.C_alloc ?_ _) | (with_reducible refine Kd.C_drewN ?_ _) | (with_reducible refine Kd.C_drew ?_))); (case side2 => exact HC344_0.out); rintro e w9 ⟨rfl, hb⟩; refine ⟨_, rfl, ?_⟩; have n0_ := Aside0.mk (below_step q0_ hb); clear HB; have HB := n0_; clear n0_; (try clear hb); (try clear hb2); (try clear hk); (try clear hi)))
       go_roundg k1
       case measure => have := HK1.out; omega
       case rel => exact ⟨(wrap64 (x8_1 + 1)), q9_, H', ⟨by have := HK1.out; omega⟩, ⟨q0_⟩⟩
     ·rw [if_neg c5] at H
      exact absurd H (by simp)
    ·rw [if_neg c4] at H
     exact absurd H (by simp)
   ·rw [if_neg c3] at H
    have c3b0 : decide (x8_1 < (l0.length : Int)) = false := decide_eq_false c3
    clear c3
    obtain rfl := Option.some.inj H
    go_wp2
    go_ret
    exact ⟨q4_, q0_⟩
def api_Count_42_at_bag_Sum_1.f (k : Nat) (l0 : List (List (S27)))  : Option (Bool) := (api_Count_53_at_bag_Sum_1.f k l0).bind fun t346 => (some (decide (t346 ≥ 0)))
theorem api_Count_42_at_bag_Sum_1.mono : ∀ a0 k, LeO (api_Count_42_at_bag_Sum_1.f k a0) (api_Count_42_at_bag_Sum_1.f (k + 1) a0) := by
 intro a0 k
 unfold api_Count_42_at_bag_Sum_1.f
 repeat' first
   | (with_reducible exact api_Count_53_at_bag_Sum_1.mono _ _)
   | (with_reducible exact LeO.refl _)
   | (with_reducible exact LeO.none _)
   | (with_reducible refine LeO.ite ?_ ?_)
   | (with_reducible refine LeO.bind ?_ (fun _ => ?_))
   | exact api_Count_53_at_bag_Sum_1.mono _ _
   | exact LeO.none _
   | refine LeO.ite ?_ ?_
   | refine LeO.bind ?_ (fun _ => ?_)
set_option maxHeartbeats 8000000 in
set_option maxRecDepth 100000 in
theorem api_Count_42_at_bag_Sum_1.calls (k : Nat) (A0 : Option Addr) (c0 : Nat) (l0 : List (List (S27)))  (r : Bool) (w : World) (hr0 : Kd.C (Kd.slice 27 k27) w A0 l0.length l0) (hc0 : l0.length ≤ c0) (h : api_Count_42_at_bag_Sum_1.f k l0 = some r) (hG : Glob w) :
  Calls Tryd.prog 42 #[.slice A0 l0.length c0, (.func (.func 43) #[] #[])] w fun e w' => e = .returned (.bool r) ∧ Below w.heap.size w w' := by
 have HG := Aside0.mk hG
 clear hG
 have HR0 := Aside0.mk hr0
 have HC0 := Aside0.mk hc0
 clear hr0 hc0
 have HB := Aside0.mk (Below.refl w.heap.size w)
 have H : ((api_Count_53_at_bag_Sum_1.f k l0).bind fun t346 => (some (decide (t346 ≥ 0)))) = some r := h
 clear h
 replace H := Option.bind_eq_some_iff.mp H
 obtain ⟨t346, A30, H⟩ := H
 replace H : (some (decide (t346 ≥ 0))) = some r := H
 have A3 := Aside0.mk A30
 clear A30
 obtain rfl := Option.some.inj H
 go_enter Tryd.func42, Tryd.ntmps42
 go_wp2_with (first | ((with_reducible refine gate_callee (f := 53) rfl ?_); refine goesL_ (some 7) rfl rfl Tryd.func53 (by kernel_rfl) rfl #[.slice A0 l0.length c0, (.func (.func 43) #[] #[])] rfl q2_ ?_; (with_reducible refine (api_Count_53_at_bag_Sum_1.calls k _ _ l0  t346 _ ?side1 ?side2 A3.out q1_).mono ?_); (case side1 => repeat (first | exact HR0.out | (with_reducible refine Kd.C_alloc ?_ _) | (with_reducible refine Kd.C_drewN ?_ _) | (with_reducible refine Kd.C_drew ?_))); (case side2 => exact HC0.out); rintro e w4 ⟨rfl, hb⟩; refine ⟨_, rfl, ?_⟩; have n0_ := Aside0.mk (below_step q0_ hb); clear HB; have HB := n0_; clear n0_; (try clear hb); (try clear hb2); (try clear hk); (try clear hi)))
 go_ret
 exact ⟨q4_, q0_⟩
def bag_Sum.f (k : Nat) (l0 : List (List (S27))) : Option ((List (S27)) × Int) := (api_Count_42_at_bag_Sum_1.f k l0).bind fun t347 => (if t347 = true then (some (([] : List (S27)), 1)) else ((api_Count_44.f l0).bind fun t348 => ((bag_Sort.f k t348).bind fun bt351 => (some (bt351.1, bt351.2)))))
theorem bag_Sum.mono : ∀ a0 k, LeO (bag_Sum.f k a0) (bag_Sum.f (k + 1) a0) := by
 intro a0 k
 unfold bag_Sum.f
 repeat' first
   | (with_reducible exact api_Count_42_at_bag_Sum_1.mono _ _)
   | (with_reducible exact bag_Sort.mono _ _)
   | (with_reducible exact LeO.refl _)
   | (with_reducible exact LeO.none _)
   | (with_reducible refine LeO.ite ?_ ?_)
   | (with_reducible refine LeO.bind ?_ (fun _ => ?_))
   | exact api_Count_42_at_bag_Sum_1.mono _ _
   | exact bag_Sort.mono _ _
   | exact LeO.none _
   | refine LeO.ite ?_ ?_
   | refine LeO.bind ?_ (fun _ => ?_)
set_option maxHeartbeats 8000000 in
set_option maxRecDepth 100000 in
theorem bag_Sum.calls (k : Nat) (P0_ : Nat → Prop) (A0 : Option Addr) (c0 : Nat) (l0 : List (List (S27))) (r1 : List (S27)) (r2 : Int) (w : World) (hs0 : Kd.V (Kd.slice 27 k27) 22 w w.heap.size (fun k_ => P0_ k_) (.slice A0 l0.length c0) l0) (h : bag_Sum.f k l0 = some (r1, r2)) (hG : Glob w) :
  Calls Tryd.prog 22 #[.slice A0 l0.length c0] w fun e w' => ∃ v0_ : Value, e = .returned (.tuple #[v0_, .int .i64 r2]) ∧ Kd.N k27 27 w' w.heap.size (fun k_ => (P0_ k_ ∨ w.heap.size ≤ k_)) v0_ r1 ∧ Below w.heap.size w w' := by
 have HG := Aside0.mk hG
 clear hG
 have HO0 := Aside0.mk (show Kd.V (Kd.slice 27 k27) 22 w w.heap.size (fun k_ => (P0_ k_ ∨ w.heap.size ≤ k_)) (.slice A0 l0.length c0) l0 from Kd.V_mono hs0 (fun k_ hk => .inl hk))
 have HB := Aside0.mk (Below.refl w.heap.size w)
 have H : ((api_Count_42_at_bag_Sum_1.f k l0).bind fun t347 => (if t347 = true then (some (([] : List (S27)), 1)) else ((api_Count_44.f l0).bind fun t348 => ((bag_Sort.f k t348).bind fun bt351 => (some (bt351.1, bt351.2)))))) = some (r1, r2) := h
 clear h
 replace H := Option.bind_eq_some_iff.mp H
 obtain ⟨t347, A20, H⟩ := H
 replace H : (if t347 = true then (some (([] : List (S27)), 1)) else ((api_Count_44.f l0).bind fun t348 => ((bag_Sort.f k t348).bind fun bt351 => (some (bt351.1, bt351.2))))) = some (r1, r2) := H
 have A2 := Aside0.mk A20
 clear A20
 by_cases c3 : t347 = true
 ·subst c3
  replace H := ifT_ H
  simp only [Option.some.injEq, Prod.mk.injEq] at H
  obtain ⟨rfl, rfl⟩ := H
  go_enter Tryd.func22, Tryd.ntmps22
  go_wp2_with (first | ((with_reducible refine gate_callee (f := 42) rfl ?_); refine goesL_ (some 5) rfl rfl Tryd.func42 (by kernel_rfl) rfl #[.slice A0 l0.length c0, (.func (.func 43) #[] #[])] rfl q2_ ?_; (with_reducible refine (api_Count_42_at_bag_Sum_1.calls k _ _ l0  true _ ?side1 ?side2 A2.out q1_).mono ?_); (case side1 => repeat (first | exact (Kd.V_reads' HO0.out).2.2 | (with_reducible refine Kd.C_alloc ?_ _) | (with_reducible refine Kd.C_drewN ?_ _) | (with_reducible refine Kd.C_drew ?_))); (case side2 => exact (Kd.V_reads' HO0.out).2.1); rintro e w4 ⟨rfl, hb⟩; refine ⟨_, rfl, ?_⟩; have n0_ := Aside0.mk (Kd.V_below q24_ hb); have n1_ := Aside0.mk (below_step q0_ hb); clear HO0; clear HB; have HO0 := n0_; have HB := n1_; clear n0_ n1_; (try clear hb); (try clear hb2); (try clear hk); (try clear hi)))
  go_ret2
  exact ⟨_, q4_, q19_, q0_⟩
 ·replace c3 := Bool.eq_false_iff.mpr c3
  subst c3
  replace H := ifF_ H
  replace H := Option.bind_eq_some_iff.mp H
  obtain ⟨t348, A50, H⟩ := H
  replace H : ((bag_Sort.f k t348).bind fun bt351 => (some (bt351.1, bt351.2))) = some (r1, r2) := H
  have A5 := Aside0.mk A50
  clear A50
  replace H := Option.bind_eq_some_iff.mp H
  obtain ⟨⟨t351, t354⟩, A60, H⟩ := H
  replace H : (some (t351, t354)) = some (r1, r2) := H
  have A6 := Aside0.mk A60
  clear A60
  simp only [Option.some.injEq, Prod.mk.injEq] at H
  obtain ⟨rfl, rfl⟩ := H
  go_enter Tryd.func22, Tryd.ntmps22
  go_wp2_with (first | ((with_reducible refine gate_callee (f := 42) rfl ?_); refine goesL_ (some 5) rfl rfl Tryd.func42 (by kernel_rfl) rfl #[.slice A0 l0.length c0, (.func (.func 43) #[] #[])] rfl q2_ ?_; (with_reducible refine (api_Count_42_at_bag_Sum_1.calls k _ _ l0  false _ ?side1 ?side2 A2.out q1_).mono ?_); (case side1 => repeat (first | exact (Kd.V_reads' HO0.out).2.2 | (with_reducible refine Kd.C_alloc ?_ _) | (with_reducible refine Kd.C_drewN ?_ _) | (with_reducible refine Kd.C_drew ?_))); (case side2 => exact (Kd.V_reads' HO0.out).2.1); rintro e w7 ⟨rfl, hb⟩; refine ⟨_, rfl, ?_⟩; have n0_ := Aside0.mk (Kd.V_below q24_ hb); have n1_ := Aside0.mk (below_step q0_ hb); clear HO0; clear HB; have HO0 := n0_; have HB := n1_; clear n0_ n1_; (try clear hb); (try clear hb2); (try clear hk); (try clear hi)) | ((with_reducible refine gate_callee (f := 44) rfl ?_); refine goesL_ (some 7) rfl rfl Tryd.func44 (by kernel_rfl) rfl #[.slice A0 l0.length c0] rfl q2_ ?_; (with_reducible refine (api_Count_44.calls (fun k_ => (P0_ k_ ∨ w.heap.size ≤ k_)) _ _ l0 t348 _ ?side1 A5.out).mono ?_); (case side1 => exact HO0.out); rintro e w8 ⟨v349, rfl, ho0, hb⟩; refine ⟨_, rfl, ?_⟩; have n0_ := Aside0.mk (Kd.V_elder' q24_ (Kd.N_base ho0) hb); have n1_ := Aside0.mk (Kd.N_lower (Kd.N_mono (ok' := fun k_ => (P0_ k_ ∨ w.heap.size ≤ k_)) ho0 (fun k_ hk_ => Or.elim hk_ (fun hs_ => hs_) (fun hn_ => (.inr (Nat.le_trans (below_size q0_) hn_))))) (below_size q0_)); have n2_ := Aside0.mk (below_step q0_ hb); clear HO0; clear HB; have HO0 := n0_; have HO350 := n1_; have HB := n2_; clear n0_ n1_ n2_; (try clear hb); (try clear hb2); (try clear hk); (try clear hi); (try clear ho0); obtain ⟨Ao9, co9, eo9⟩ := Kd.N_slice HO350.out; subst eo9) | ((with_reducible refine gate_callee (f := 18) rfl ?_); refine goesL_ (some 8) rfl rfl Tryd.func18 (by kernel_rfl) rfl #[.slice Ao9 t348.length co9] rfl q2_ ?_; (with_reducible refine (bag_Sort.calls k (fun k_ => (P0_ k_ ∨ w.heap.size ≤ k_)) _ _ t348 t351 t354 _ ?side1 A6.out q1_).mono ?_); (case side1 => exact Kd.N_V (HO350.out)); rintro e w10 ⟨v352, rfl, ho0, hb⟩; refine ⟨_, rfl, ?_⟩; have n0_ := Aside0.mk (Kd.V_elder' q24_ (Kd.N_base ho0) hb); have n1_ := Aside0.mk (Kd.N_elder' (by (with_reducible repeat (first | apply Kd.N_alloc | apply Kd.N_drewN | apply Kd.N_drew)); exact HO350.out) (Kd.N_base ho0) hb); have n2_ := Aside0.mk (Kd.N_lower (Kd.N_mono (ok' := fun k_ => (P0_ k_ ∨ w.heap.size ≤ k_)) ho0 (fun k_ hk_ => Or.elim hk_ (fun hs_ => hs_) (fun hn_ => (.inr (Nat.le_trans (below_size q0_) hn_))))) (below_size q0_)); have n3_ := Aside0.mk (below_step q0_ hb); clear HO0; clear HO350; clear HB; have HO0 := n0_; have HO350 := n1_; have HO353 := n2_; have HB := n3_; clear n0_ n1_ n2_ n3_; (try clear hb); (try clear hb2); (try clear hk); (try clear hi); (try clear ho0)))
  go_ret2
  exact ⟨_, q4_, by (with_reducible repeat (first | apply Kd.N_alloc | apply Kd.N_drewN | apply Kd.N_drew)); exact HO353.out, q0_⟩

end Go.Proofs.YtckligjgnbgdiaaDoor.P
