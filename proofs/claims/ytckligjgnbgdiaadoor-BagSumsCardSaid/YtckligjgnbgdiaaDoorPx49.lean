-- HALVED
import Derived.Test.YtckligjgnbgdiaaDoorPx0
import Derived.Test.YtckligjgnbgdiaaDoorPx1
import Derived.Test.YtckligjgnbgdiaaDoorPx22
namespace Go.Proofs.YtckligjgnbgdiaaDoor.P
open Go.RowKit Go.Proofs.YtckligjgnbgdiaaDoorW.PrintWords Go.Proofs.YtckligjgnbgdiaaDoorW.PrintLast Go.Proofs.YtckligjgnbgdiaaDoorW.PrintMore
attribute [local go_sem] max2_int min2_mn max_two min_two max_three min_three max_four min_four   -- for this text's walks alone
set_option linter.unusedVariables false
set_option linter.unusedSimpArgs false

abbrev b49_0 : Array Bool := #[false, false, false, false, false, false, false, false, false, false, false, false, false, false, false]
abbrev b49_1 : Array Bool := #[true, false, false, false, false, false, false, false, false, false, false, false, false, false, false]
abbrev b49_2 : Array Bool := #[true, true, false, false, false, false, false, false, false, false, false, false, false, false, false]
abbrev b49_3 : Array Bool := #[true, true, true, false, false, false, false, false, false, false, false, false, false, false, false]
abbrev b49_4 : Array Bool := #[true, true, true, true, false, false, false, false, false, false, false, false, false, false, false]
abbrev b49_5 : Array Bool := #[true, true, true, true, true, false, false, false, false, false, false, false, false, false, false]
abbrev b49_6 : Array Bool := #[true, true, true, true, true, true, false, false, false, false, false, false, false, false, false]
abbrev b49_7 : Array Bool := #[true, true, true, true, true, true, true, false, false, false, false, false, false, false, false]
abbrev b49_8 : Array Bool := #[true, true, true, true, true, true, true, true, false, false, false, false, false, false, false]
abbrev b49_9 : Array Bool := #[true, true, true, true, true, true, true, true, true, false, false, false, false, false, false]
abbrev b49_10 : Array Bool := #[true, true, true, true, true, true, true, true, true, false, true, false, false, false, false]
abbrev b49_11 : Array Bool := #[true, true, true, true, true, true, true, true, true, true, true, false, false, false, false]
abbrev b49_12 : Array Bool := #[true, true, true, true, true, true, true, true, true, true, true, true, false, false, false]
abbrev b49_13 : Array Bool := #[true, true, true, true, true, true, true, true, true, true, true, true, true, false, false]
abbrev b49_14 : Array Bool := #[true, true, true, true, true, true, true, true, true, true, true, true, true, true, false]
abbrev b49_15 : Array Bool := #[true, true, true, true, true, true, true, true, true, true, true, true, true, true, true]
abbrev b49_16 : Array Bool := #[false, false, false, false, false, false, false, false, false, false]
abbrev b49_17 : Array Bool := #[true, false, false, false, false, false, false, false, false, false]
abbrev b49_18 : Array Bool := #[true, false, true, false, false, false, false, false, false, false]
abbrev b49_19 : Array Bool := #[true, false, true, true, false, false, false, false, false, false]
abbrev b49_20 : Array Bool := #[true, false, true, true, true, false, false, false, false, false]
abbrev b49_21 : Array Bool := #[true, false, true, true, true, true, false, false, false, false]
abbrev b49_22 : Array Bool := #[true, true, true, true, true, true, false, false, false, false]
abbrev b49_23 : Array Bool := #[true, true, true, true, true, true, true, false, false, false]
abbrev b49_24 : Array Bool := #[true, true, true, true, true, true, true, true, false, false]
abbrev b49_25 : Array Bool := #[true, true, true, true, true, true, true, true, true, false]
abbrev b49_26 : Array Bool := #[true, true, true, true, true, true, true, true, true, true]
abbrev b49_27 : Array Bool := #[true, true, true, true, true, true, true, true, true, true, false, false, false, false, false]
mutual
def bag_Sort.l0 : Nat → List (S27) → List (S27) → Int → Option ((List (S27)) × Int)
 | 0, _, _, _ => none
 | k + 1, x0, x4, x5 => if x5 < (x0.length : Int) then (if 0 ≤ x5 then ((api_Value_41.f ((rd_T27 x0 x5).f0)).bind fun t179 => (bag_Sort.l1 k x0 x4 x5 t179 0)) else (none)) else (some (x4, 0))
def bag_Sort.j2 : Nat → List (S27) → List (S27) → Int → List (S51) → Int → Option ((List (S27)) × Int)
 | 0, _, _, _, _, _ => none
 | k + 1, x0, x4, x5, x183000, x183001 => (bag_fits.f x183001).bind fun t186 => (if t186 = true then (if x183001 = 0 then (bag_Sort.l0 k x0 x4 x5) else (if x4.length < 4398046511104 then (bag_Sort.l0 k x0 (x4 ++ [(⟨x183000, x183001⟩ : S27)]) x5) else (none))) else (some (([] : List (S27)), 14)))
def bag_Sort.l1 : Nat → List (S27) → List (S27) → Int → List (S51) → Int → Option ((List (S27)) × Int)
 | 0, _, _, _, _, _ => none
 | k + 1, x0, x4, x5, x183000, x183001 => if x5 < (x0.length : Int) then (if 0 ≤ x5 then ((value_Rows.f k ((rd_T27 x0 x5).f0) x183000).bind fun t184 => (if t184 = 0 then (bag_Sort.l1 k x0 x4 (wrap64 (x5 + 1)) x183000 (wrap64 (x183001 + ((rd_T27 x0 x5).f1)))) else (bag_Sort.j2 k x0 x4 x5 x183000 x183001))) else (none)) else (bag_Sort.j2 k x0 x4 x5 x183000 x183001)
end
def bag_Sort.f (k : Nat) (l0 : List (S27)) : Option ((List (S27)) × Int) := (api_Count_32_at_bag_Sort_1.f k l0).bind fun t173 => (if t173 = true then (some (([] : List (S27)), 1)) else ((api_Count_38.f l0).bind fun t174 => ((api_Count_39_at_bag_Sort_2.f k t174).bind fun t177 => (bag_Sort.l0 k t177 ([] : List (S27)) 0))))
theorem bag_Sort.mono_l : ∀ k, (∀ y0 y1 y2, LeO (bag_Sort.l0 k y0 y1 y2) (bag_Sort.l0 (k + 1) y0 y1 y2)) ∧ (∀ y0 y1 y2 y3 y4, LeO (bag_Sort.j2 k y0 y1 y2 y3 y4) (bag_Sort.j2 (k + 1) y0 y1 y2 y3 y4)) ∧ (∀ y0 y1 y2 y3 y4, LeO (bag_Sort.l1 k y0 y1 y2 y3 y4) (bag_Sort.l1 (k + 1) y0 y1 y2 y3 y4))
 | 0 => ⟨fun _ _ _ r h => by simp [bag_Sort.l0] at h, fun _ _ _ _ _ r h => by simp [bag_Sort.j2] at h, fun _ _ _ _ _ r h => by simp [bag_Sort.l1] at h⟩
 | k + 1 => by
  obtain ⟨ih0, ih1, ih2⟩ := bag_Sort.mono_l k
  refine ⟨?_, ?_, ?_⟩
  all_goals intros
  all_goals first
   | unfold bag_Sort.l0
   | unfold bag_Sort.j2
   | unfold bag_Sort.l1
  all_goals repeat' first
   | (with_reducible exact ih0 _ _ _)
   | (with_reducible exact ih1 _ _ _ _ _)
   | (with_reducible exact ih2 _ _ _ _ _)
   | (with_reducible exact api_Count_32_at_bag_Sort_1.mono _ _)
   | (with_reducible exact api_Count_39_at_bag_Sort_2.mono _ _)
   | (with_reducible exact value_Rows.mono _ _ _)
   | (with_reducible exact LeO.refl _)
   | (with_reducible exact LeO.none _)
   | (with_reducible refine LeO.ite ?_ ?_)
   | (with_reducible refine LeO.bind ?_ (fun _ => ?_))
   | exact ih0 _ _ _
   | exact ih1 _ _ _ _ _
   | exact ih2 _ _ _ _ _
   | exact api_Count_32_at_bag_Sort_1.mono _ _
   | exact api_Count_39_at_bag_Sort_2.mono _ _
   | exact value_Rows.mono _ _ _
   | exact LeO.none _
   | refine LeO.ite ?_ ?_
   | refine LeO.bind ?_ (fun _ => ?_)
theorem bag_Sort.mono : ∀ a0 k, LeO (bag_Sort.f k a0) (bag_Sort.f (k + 1) a0) := by
 intro a0 k
 obtain ⟨ih0, ih1, ih2⟩ := bag_Sort.mono_l k
 unfold bag_Sort.f
 repeat' first
   | (with_reducible exact ih0 _ _ _)
   | (with_reducible exact ih1 _ _ _ _ _)
   | (with_reducible exact ih2 _ _ _ _ _)
   | (with_reducible exact api_Count_32_at_bag_Sort_1.mono _ _)
   | (with_reducible exact api_Count_39_at_bag_Sort_2.mono _ _)
   | (with_reducible exact value_Rows.mono _ _ _)
   | (with_reducible exact LeO.refl _)
   | (with_reducible exact LeO.none _)
   | (with_reducible refine LeO.ite ?_ ?_)
   | (with_reducible refine LeO.bind ?_ (fun _ => ?_))
   | exact ih0 _ _ _
   | exact ih1 _ _ _ _ _
   | exact ih2 _ _ _ _ _
   | exact api_Count_32_at_bag_Sort_1.mono _ _
   | exact api_Count_39_at_bag_Sort_2.mono _ _
   | exact value_Rows.mono _ _ _
   | exact LeO.none _
   | refine LeO.ite ?_ ?_
   | refine LeO.bind ?_ (fun _ => ?_)
def bag_Sort.T9 : Bool × List (List Nat × List Nat) := (true, [([], []), ([], []), ([1], [1]), ([0, 2], [0, 2]), ([3], [3]), ([4], [4]), ([4], [4]), ([5, 6, 4], [4, 5, 6]), ([7, 4], [4, 7]), ([8, 4], [4, 8]), ([4], [4]), ([10, 4], [4, 10]), ([9, 11, 4, 4], [4, 9, 11]), ([12, 4], [4, 12]), ([4, 13], [4, 13])])
def bag_Sort.B9 : List Nat := [0, 0, 2, 7, 15, 31, 31, 127, 255, 511, 31, 1055, 4095, 8191, 16383]
theorem bag_Sort.tab9 : rtab .any (opsOf Tryd.f18 9) = bag_Sort.T9 := by kernel_rfl
theorem bag_Sort.bits9 : waitsOk bag_Sort.T9.2 bag_Sort.B9 = true := by kernel_rfl
def bag_Sort.T11 : Bool × List (List Nat × List Nat) := (true, [([], []), ([0], [0]), ([], []), ([], []), ([2, 3], [2, 3]), ([4], [4]), ([5], [5]), ([1, 6], [1, 6]), ([0, 1, 2, 3, 4, 5, 6, 7], []), ([8, 7, 0, 1, 2, 3, 4, 5, 6, 7], [7, 8])])
def bag_Sort.B11 : List Nat := [0, 1, 0, 0, 12, 28, 60, 127, 255, 511]
theorem bag_Sort.tab11 : rtab .any (opsOf Tryd.f18 11) = bag_Sort.T11 := by kernel_rfl
theorem bag_Sort.bits11 : waitsOk bag_Sort.T11.2 bag_Sort.B11 = true := by kernel_rfl
set_option maxHeartbeats 8000000 in
set_option maxRecDepth 100000 in
theorem bag_Sort.calls (k : Nat) (P0_ : Nat → Prop) (A0 : Option Addr) (c0 : Nat) (l0 : List (S27)) (r1 : List (S27)) (r2 : Int) (w : World) (hs0 : Kd.V k27 27 w w.heap.size (fun k_ => P0_ k_) (.slice A0 l0.length c0) l0) (h : bag_Sort.f k l0 = some (r1, r2)) (hG : Glob w) :
  Calls Tryd.prog 18 #[.slice A0 l0.length c0] w fun e w' => ∃ v0_ : Value, e = .returned (.tuple #[v0_, .int .i64 r2]) ∧ Kd.N k27 27 w' w.heap.size (fun k_ => (P0_ k_ ∨ w.heap.size ≤ k_)) v0_ r1 ∧ Below w.heap.size w w' := by
 have hu27 := Tryd.underlying27
 have HG := Aside0.mk hG
 clear hG
 have HO0 := Aside0.mk (show Kd.V k27 27 w w.heap.size (fun k_ => (P0_ k_ ∨ w.heap.size ≤ k_)) (.slice A0 l0.length c0) l0 from Kd.V_mono hs0 (fun k_ hk => .inl hk))
 have HB := Aside0.mk (Below.refl w.heap.size w)
 have H : ((api_Count_32_at_bag_Sort_1.f k l0).bind fun t173 => (if t173 = true then (some (([] : List (S27)), 1)) else ((api_Count_38.f l0).bind fun t174 => ((api_Count_39_at_bag_Sort_2.f k t174).bind fun t177 => (bag_Sort.l0 k t177 ([] : List (S27)) 0))))) = some (r1, r2) := h
 clear h
 replace H := Option.bind_eq_some_iff.mp H
 obtain ⟨t173, A20, H⟩ := H
 replace H : (if t173 = true then (some (([] : List (S27)), 1)) else ((api_Count_38.f l0).bind fun t174 => ((api_Count_39_at_bag_Sort_2.f k t174).bind fun t177 => (bag_Sort.l0 k t177 ([] : List (S27)) 0)))) = some (r1, r2) := H
 have A2 := Aside0.mk A20
 clear A20
 by_cases c3 : t173 = true
 ·subst c3
  replace H := ifT_ H
  simp only [Option.some.injEq, Prod.mk.injEq] at H
  obtain ⟨rfl, rfl⟩ := H
  go_enter Tryd.func18, Tryd.ntmps18
  go_wp2_with (first | ((with_reducible refine gate_callee (f := 32) rfl ?_); refine goesL_ (some 8) rfl rfl Tryd.func32 (by kernel_rfl) rfl #[.slice A0 l0.length c0, (.func (.func 37) #[] #[])] rfl q2_ ?_; (with_reducible refine (api_Count_32_at_bag_Sort_1.calls k _ _ l0  true _ ?side1 ?side2 A2.out q1_).mono ?_); (case side1 => repeat (first | exact (Kd.V_reads' HO0.out).2.2 | (with_reducible refine Kd.C_alloc ?_ _) | (with_reducible refine Kd.C_drewN ?_ _) | (with_reducible refine Kd.C_drew ?_))); (case side2 => exact (Kd.V_reads' HO0.out).2.1); rintro e w4 ⟨rfl, hb⟩; refine ⟨_, rfl, ?_⟩; have n0_ := Aside0.mk (Kd.V_below q24_ hb); have n1_ := Aside0.mk (below_step q0_ hb); clear HO0; clear HB; have HO0 := n0_; have HB := n1_; clear n0_ n1_; (try clear hb); (try clear hb2); (try clear hk); (try clear hi)))
  go_ret2
  exact ⟨_, q4_, q19_, q0_⟩
 ·replace c3 := Bool.eq_false_iff.mpr c3
  subst c3
  replace H := ifF_ H
  replace H := Option.bind_eq_some_iff.mp H
  obtain ⟨t174, A50, H⟩ := H
  replace H : ((api_Count_39_at_bag_Sort_2.f k t174).bind fun t177 => (bag_Sort.l0 k t177 ([] : List (S27)) 0)) = some (r1, r2) := H
  have A5 := Aside0.mk A50
  clear A50
  replace H := Option.bind_eq_some_iff.mp H
  obtain ⟨t177, A60, H⟩ := H
  replace H : (bag_Sort.l0 k t177 ([] : List (S27)) 0) = some (r1, r2) := H
  have A6 := Aside0.mk A60
  clear A60
  have H' := Aside0.mk H
  clear H
  go_enter Tryd.func18, Tryd.ntmps18
  go_wp2_with (first | ((with_reducible refine gate_callee (f := 32) rfl ?_); refine goesL_ (some 8) rfl rfl Tryd.func32 (by kernel_rfl) rfl #[.slice A0 l0.length c0, (.func (.func 37) #[] #[])] rfl q2_ ?_; (with_reducible refine (api_Count_32_at_bag_Sort_1.calls k _ _ l0  false _ ?side1 ?side2 A2.out q1_).mono ?_); (case side1 => repeat (first | exact (Kd.V_reads' HO0.out).2.2 | (with_reducible refine Kd.C_alloc ?_ _) | (with_reducible refine Kd.C_drewN ?_ _) | (with_reducible refine Kd.C_drew ?_))); (case side2 => exact (Kd.V_reads' HO0.out).2.1); rintro e w7 ⟨rfl, hb⟩; refine ⟨_, rfl, ?_⟩; have n0_ := Aside0.mk (Kd.V_below q24_ hb); have n1_ := Aside0.mk (below_step q0_ hb); clear HO0; clear HB; have HO0 := n0_; have HB := n1_; clear n0_ n1_; (try clear hb); (try clear hb2); (try clear hk); (try clear hi)) | ((with_reducible refine gate_callee (f := 38) rfl ?_); refine goesL_ (some 10) rfl rfl Tryd.func38 (by kernel_rfl) rfl #[.slice A0 l0.length c0] rfl q2_ ?_; (with_reducible refine (api_Count_38.calls (fun k_ => (P0_ k_ ∨ w.heap.size ≤ k_)) _ _ l0 t174 _ ?side1 A5.out).mono ?_); (case side1 => exact HO0.out); rintro e w8 ⟨v175, rfl, ho0, hb⟩; refine ⟨_, rfl, ?_⟩; have n0_ := Aside0.mk (Kd.V_elder' q24_ (Kd.N_base ho0) hb); have n1_ := Aside0.mk (Kd.N_lower (Kd.N_mono (ok' := fun k_ => (P0_ k_ ∨ w.heap.size ≤ k_)) ho0 (fun k_ hk_ => Or.elim hk_ (fun hs_ => hs_) (fun hn_ => (.inr (Nat.le_trans (below_size q0_) hn_))))) (below_size q0_)); have n2_ := Aside0.mk (below_step q0_ hb); clear HO0; clear HB; have HO0 := n0_; have HO176 := n1_; have HB := n2_; clear n0_ n1_ n2_; (try clear hb); (try clear hb2); (try clear hk); (try clear hi); (try clear ho0); obtain ⟨Ao9, co9, eo9⟩ := Kd.N_slice HO176.out; subst eo9) | ((with_reducible refine gate_callee (f := 39) rfl ?_); refine goesL_ (some 12) rfl rfl Tryd.func39 (by kernel_rfl) rfl #[.slice Ao9 t174.length co9, (.func (.func 40) #[] #[])] rfl q2_ ?_; (with_reducible refine (api_Count_39_at_bag_Sort_2.calls k (fun k_ => ((P0_ k_ ∨ w.heap.size ≤ k_))) (fun k_ => some k_ = (.slice Ao9 t174.length co9 : Value).ownBlock) (.slice Ao9 t174.length co9) t174  t177 w _ ?side1 ?side2 A6.out).mono ?_); (case side1 => repeat (first | (with_reducible first | exact HB.out | apply below_alloc | apply pw_below_drewN | apply below_drew1) | exact HB.out)); (case side2 => exact ⟨HO176.out, fun _ h_ => h_⟩); rintro e w10 ⟨rfl, hy0, hb, hkp⟩; refine ⟨_, rfl, ?_⟩; have n0_ := Aside0.mk (Kd.V_mono (ok' := fun k_ => (P0_ k_ ∨ w.heap.size ≤ k_) ∧ some k_ ≠ (.slice Ao9 t174.length co9 : Value).ownBlock) (Kd.V_keptB (HO0.out) hkp (fun k_ hk_ hs_ => (hk_.2) hs_)) (fun k_ hk_ => ⟨hk_.1.1, hk_.1.2⟩)); have n1_ := Aside0.mk (hy0); have n2_ := Aside0.mk (hb); clear HO0; clear HO176; clear HB; have HO0 := n0_; have HO176 := n1_; have HB := n2_; clear n0_ n1_ n2_; (try clear hb); (try clear hkp); (try clear hy0)))
  go_loopg [4, 5] k (fun kq v4 v5 w' => ∃ (x4_1 : List (S27)) (x5_1 : Int), v5 = .int .i64 x5_1 ∧ Aside0 (bag_Sort.l0 kq t177 x4_1 x5_1 = some (r1, r2)) ∧ Aside0 (kq ≤ k) ∧ Aside0 (Kd.N k27 27 w' w.heap.size (fun k_ => (P0_ k_ ∨ w.heap.size ≤ k_) ∧ some k_ ≠ (v4 : Value).ownBlock) (.slice Ao9 t174.length co9) t177) ∧ Aside0 (Kd.N k27 27 w' w.heap.size (fun k_ => (P0_ k_ ∨ w.heap.size ≤ k_) ∧ some k_ ≠ ((.slice Ao9 t174.length co9) : Value).ownBlock) v4 x4_1) ∧ Aside0 (Below w.heap.size w w'))
  case atStart => exact ⟨(([] : List (S27))), (0), q9_, H', ⟨Nat.le_refl _⟩, ⟨by (with_reducible repeat (first | apply Kd.N_alloc | apply Kd.N_drewN | apply Kd.N_drew)); exact Kd.N_mono HO176.out (fun _ hk => ⟨hk, (by simp [Value.ownBlock])⟩)⟩, ⟨q19_⟩, ⟨q0_⟩⟩
  case round =>
   clear H'
   try clear c1
   try clear p2
   try clear c3
   obtain ⟨x4_1, x5_1, rfl, HA, HK1, HO_0, HO_4, HB⟩ := hrel
   have hl0_1 := (Kd.N_reads' HO_0.out).1
   rw [hl0_1] at HO_0
   (try simp only [hl0_1])
   (try simp only [hl0_1] at HO_4)
   cases gk with
   | zero => exact absurd HA.out (by simp [bag_Sort.l0])
   | succ k1 =>
    have H := HA.out
    clear HA
    simp only [bag_Sort.l0] at H
    by_cases c11 : x5_1 < (t177.length : Int)
    ·rw [if_pos c11] at H
     have c11b0 : decide (x5_1 < (t177.length : Int)) = true := decide_eq_true c11
     clear c11
     by_cases c12 : 0 ≤ x5_1
     ·rw [if_pos c12] at H
      have c12b0 : decide (0 ≤ x5_1) = true := decide_eq_true c12
      clear c12
      replace H := Option.bind_eq_some_iff.mp H
      obtain ⟨t179, A130, H⟩ := H
      replace H : (bag_Sort.l1 k1 t177 x4_1 x5_1 t179 0) = some (r1, r2) := H
      have A13 := Aside0.mk A130
      clear A130
      have HC14 := Aside0.mk H
      clear H
      have p178 : 0 ≤ (x5_1 : Int) := of_decide_eq_true q5_
      have q178 : x5_1 < (t177.length : Int) := of_decide_eq_true q5_
      obtain ⟨ad178, A178_0, c178_0, e178, hx178_0, hx178_1, hl178_0, hi178_0⟩ := at_T27 (Kd.N_reads' HO_0.out).2.2 x5_1 p178 q178
      cases e178
      obtain ⟨ce178, hce178, hMe178, hcc178⟩ := Kd.N_get HO_0.out z27 x5_1 p178 (by first | exact q178 | exact of_decide_eq_true q5_ | (have e_ := (Kd.N_reads' HO_0.out).1; omega))
      obtain ⟨ua178_0, uc178_0, rfl, ul178_0, ge178_0⟩ := k27_openF hMe178
      have hv178_0 := hcc178 0 _ rfl
      rw [Nat.add_zero] at hv178_0
      replace hv178_0 := Option.some.inj (hv178_0.symm.trans hx178_0)
      injection hv178_0 with hva_ hvn_ hvc_
      rw [hva_] at ge178_0
      rw [hvc_] at ul178_0
      have HL178_0 := Aside0.mk (show Kd.V k51 51 _ w.heap.size _ _ ((rd_T27 t177 x5_1).f0) from Kd.V_mk ul178_0 ge178_0)
      clear hva_ hvn_ hvc_ ge178_0 ul178_0
      clear hcc178 hce178
      have HR178_0 := Aside0.mk hi178_0
      have HC178_0 := Aside0.mk hl178_0
      clear hi178_0 hl178_0
      replace p178 := eq_true p178
      replace q178 := eq_true q178
      go_upto_block 2 with (first | ((with_reducible refine gate_callee (f := 41) rfl ?_); refine goesL_ (some 22) rfl rfl Tryd.func41 (by kernel_rfl) rfl #[.slice A178_0 ((rd_T27 t177 x5_1).f0).length c178_0] rfl q2_ ?_; (with_reducible refine (api_Value_41.calls _ _ ((rd_T27 t177 x5_1).f0) t179 _ ?side1 ?side2 A13.out).mono ?_); (case side1 => repeat (first | exact q52_ | (with_reducible refine Kd.C_alloc ?_ _) | (with_reducible refine Kd.C_drewN ?_ _) | (with_reducible refine Kd.C_drew ?_))); (case side2 => exact HC178_0.out); rintro e w15 ⟨v180, rfl, ho0, hb⟩; refine ⟨_, rfl, ?_⟩; have n0_ := Aside0.mk (Kd.N_elder' q49_ (Kd.R_base ho0) hb); have n1_ := Aside0.mk (Kd.N_elder' q46_ (Kd.R_base ho0) hb); have n2_ := Aside0.mk (Kd.V_elder' (by (with_reducible repeat (first | apply Kd.V_alloc | apply Kd.V_drewN | apply Kd.V_drew)); exact HL178_0.out) (Kd.R_base ho0) hb); have n3_ := Aside0.mk (Kd.R_lower (Kd.R_newM (M := fun k_ => (w.heap.size ≤ k_)) ho0 (below_size q0_) (fun k_ h_ => h_)) (below_size q0_)); have n4_ := Aside0.mk (Kd.C_below q52_ hb); have n5_ := Aside0.mk (below_step q0_ hb); clear HO_0; clear HO_4; clear HL178_0; clear HR178_0; clear HB; have HO_0 := n0_; have HO_4 := n1_; have HL178_0 := n2_; have HO181 := n3_; have HR178_0 := n4_; have HB := n5_; clear n0_ n1_ n2_ n3_ n4_ n5_; (try clear hb); (try clear hb2); (try clear hk); (try clear hi); (try clear ho0); obtain ⟨Ao16, co16, eo16⟩ := Kd.R_slice HO181.out; subst eo16) | ((with_reducible refine gate_dst (N := 6) rfl ?_); refine box_event ?hg (N := 6) ?hd (cs := #[.slice none 0 0, .int .i64 0]) (t := 27) ?hr ?_; (case hd => rfl); (case hg => rfl); (case hr => first | (go_simp; done) | (go_simp; rfl)); intro gb182 hg w17 hbox hb; have n0_ := Aside0.mk (Kd.N_below (Kd.N_elderB q49_ gb182 (Nat.le_of_eq hg.symm)) hb); have n1_ := Aside0.mk (Kd.N_below (Kd.N_elderB q46_ gb182 (Nat.le_of_eq hg.symm)) hb); have n2_ := Aside0.mk (Kd.V_below (Kd.V_elderB (by (with_reducible repeat (first | apply Kd.V_alloc | apply Kd.V_drewN | apply Kd.V_drew)); exact HL178_0.out) gb182 (Nat.le_of_eq hg.symm)) hb); have n3_ := Aside0.mk (Kd.R_below (by (with_reducible repeat (first | apply Kd.R_alloc | apply Kd.R_drewN | apply Kd.R_drew)); exact HO181.out) hb); have n4_ := Aside0.mk (Kd.C_below q52_ hb); have n5_ := Aside0.mk (below_step q0_ hb); have n6_ := Aside0.mk (hbox); have n7_ := Aside0.mk ((q3_ : w.heap.size ≤ gb182)); have n8_ := Aside0.mk ((q3_ : w.heap.size ≤ gb182)); clear HO_0; clear HO_4; clear HL178_0; clear HO181; clear HR178_0; clear HB; have HO_0 := n0_; have HO_4 := n1_; have HL178_0 := n2_; have HO181 := n3_; have HR178_0 := n4_; have HB := n5_; have BK182 := n6_; have GW182 := n7_; have GE182 := n8_; clear n0_ n1_ n2_ n3_ n4_ n5_ n6_ n7_ n8_; clear hb hbox hg; have hcz18_0 : w17.cell? ⟨gb182, 0, none⟩ = some (.slice none 0 0) := (blk_cell BK182.out 0).trans rfl; have hcz18_1 : w17.cell? ⟨gb182, 1, none⟩ = some (.int .i64 0) := (blk_cell BK182.out 1).trans rfl; have hfz18_0 := blk_frozen BK182.out 0; have hfz18_1 := blk_frozen BK182.out 1))
      (try simp only [Act.put, List.setIfInBounds_toArray, List.set_cons_zero, List.set_cons_succ])
      go_cut [5] (fun v5 wc => ∃ (kq : Nat) (x5_13 : Int) (x183001_13 : Int), v5 = .int .i64 x5_13 ∧ Aside0 (bag_Sort.j2 kq t177 x4_1 x5_13 t179 x183001_13 = some (r1, r2)) ∧ Aside0 (kq ≤ k1) ∧ Aside0 (Kd.N k27 27 wc w.heap.size (fun k_ => (P0_ k_ ∨ w.heap.size ≤ k_) ∧ some k_ ≠ (u4 : Value).ownBlock ∧ some k_ ≠ ((.slice Ao16 t179.length co16) : Value).ownBlock ∧ k_ ≠ gb182) (.slice (some ad178) t177.length co9) t177) ∧ Aside0 (Kd.N k27 27 wc w.heap.size (fun k_ => (P0_ k_ ∨ w.heap.size ≤ k_) ∧ some k_ ≠ ((.slice (some ad178) t177.length co9) : Value).ownBlock ∧ some k_ ≠ ((.slice Ao16 t179.length co16) : Value).ownBlock ∧ k_ ≠ gb182) u4 x4_1) ∧ Aside0 (Kd.R k51 51 wc w.heap.size (fun k_ => (w.heap.size ≤ k_)) (.slice Ao16 t179.length co16) t179) ∧ Aside0 (wc.heap[gb182]? = some (.cells #[(.slice Ao16 t179.length co16), .int .i64 x183001_13] 27 (0, 0))) ∧ Aside0 (Below w.heap.size w wc))
      case first =>
       have H := HC14.out
       clear HC14
       have H' := Aside0.mk H
       clear H
       go_wp2
       go_loopg [5] k1 (fun kq v5 w' => ∃ (x5_2 : Int) (x183001_2 : Int), v5 = .int .i64 x5_2 ∧ Aside0 (bag_Sort.l1 kq t177 x4_1 x5_2 t179 x183001_2 = some (r1, r2)) ∧ Aside0 (kq ≤ k1) ∧ Aside0 (Kd.N k27 27 w' w.heap.size (fun k_ => (P0_ k_ ∨ w.heap.size ≤ k_) ∧ some k_ ≠ (u4 : Value).ownBlock ∧ some k_ ≠ ((.slice Ao16 t179.length co16) : Value).ownBlock ∧ k_ ≠ gb182) (.slice (some ad178) t177.length co9) t177) ∧ Aside0 (Kd.N k27 27 w' w.heap.size (fun k_ => (P0_ k_ ∨ w.heap.size ≤ k_) ∧ some k_ ≠ ((.slice (some ad178) t177.length co9) : Value).ownBlock ∧ some k_ ≠ ((.slice Ao16 t179.length co16) : Value).ownBlock ∧ k_ ≠ gb182) u4 x4_1) ∧ Aside0 (Kd.R k51 51 w' w.heap.size (fun k_ => (w.heap.size ≤ k_)) (.slice Ao16 t179.length co16) t179) ∧ Aside0 (w'.heap[gb182]? = some (.cells #[(.slice Ao16 t179.length co16), .int .i64 x183001_2] 27 (0, 0))) ∧ Aside0 (Below w.heap.size w w'))
       case atStart => exact ⟨(x5_1), (0), q9_, H', ⟨Nat.le_refl _⟩, ⟨by (try simp only [hl0_1]); (with_reducible repeat (first | apply Kd.N_alloc | apply Kd.N_drewN | apply Kd.N_drew)); exact Kd.N_mono (Kd.N_far (p := ⟨gb182, 1, none⟩) (Kd.N_far (p := ⟨gb182, 0, none⟩) (Kd.N_mono HO_0.out (fun k_ hk => (⟨hk, hk.2⟩ : _ ∧ k_ ≠ gb182))) (fun _ hk => hk.2) (.slice Ao16 t179.length co16)) (fun _ hk => hk.2) (.int .i64 0)) (fun _ hk => ⟨hk.1.1.1.1, ⟨hk.1.1.1.2, ⟨hk.1.1.2, hk.1.2⟩⟩⟩)⟩, ⟨by (try simp only [hl0_1]); (with_reducible repeat (first | apply Kd.N_alloc | apply Kd.N_drewN | apply Kd.N_drew)); exact Kd.N_mono (Kd.N_far (p := ⟨gb182, 1, none⟩) (Kd.N_far (p := ⟨gb182, 0, none⟩) (Kd.N_mono HO_4.out (fun k_ hk => (⟨hk, hk.2⟩ : _ ∧ k_ ≠ gb182))) (fun _ hk => hk.2) (.slice Ao16 t179.length co16)) (fun _ hk => hk.2) (.int .i64 0)) (fun _ hk => ⟨hk.1.1.1.1, ⟨hk.1.1.1.2, ⟨hk.1.1.2, hk.1.2⟩⟩⟩)⟩, ⟨by (try simp only [hl0_1]); (with_reducible repeat (first | apply Kd.R_alloc | apply Kd.R_drewN | apply Kd.R_drew)); exact Kd.R_mono (Kd.R_far (p := ⟨gb182, 1, none⟩) (Kd.R_far (p := ⟨gb182, 0, none⟩) (Kd.R_types HO181.out BK182.out (by decide)) (fun _ hk => hk.2) (.slice Ao16 t179.length co16)) (fun _ hk => hk.2) (.int .i64 0)) (fun _ hk => hk.1.1)⟩, ⟨by (try simp only [hl0_1]); (with_reducible repeat first | apply bN_ | apply bD_ | apply bA_); refine blk_put (cs := #[.slice Ao16 t179.length co16, .int .i64 0]) ?_ 1 _ rfl; (with_reducible repeat first | apply bN_ | apply bD_ | apply bA_); refine blk_put (cs := #[.slice none 0 0, .int .i64 0]) ?_ 0 _ rfl; (with_reducible repeat first | apply bN_ | apply bD_ | apply bA_); exact BK182.out⟩, ⟨q0_⟩⟩
       case round =>
        clear H'
        try clear c1
        try clear p1
        try clear q1
        try clear hx1
        try clear p2
        try clear c3
        try clear c4
        try clear c11
        try clear c11b0
        try clear c12
        try clear c12b0
        try clear c17
        try clear p17
        try clear q17
        try clear hx17
        try clear c18
        try clear hcz18_0
        try clear hcz18_1
        try clear hfz18_0
        try clear hfz18_1
        try clear hx178_0
        try clear hx178_1
        try clear p178
        try clear p2
        try clear q178
        obtain ⟨x5_2, x183001_2, rfl, HA, HK2, HO_0, HO_4, HO_183000, BK182, HB⟩ := hrel
        cases gk with
        | zero => exact absurd HA.out (by simp [bag_Sort.l1])
        | succ k2 =>
         have H := HA.out
         clear HA
         simp only [bag_Sort.l1] at H
         by_cases c19 : x5_2 < (t177.length : Int)
         ·rw [if_pos c19] at H
          have c19b0 : decide (x5_2 < (t177.length : Int)) = true := decide_eq_true c19
          clear c19
          (first | rw [c19b0] | (simp only [i64_w, i32_w]; rw [c19b0]) | skip)
          by_cases c20 : 0 ≤ x5_2
          ·rw [if_pos c20] at H
           have c20b0 : decide (0 ≤ x5_2) = true := decide_eq_true c20
           clear c20
           replace H := Option.bind_eq_some_iff.mp H
           obtain ⟨t184, A210, H⟩ := H
           replace H : (if t184 = 0 then (bag_Sort.l1 k2 t177 x4_1 (wrap64 (x5_2 + 1)) t179 (wrap64 (x183001_2 + ((rd_T27 t177 x5_2).f1)))) else (bag_Sort.j2 k2 t177 x4_1 x5_2 t179 x183001_2)) = some (r1, r2) := H
           have A21 := Aside0.mk A210
           clear A210
           by_cases c22 : t184 = 0
           ·rw [if_pos c22] at H
            have c22b0 : (t184 == 0) = true := beq_iff_eq.mpr c22
            have c22b1 : (t184 != 0) = false := bne_eq_false_iff_eq.mpr c22
            clear c22
            have H' := Aside0.mk H
            clear H
            try go_wp2
            have n0_ := Aside0.mk (Kd.N_drew HO_0.out)
            have n1_ := Aside0.mk (Kd.N_drew HO_4.out)
            have n2_ := Aside0.mk (Kd.R_drew HO_183000.out)
            have n3_ := Aside0.mk (blk_drew BK182.out)
            have n4_ := Aside0.mk (below_drew1 HB.out)
            clear HO_0
            clear HO_4
            clear HO_183000
            clear BK182
            clear HB
            have HO_0 := n0_
            have HO_4 := n1_
            have HO_183000 := n2_
            have BK182 := n3_
            have HB := n4_
            clear n0_ n1_ n2_ n3_ n4_
            have p183 : 0 ≤ (x5_2 : Int) := of_decide_eq_true q5_
            have q183 : x5_2 < (t177.length : Int) := of_decide_eq_true q5_
            obtain ⟨ad183, A183_0, c183_0, e183, hx183_0, hx183_1, hl183_0, hi183_0⟩ := at_T27 (Kd.N_reads' HO_0.out).2.2 x5_2 p183 q183
            obtain rfl : ad178 = ad183 := (by injection e183)
            obtain ⟨ce183, hce183, hMe183, hcc183⟩ := Kd.N_get HO_0.out z27 x5_2 p183 (by first | exact q183 | exact of_decide_eq_true q5_ | (have e_ := (Kd.N_reads' HO_0.out).1; omega))
            obtain ⟨ua183_0, uc183_0, rfl, ul183_0, ge183_0⟩ := k27_openF hMe183
            have hv183_0 := hcc183 0 _ rfl
            rw [Nat.add_zero] at hv183_0
            replace hv183_0 := Option.some.inj (hv183_0.symm.trans hx183_0)
            injection hv183_0 with hva_ hvn_ hvc_
            rw [hva_] at ge183_0
            rw [hvc_] at ul183_0
            have HL183_0 := Aside0.mk (show Kd.V k51 51 _ w.heap.size _ _ ((rd_T27 t177 x5_2).f0) from Kd.V_mk ul183_0 ge183_0)
            clear hva_ hvn_ hvc_ ge183_0 ul183_0
            clear hcc183 hce183
            have HR183_0 := Aside0.mk hi183_0
            have HC183_0 := Aside0.mk hl183_0
            clear hi183_0 hl183_0
            replace p183 := eq_true p183
            replace q183 := eq_true q183
            refine start_ (n := 15) (S := fun w' => w'.cell? ⟨gb182, 0, none⟩ = some (.slice Ao16 t179.length co16) ∧ w'.cell? ⟨gb182, 1, none⟩ = some (.int .i64 x183001_2) ∧ w'.cell? (ad178.add ((x5_2).toNat * 2)) = some (.slice A183_0 ((rd_T27 t177 x5_2).f0).length c183_0) ∧ w'.cell? ⟨(ad178.add ((x5_2).toNat * 2)).block, (ad178.add ((x5_2).toNat * 2)).off + 1, none⟩ = some (.int .i64 ((rd_T27 t177 x5_2).f1))) (ds := []) b49_0 (by kernel_rfl) rfl rfl ⟨(blk_cell BK182.out 0).trans rfl, (blk_cell BK182.out 1).trans rfl, hx183_0, hx183_1⟩ (fun hHeld => ?_); refine with_tabW bag_Sort.tab9 bag_Sort.bits9 (fun HT_ HW_ => ?_)
            generalize wr.drew = w23 at HO_0 HO_4 HO_183000 BK182 HB HL183_0 HR183_0 hx183_0 hx183_1 hHeld ⊢
            refine pure_ (i := 0) (N := some 24) (v := ?_) (a' := ?_) b49_1 rfl rfl qh_ qi_ (Or.inl ⟨qr_, ?_⟩) ?_ ?_; rotate_left; (intro w'; go_simp; with_reducible rfl); rotate_left; exact qa_
            refine pure_ (i := 1) (N := some 25) (v := ?_) (a' := ?_) b49_2 rfl rfl qh_ qi_ (Or.inl ⟨qr_, ?_⟩) ?_ ?_; rotate_left; (intro w'; go_simp; with_reducible rfl); rotate_left; exact qa_
            refine pure_ (i := 2) (N := some 26) (v := ?_) (a' := ?_) b49_3 rfl rfl qh_ qi_ (Or.inl ⟨qr_, ?_⟩) ?_ ?_; rotate_left; (intro w'; go_simp; with_reducible rfl); rotate_left; exact qa_
            refine pure_ (i := 3) (N := some 27) (v := ?_) (a' := ?_) b49_4 rfl rfl qh_ qi_ (Or.inl ⟨qr_, ?_⟩) ?_ ?_; rotate_left; (intro w'; go_simp; with_reducible rfl); rotate_left; exact qa_
            refine pure_ (i := 4) (N := some 28) (v := ?_) (a' := ?_) b49_5 rfl rfl qh_ qi_ (Or.inl ⟨qr_, ?_⟩) ?_ ?_; rotate_left; (intro w'; go_simp; with_reducible rfl); rotate_left; exact qa_
            refine pure_ (i := 5) (N := some 29) (v := ?_) (a' := ?_) b49_6 rfl rfl qh_ qi_ (Or.inl ⟨qr_, ?_⟩) ?_ ?_; rotate_left; (intro w'; go_simp; with_reducible rfl); rotate_left; exact qa_
            refine pure_ (i := 6) (N := some 30) (v := ?_) (a' := ?_) b49_7 rfl rfl qh_ qi_ (Or.inl ⟨qr_, ?_⟩) ?_ ?_; rotate_left; (intro w'; go_simp; with_reducible rfl); rotate_left; exact qa_
            refine pure_ (i := 7) (N := some 31) (v := ?_) (a' := ?_) b49_8 rfl rfl qh_ qi_ (Or.inl ⟨qr_, ?_⟩) ?_ ?_; rotate_left; (intro w'; go_simp; with_reducible rfl); rotate_left; exact qa_
            refine pure_ (i := 8) (N := some 32) (v := ?_) (a' := ?_) b49_9 rfl rfl qh_ qi_ (Or.inl ⟨qr_, ?_⟩) ?_ ?_; rotate_left; (intro w'; go_simp; with_reducible rfl); rotate_left; exact qa_
            refine pure_ (i := 10) (N := some 34) (v := ?_) (a' := ?_) b49_10 rfl rfl qh_ qi_ (Or.inl ⟨qr_, ?_⟩) ?_ ?_; rotate_left; (intro w'; go_simp; with_reducible rfl); rotate_left; exact qa_
            refine take_ (i := 9) (N := some 33) (v := ?_) (a' := ?_) b49_11 rfl rfl (take_ofW HT_.out HW_.out (by kernel_rfl)) (fun _ _ _ h => h) (Or.inl ⟨by rfl, ?_⟩) hHeld ?_ ?_; rotate_left; (rintro w' ⟨s0, s1, s2, s3⟩; go_simp; with_reducible rfl); rotate_left; exact qa_
            refine take_ (i := 11) (N := some 35) (v := ?_) (a' := ?_) b49_12 rfl rfl (take_ofW HT_.out HW_.out (by kernel_rfl)) (fun _ _ _ h => h) (Or.inl ⟨by rfl, ?_⟩) hHeld ?_ ?_; rotate_left; (rintro w' ⟨s0, s1, s2, s3⟩; go_simp; with_reducible rfl); rotate_left; exact qa_
            refine one_ (i := 12) (N := some 36) b49_13 rfl rfl (one_of HT_.out (by kernel_rfl)) (by decide) (fun K hK => ?_)
            refine goes_ Tryd.func31 (by kernel_rfl) rfl #[.slice A183_0 ((rd_T27 t177 x5_2).f0).length c183_0, .slice Ao16 t179.length co16] (by rfl) rfl rfl q2_ ?_
            with_reducible refine (value_Rows.calls k2 _ _ ((rd_T27 t177 x5_2).f0) _ _ t179 t184 _ ?side1 ?side2 ?side3 ?side4 A21.out).mono ?_
            (case side1 => repeat (first | exact q41_ | (with_reducible refine Kd.C_alloc ?_ _) | (with_reducible refine Kd.C_drewN ?_ _) | (with_reducible refine Kd.C_drew ?_)))
            (case side2 => exact HC183_0.out)
            (case side3 => repeat (first | exact (Kd.R_reads' HO_183000.out).2.2 | (with_reducible refine Kd.C_alloc ?_ _) | (with_reducible refine Kd.C_drewN ?_ _) | (with_reducible refine Kd.C_drew ?_)))
            (case side4 => exact (Kd.R_reads' HO_183000.out).2.1)
            rintro e w24 ⟨rfl, hb⟩
            have HS2_ := (hb.cell (World.block_lt_of_cell? _ _ (hHeld.2.2.1))).trans (hHeld.2.2.1)
            have HS3_ := (hb.cell (World.block_lt_of_cell? _ _ (hHeld.2.2.2))).trans (hHeld.2.2.2)
            refine ⟨_, rfl, ?_⟩
            have n0_ := Aside0.mk (Kd.N_below q49_ hb)
            have n1_ := Aside0.mk (Kd.N_below q46_ hb)
            have n2_ := Aside0.mk (Kd.R_below (by (with_reducible repeat (first | apply Kd.R_alloc | apply Kd.R_drewN | apply Kd.R_drew)); exact HO_183000.out) hb)
            have n3_ := Aside0.mk (Kd.V_below (by (with_reducible repeat (first | apply Kd.V_alloc | apply Kd.V_drewN | apply Kd.V_drew)); exact HL183_0.out) hb)
            have n4_ := Aside0.mk (blk_below (g := gb182) (o := .cells #[.slice Ao16 t179.length co16, .int .i64 x183001_2] 27 (0, 0)) q65_ hb)
            have n5_ := Aside0.mk (Kd.C_below q41_ hb)
            have n6_ := Aside0.mk (below_step q0_ hb)
            clear HO_0
            clear HO_4
            clear HO_183000
            clear HL183_0
            clear BK182
            clear HR183_0
            clear HB
            have HO_0 := n0_
            have HO_4 := n1_
            have HO_183000 := n2_
            have HL183_0 := n3_
            have BK182 := n4_
            have HR183_0 := n5_
            have HB := n6_
            clear n0_ n1_ n2_ n3_ n4_ n5_ n6_
            (try clear hb)
            (try clear hb2)
            (try clear hk)
            (try clear hi)
            refine hK.out _ _ ⟨(blk_cell BK182.out 0).trans rfl, (blk_cell BK182.out 1).trans rfl, HS2_, HS3_⟩ (fun hHeld => ?_)
            clear hK K
            refine norm_ (a' := ?_) ?_ ?_
            rotate_left
            ·show Act.put _ (some 36) _ = _
             simp only [Act.put, List.setIfInBounds_toArray, List.set_cons_zero, List.set_cons_succ, i64_w, i32_w]
             rfl
            refine pure_ (i := 13) (N := some 37) (v := ?_) (a' := ?_) b49_14 rfl rfl qh_ qi_ (Or.inl ⟨qr_, ?_⟩) ?_ ?_; rotate_left; (intro w'; go_simp; with_reducible rfl); rotate_left; exact qa_
            refine pure_ (i := 14) (N := some 38) (v := ?_) (a' := ?_) b49_15 rfl rfl qh_ qi_ (Or.inl ⟨qr_, ?_⟩) ?_ ?_; rotate_left; (intro w'; go_simp; with_reducible rfl); rotate_left; exact qa_
            refine done_ (done_of HT_.out (by kernel_rfl)) ?_
            try go_wp2
            have n0_ := Aside0.mk (Kd.N_drew HO_0.out)
            have n1_ := Aside0.mk (Kd.N_drew HO_4.out)
            have n2_ := Aside0.mk (Kd.R_drew HO_183000.out)
            have n3_ := Aside0.mk (Kd.V_drew HL183_0.out)
            have n4_ := Aside0.mk (blk_drew BK182.out)
            have n5_ := Aside0.mk (Kd.C_drew HR183_0.out)
            have n6_ := Aside0.mk (below_drew1 HB.out)
            clear HO_0
            clear HO_4
            clear HO_183000
            clear HL183_0
            clear BK182
            clear HR183_0
            clear HB
            have HO_0 := n0_
            have HO_4 := n1_
            have HO_183000 := n2_
            have HL183_0 := n3_
            have BK182 := n4_
            have HR183_0 := n5_
            have HB := n6_
            clear n0_ n1_ n2_ n3_ n4_ n5_ n6_
            have p185 : 0 ≤ (x5_2 : Int) := of_decide_eq_true q5_
            have q185 : x5_2 < (t177.length : Int) := of_decide_eq_true q5_
            obtain ⟨ad185, A185_0, c185_0, e185, hx185_0, hx185_1, hl185_0, hi185_0⟩ := at_T27 (Kd.N_reads' HO_0.out).2.2 x5_2 p185 q185
            obtain rfl : ad178 = ad185 := (by injection e185)
            obtain ⟨ce185, hce185, hMe185, hcc185⟩ := Kd.N_get HO_0.out z27 x5_2 p185 (by first | exact q185 | exact of_decide_eq_true q5_ | (have e_ := (Kd.N_reads' HO_0.out).1; omega))
            obtain ⟨ua185_0, uc185_0, rfl, ul185_0, ge185_0⟩ := k27_openF hMe185
            have hv185_0 := hcc185 0 _ rfl
            rw [Nat.add_zero] at hv185_0
            replace hv185_0 := Option.some.inj (hv185_0.symm.trans hx185_0)
            injection hv185_0 with hva_ hvn_ hvc_
            rw [hva_] at ge185_0
            rw [hvc_] at ul185_0
            have HL185_0 := Aside0.mk (show Kd.V k51 51 _ w.heap.size _ _ ((rd_T27 t177 x5_2).f0) from Kd.V_mk ul185_0 ge185_0)
            clear hva_ hvn_ hvc_ ge185_0 ul185_0
            clear hcc185 hce185
            have HR185_0 := Aside0.mk hi185_0
            have HC185_0 := Aside0.mk hl185_0
            clear hi185_0 hl185_0
            replace p185 := eq_true p185
            replace q185 := eq_true q185
            refine start_ (n := 10) (S := fun w' => w'.cell? ⟨gb182, 0, none⟩ = some (.slice Ao16 t179.length co16) ∧ w'.cell? ⟨gb182, 1, none⟩ = some (.int .i64 x183001_2) ∧ w'.cell? (ad178.add ((x5_2).toNat * 2)) = some (.slice A185_0 ((rd_T27 t177 x5_2).f0).length c185_0) ∧ w'.cell? ⟨(ad178.add ((x5_2).toNat * 2)).block, (ad178.add ((x5_2).toNat * 2)).off + 1, none⟩ = some (.int .i64 ((rd_T27 t177 x5_2).f1))) (ds := [9]) b49_16 (by kernel_rfl) rfl rfl ⟨(blk_cell BK182.out 0).trans rfl, (blk_cell BK182.out 1).trans rfl, hx185_0, hx185_1⟩ (fun hHeld => ?_); refine with_tabW bag_Sort.tab11 bag_Sort.bits11 (fun HT_ HW_ => ?_)
            generalize w24.drew = w25 at HO_0 HO_4 HO_183000 HL183_0 BK182 HR183_0 HB HL185_0 HR185_0 hx185_0 hx185_1 hHeld ⊢
            refine pure_ (i := 0) (N := some 41) (v := ?_) (a' := ?_) b49_17 rfl rfl qh_ qi_ (Or.inl ⟨qr_, ?_⟩) ?_ ?_; rotate_left; (intro w'; go_simp; with_reducible rfl); rotate_left; exact qa_
            refine pure_ (i := 2) (N := some 43) (v := ?_) (a' := ?_) b49_18 rfl rfl qh_ qi_ (Or.inl ⟨qr_, ?_⟩) ?_ ?_; rotate_left; (intro w'; go_simp; with_reducible rfl); rotate_left; exact qa_
            refine pure_ (i := 3) (N := some 44) (v := ?_) (a' := ?_) b49_19 rfl rfl qh_ qi_ (Or.inl ⟨qr_, ?_⟩) ?_ ?_; rotate_left; (intro w'; go_simp; with_reducible rfl); rotate_left; exact qa_
            refine pure_ (i := 4) (N := some 45) (v := ?_) (a' := ?_) b49_20 rfl rfl qh_ qi_ (Or.inl ⟨qr_, ?_⟩) ?_ ?_; rotate_left; (intro w'; go_simp; with_reducible rfl); rotate_left; exact qa_
            refine pure_ (i := 5) (N := some 46) (v := ?_) (a' := ?_) b49_21 rfl rfl qh_ qi_ (Or.inl ⟨qr_, ?_⟩) ?_ ?_; rotate_left; (intro w'; go_simp; with_reducible rfl); rotate_left; exact qa_
            refine take_ (i := 1) (N := some 42) (v := ?_) (a' := ?_) b49_22 rfl rfl (take_ofW HT_.out HW_.out (by kernel_rfl)) (fun _ _ _ h => h) (Or.inl ⟨by rfl, ?_⟩) hHeld ?_ ?_; rotate_left; (rintro w' ⟨s0, s1, s2, s3⟩; go_simp; with_reducible rfl); rotate_left; exact qa_
            refine take_ (i := 6) (N := some 47) (v := ?_) (a' := ?_) b49_23 rfl rfl (take_ofW HT_.out HW_.out (by kernel_rfl)) (fun _ _ _ h => h) (Or.inl ⟨by rfl, ?_⟩) hHeld ?_ ?_; rotate_left; (rintro w' ⟨s0, s1, s2, s3⟩; go_simp; with_reducible rfl); rotate_left; exact qa_
            refine pure_ (i := 7) (N := some 48) (v := ?_) (a' := ?_) b49_24 rfl rfl qh_ qi_ (Or.inl ⟨qr_, ?_⟩) ?_ ?_; rotate_left; (intro w'; go_simp; with_reducible rfl); rotate_left; exact qa_
            refine pure_ (i := 8) (N := some 49) (v := ?_) (a' := ?_) b49_25 rfl rfl qh_ qi_ (Or.inl ⟨qr_, ?_⟩) ?_ ?_; rotate_left; (intro w'; go_simp; with_reducible rfl); rotate_left; exact qa_
            refine last_ (i := 9) (N := none) b49_26 rfl rfl (one_of HT_.out (by kernel_rfl)) (by decide) (fun K hK => ?_)
            have hs26 : w25.cell? ⟨gb182, 1, none⟩ = some (.int .i64 x183001_2) := (blk_cell BK182.out 1).trans rfl
            have hfs26 := blk_frozen BK182.out 1
            refine skip_ (w1 := ?_) (by rfl) rfl ?_ ?_
            rotate_left
            ·go_simp
             rfl
            refine hK.out _ _ ?_
            clear hK K
            refine done_ (done_of HT_.out (by kernel_rfl)) ?_
            try go_wp2
            go_roundg k2
            case measure => have := HK1.out; have := HK2.out; omega
            case rel => exact ⟨(wrap64 (x5_2 + 1)), (wrap64 (x183001_2 + ((rd_T27 t177 x5_2).f1))), q9_, H', ⟨by have := HK1.out; have := HK2.out; omega⟩, ⟨by (try simp only [hl0_1]); (with_reducible repeat (first | apply Kd.N_alloc | apply Kd.N_drewN | apply Kd.N_drew)); exact Kd.N_mono (Kd.N_far (p := ⟨gb182, 1, none⟩) (Kd.N_mono HO_0.out (fun k_ hk => (⟨hk, hk.2.2.2⟩ : _ ∧ k_ ≠ gb182))) (fun _ hk => hk.2) (.int .i64 (wrap64 (x183001_2 + ((rd_T27 t177 x5_2).f1))))) (fun _ hk => ⟨hk.1.1, ⟨hk.1.2.1, ⟨hk.1.2.2.1, hk.1.2.2.2⟩⟩⟩)⟩, ⟨by (try simp only [hl0_1]); (with_reducible repeat (first | apply Kd.N_alloc | apply Kd.N_drewN | apply Kd.N_drew)); exact Kd.N_mono (Kd.N_far (p := ⟨gb182, 1, none⟩) (Kd.N_mono HO_4.out (fun k_ hk => (⟨hk, hk.2.2.2⟩ : _ ∧ k_ ≠ gb182))) (fun _ hk => hk.2) (.int .i64 (wrap64 (x183001_2 + ((rd_T27 t177 x5_2).f1))))) (fun _ hk => ⟨hk.1.1, ⟨hk.1.2.1, ⟨hk.1.2.2.1, hk.1.2.2.2⟩⟩⟩)⟩, ⟨by (try simp only [hl0_1]); (with_reducible repeat (first | apply Kd.R_alloc | apply Kd.R_drewN | apply Kd.R_drew)); exact Kd.R_mono (Kd.R_far (p := ⟨gb182, 1, none⟩) (Kd.R_types HO_183000.out BK182.out (by decide)) (fun _ hk => hk.2) (.int .i64 (wrap64 (x183001_2 + ((rd_T27 t177 x5_2).f1))))) (fun _ hk => hk.1)⟩, ⟨by (try simp only [hl0_1]); (with_reducible repeat first | apply bN_ | apply bD_ | apply bA_); refine blk_put (cs := #[.slice Ao16 t179.length co16, .int .i64 x183001_2]) ?_ 1 _ rfl; (with_reducible repeat first | apply bN_ | apply bD_ | apply bA_); exact BK182.out⟩, ⟨q0_⟩⟩
           ·rw [if_neg c22] at H
            have c22b0 : (t184 == 0) = false := beq_eq_false_iff_ne.mpr c22
            have c22b1 : (t184 != 0) = true := bne_iff_ne.mpr c22
            have H' := Aside0.mk H
            clear H
            try go_wp2
            have n0_ := Aside0.mk (Kd.N_drew HO_0.out)
            have n1_ := Aside0.mk (Kd.N_drew HO_4.out)
            have n2_ := Aside0.mk (Kd.R_drew HO_183000.out)
            have n3_ := Aside0.mk (blk_drew BK182.out)
            have n4_ := Aside0.mk (below_drew1 HB.out)
            clear HO_0
            clear HO_4
            clear HO_183000
            clear BK182
            clear HB
            have HO_0 := n0_
            have HO_4 := n1_
            have HO_183000 := n2_
            have BK182 := n3_
            have HB := n4_
            clear n0_ n1_ n2_ n3_ n4_
            have p183 : 0 ≤ (x5_2 : Int) := of_decide_eq_true q5_
            have q183 : x5_2 < (t177.length : Int) := of_decide_eq_true q5_
            obtain ⟨ad183, A183_0, c183_0, e183, hx183_0, hx183_1, hl183_0, hi183_0⟩ := at_T27 (Kd.N_reads' HO_0.out).2.2 x5_2 p183 q183
            obtain rfl : ad178 = ad183 := (by injection e183)
            obtain ⟨ce183, hce183, hMe183, hcc183⟩ := Kd.N_get HO_0.out z27 x5_2 p183 (by first | exact q183 | exact of_decide_eq_true q5_ | (have e_ := (Kd.N_reads' HO_0.out).1; omega))
            obtain ⟨ua183_0, uc183_0, rfl, ul183_0, ge183_0⟩ := k27_openF hMe183
            have hv183_0 := hcc183 0 _ rfl
            rw [Nat.add_zero] at hv183_0
            replace hv183_0 := Option.some.inj (hv183_0.symm.trans hx183_0)
            injection hv183_0 with hva_ hvn_ hvc_
            rw [hva_] at ge183_0
            rw [hvc_] at ul183_0
            have HL183_0 := Aside0.mk (show Kd.V k51 51 _ w.heap.size _ _ ((rd_T27 t177 x5_2).f0) from Kd.V_mk ul183_0 ge183_0)
            clear hva_ hvn_ hvc_ ge183_0 ul183_0
            clear hcc183 hce183
            have HR183_0 := Aside0.mk hi183_0
            have HC183_0 := Aside0.mk hl183_0
            clear hi183_0 hl183_0
            replace p183 := eq_true p183
            replace q183 := eq_true q183
            refine start_ (n := 15) (S := fun w' => w'.cell? ⟨gb182, 0, none⟩ = some (.slice Ao16 t179.length co16) ∧ w'.cell? ⟨gb182, 1, none⟩ = some (.int .i64 x183001_2) ∧ w'.cell? (ad178.add ((x5_2).toNat * 2)) = some (.slice A183_0 ((rd_T27 t177 x5_2).f0).length c183_0) ∧ w'.cell? ⟨(ad178.add ((x5_2).toNat * 2)).block, (ad178.add ((x5_2).toNat * 2)).off + 1, none⟩ = some (.int .i64 ((rd_T27 t177 x5_2).f1))) (ds := []) b49_0 (by kernel_rfl) rfl rfl ⟨(blk_cell BK182.out 0).trans rfl, (blk_cell BK182.out 1).trans rfl, hx183_0, hx183_1⟩ (fun hHeld => ?_); refine with_tabW bag_Sort.tab9 bag_Sort.bits9 (fun HT_ HW_ => ?_)
            generalize wr.drew = w27 at HO_0 HO_4 HO_183000 BK182 HB HL183_0 HR183_0 hx183_0 hx183_1 hHeld ⊢
            refine pure_ (i := 0) (N := some 24) (v := ?_) (a' := ?_) b49_1 rfl rfl qh_ qi_ (Or.inl ⟨qr_, ?_⟩) ?_ ?_; rotate_left; (intro w'; go_simp; with_reducible rfl); rotate_left; exact qa_
            refine pure_ (i := 1) (N := some 25) (v := ?_) (a' := ?_) b49_2 rfl rfl qh_ qi_ (Or.inl ⟨qr_, ?_⟩) ?_ ?_; rotate_left; (intro w'; go_simp; with_reducible rfl); rotate_left; exact qa_
            refine pure_ (i := 2) (N := some 26) (v := ?_) (a' := ?_) b49_3 rfl rfl qh_ qi_ (Or.inl ⟨qr_, ?_⟩) ?_ ?_; rotate_left; (intro w'; go_simp; with_reducible rfl); rotate_left; exact qa_
            refine pure_ (i := 3) (N := some 27) (v := ?_) (a' := ?_) b49_4 rfl rfl qh_ qi_ (Or.inl ⟨qr_, ?_⟩) ?_ ?_; rotate_left; (intro w'; go_simp; with_reducible rfl); rotate_left; exact qa_
            refine pure_ (i := 4) (N := some 28) (v := ?_) (a' := ?_) b49_5 rfl rfl qh_ qi_ (Or.inl ⟨qr_, ?_⟩) ?_ ?_; rotate_left; (intro w'; go_simp; with_reducible rfl); rotate_left; exact qa_
            refine pure_ (i := 5) (N := some 29) (v := ?_) (a' := ?_) b49_6 rfl rfl qh_ qi_ (Or.inl ⟨qr_, ?_⟩) ?_ ?_; rotate_left; (intro w'; go_simp; with_reducible rfl); rotate_left; exact qa_
            refine pure_ (i := 6) (N := some 30) (v := ?_) (a' := ?_) b49_7 rfl rfl qh_ qi_ (Or.inl ⟨qr_, ?_⟩) ?_ ?_; rotate_left; (intro w'; go_simp; with_reducible rfl); rotate_left; exact qa_
            refine pure_ (i := 7) (N := some 31) (v := ?_) (a' := ?_) b49_8 rfl rfl qh_ qi_ (Or.inl ⟨qr_, ?_⟩) ?_ ?_; rotate_left; (intro w'; go_simp; with_reducible rfl); rotate_left; exact qa_
            refine pure_ (i := 8) (N := some 32) (v := ?_) (a' := ?_) b49_9 rfl rfl qh_ qi_ (Or.inl ⟨qr_, ?_⟩) ?_ ?_; rotate_left; (intro w'; go_simp; with_reducible rfl); rotate_left; exact qa_
            refine pure_ (i := 10) (N := some 34) (v := ?_) (a' := ?_) b49_10 rfl rfl qh_ qi_ (Or.inl ⟨qr_, ?_⟩) ?_ ?_; rotate_left; (intro w'; go_simp; with_reducible rfl); rotate_left; exact qa_
            refine take_ (i := 9) (N := some 33) (v := ?_) (a' := ?_) b49_11 rfl rfl (take_ofW HT_.out HW_.out (by kernel_rfl)) (fun _ _ _ h => h) (Or.inl ⟨by rfl, ?_⟩) hHeld ?_ ?_; rotate_left; (rintro w' ⟨s0, s1, s2, s3⟩; go_simp; with_reducible rfl); rotate_left; exact qa_
            refine take_ (i := 11) (N := some 35) (v := ?_) (a' := ?_) b49_12 rfl rfl (take_ofW HT_.out HW_.out (by kernel_rfl)) (fun _ _ _ h => h) (Or.inl ⟨by rfl, ?_⟩) hHeld ?_ ?_; rotate_left; (rintro w' ⟨s0, s1, s2, s3⟩; go_simp; with_reducible rfl); rotate_left; exact qa_
            refine one_ (i := 12) (N := some 36) b49_13 rfl rfl (one_of HT_.out (by kernel_rfl)) (by decide) (fun K hK => ?_)
            refine goes_ Tryd.func31 (by kernel_rfl) rfl #[.slice A183_0 ((rd_T27 t177 x5_2).f0).length c183_0, .slice Ao16 t179.length co16] (by rfl) rfl rfl q2_ ?_
            with_reducible refine (value_Rows.calls k2 _ _ ((rd_T27 t177 x5_2).f0) _ _ t179 t184 _ ?side1 ?side2 ?side3 ?side4 A21.out).mono ?_
            (case side1 => repeat (first | exact q41_ | (with_reducible refine Kd.C_alloc ?_ _) | (with_reducible refine Kd.C_drewN ?_ _) | (with_reducible refine Kd.C_drew ?_)))
            (case side2 => exact HC183_0.out)
            (case side3 => repeat (first | exact (Kd.R_reads' HO_183000.out).2.2 | (with_reducible refine Kd.C_alloc ?_ _) | (with_reducible refine Kd.C_drewN ?_ _) | (with_reducible refine Kd.C_drew ?_)))
            (case side4 => exact (Kd.R_reads' HO_183000.out).2.1)
            rintro e w28 ⟨rfl, hb⟩
            have HS2_ := (hb.cell (World.block_lt_of_cell? _ _ (hHeld.2.2.1))).trans (hHeld.2.2.1)
            have HS3_ := (hb.cell (World.block_lt_of_cell? _ _ (hHeld.2.2.2))).trans (hHeld.2.2.2)
            refine ⟨_, rfl, ?_⟩
            have n0_ := Aside0.mk (Kd.N_below q49_ hb)
            have n1_ := Aside0.mk (Kd.N_below q46_ hb)
            have n2_ := Aside0.mk (Kd.R_below (by (with_reducible repeat (first | apply Kd.R_alloc | apply Kd.R_drewN | apply Kd.R_drew)); exact HO_183000.out) hb)
            have n3_ := Aside0.mk (Kd.V_below (by (with_reducible repeat (first | apply Kd.V_alloc | apply Kd.V_drewN | apply Kd.V_drew)); exact HL183_0.out) hb)
            have n4_ := Aside0.mk (blk_below (g := gb182) (o := .cells #[.slice Ao16 t179.length co16, .int .i64 x183001_2] 27 (0, 0)) q65_ hb)
            have n5_ := Aside0.mk (Kd.C_below q41_ hb)
            have n6_ := Aside0.mk (below_step q0_ hb)
            clear HO_0
            clear HO_4
            clear HO_183000
            clear HL183_0
            clear BK182
            clear HR183_0
            clear HB
            have HO_0 := n0_
            have HO_4 := n1_
            have HO_183000 := n2_
            have HL183_0 := n3_
            have BK182 := n4_
            have HR183_0 := n5_
            have HB := n6_
            clear n0_ n1_ n2_ n3_ n4_ n5_ n6_
            (try clear hb)
            (try clear hb2)
            (try clear hk)
            (try clear hi)
            refine hK.out _ _ ⟨(blk_cell BK182.out 0).trans rfl, (blk_cell BK182.out 1).trans rfl, HS2_, HS3_⟩ (fun hHeld => ?_)
            clear hK K
            refine norm_ (a' := ?_) ?_ ?_
            rotate_left
            ·show Act.put _ (some 36) _ = _
             simp only [Act.put, List.setIfInBounds_toArray, List.set_cons_zero, List.set_cons_succ, i64_w, i32_w]
             rfl
            refine pure_ (i := 13) (N := some 37) (v := ?_) (a' := ?_) b49_14 rfl rfl qh_ qi_ (Or.inl ⟨qr_, ?_⟩) ?_ ?_; rotate_left; (intro w'; go_simp; with_reducible rfl); rotate_left; exact qa_
            refine pure_ (i := 14) (N := some 38) (v := ?_) (a' := ?_) b49_15 rfl rfl qh_ qi_ (Or.inl ⟨qr_, ?_⟩) ?_ ?_; rotate_left; (intro w'; go_simp; with_reducible rfl); rotate_left; exact qa_
            refine done_ (done_of HT_.out (by kernel_rfl)) ?_
            try go_wp2
            go_meet
            case rel => exact ⟨_, (x5_2), (x183001_2), q9_, H', ⟨by have := HK1.out; have := HK2.out; first | omega | exact Nat.le_refl _⟩, ⟨by (try simp only [hl0_1]); (with_reducible repeat (first | apply Kd.N_alloc | apply Kd.N_drewN | apply Kd.N_drew)); exact HO_0.out⟩, ⟨by (try simp only [hl0_1]); (with_reducible repeat (first | apply Kd.N_alloc | apply Kd.N_drewN | apply Kd.N_drew)); exact HO_4.out⟩, ⟨by (try simp only [hl0_1]); (with_reducible repeat (first | apply Kd.R_alloc | apply Kd.R_drewN | apply Kd.R_drew)); exact HO_183000.out⟩, ⟨by (try simp only [hl0_1]); (with_reducible repeat first | apply bN_ | apply bD_ | apply bA_); exact BK182.out⟩, ⟨q0_⟩⟩
          ·rw [if_neg c20] at H
           exact absurd H (by simp)
         ·rw [if_neg c19] at H
          have c19b0 : decide (x5_2 < (t177.length : Int)) = false := decide_eq_false c19
          clear c19
          (first | rw [c19b0] | (simp only [i64_w, i32_w]; rw [c19b0]) | skip)
          have H' := Aside0.mk H
          clear H
          try go_wp2
          have n0_ := Aside0.mk (Kd.N_drew HO_0.out)
          have n1_ := Aside0.mk (Kd.N_drew HO_4.out)
          have n2_ := Aside0.mk (Kd.R_drew HO_183000.out)
          have n3_ := Aside0.mk (blk_drew BK182.out)
          have n4_ := Aside0.mk (below_drew1 HB.out)
          clear HO_0
          clear HO_4
          clear HO_183000
          clear BK182
          clear HB
          have HO_0 := n0_
          have HO_4 := n1_
          have HO_183000 := n2_
          have BK182 := n3_
          have HB := n4_
          clear n0_ n1_ n2_ n3_ n4_
          refine start_ (n := 15) (S := fun w' => True) (ds := []) b49_0 (by kernel_rfl) rfl rfl trivial (fun hHeld => ?_); refine with_tabW bag_Sort.tab9 bag_Sort.bits9 (fun HT_ HW_ => ?_)
          generalize wr.drew = w29 at HO_0 HO_4 HO_183000 BK182 HB hHeld ⊢
          refine pure_ (i := 0) (N := some 24) (v := ?_) (a' := ?_) b49_1 rfl rfl qh_ qi_ (Or.inl ⟨qr_, ?_⟩) ?_ ?_; rotate_left; (intro w'; go_simp; with_reducible rfl); rotate_left; exact qa_
          refine pure_ (i := 1) (N := some 25) (v := ?_) (a' := ?_) b49_2 rfl rfl qh_ qi_ (Or.inl ⟨qr_, ?_⟩) ?_ ?_; rotate_left; (intro w'; go_simp; with_reducible rfl); rotate_left; exact qa_
          refine pure_ (i := 2) (N := some 26) (v := ?_) (a' := ?_) b49_3 rfl rfl qh_ qi_ (Or.inl ⟨qr_, ?_⟩) ?_ ?_; rotate_left; (intro w'; go_simp; with_reducible rfl); rotate_left; exact qa_
          refine pure_ (i := 3) (N := some 27) (v := ?_) (a' := ?_) b49_4 rfl rfl qh_ qi_ (Or.inl ⟨qr_, ?_⟩) ?_ ?_; rotate_left; (intro w'; go_simp; with_reducible rfl); rotate_left; exact qa_
          refine pure_ (i := 4) (N := some 28) (v := ?_) (a' := ?_) b49_5 rfl rfl qh_ qi_ (Or.inl ⟨qr_, ?_⟩) ?_ ?_; rotate_left; (intro w'; go_simp; with_reducible rfl); rotate_left; exact qa_
          refine pure_ (i := 5) (N := some 29) (v := undef) (a' := ?_) b49_6 rfl rfl qh_ qi_ (Or.inr ⟨qr_, rfl⟩) ?_ ?_; rotate_left; exact qa_
          refine pure_ (i := 6) (N := some 30) (v := undef) (a' := ?_) b49_7 rfl rfl qh_ qi_ (Or.inr ⟨qr_, rfl⟩) ?_ ?_; rotate_left; exact qa_
          refine pure_ (i := 7) (N := some 31) (v := undef) (a' := ?_) b49_8 rfl rfl qh_ qi_ (Or.inr ⟨qr_, rfl⟩) ?_ ?_; rotate_left; exact qa_
          refine pure_ (i := 8) (N := some 32) (v := undef) (a' := ?_) b49_9 rfl rfl qh_ qi_ (Or.inr ⟨qr_, rfl⟩) ?_ ?_; rotate_left; exact qa_
          refine pure_ (i := 9) (N := some 33) (v := undef) (a' := ?_) b49_27 rfl rfl qh_ qi_ (Or.inr ⟨qr_, rfl⟩) ?_ ?_; rotate_left; exact qa_
          refine pure_ (i := 10) (N := some 34) (v := undef) (a' := ?_) b49_11 rfl rfl qh_ qi_ (Or.inr ⟨qr_, rfl⟩) ?_ ?_; rotate_left; exact qa_
          refine pure_ (i := 11) (N := some 35) (v := undef) (a' := ?_) b49_12 rfl rfl qh_ qi_ (Or.inr ⟨qr_, rfl⟩) ?_ ?_; rotate_left; exact qa_
          refine pure_ (i := 12) (N := some 36) (v := undef) (a' := ?_) b49_13 rfl rfl qh_ qi_ (Or.inr ⟨qr_, rfl⟩) ?_ ?_; rotate_left; exact qa_
          refine pure_ (i := 13) (N := some 37) (v := undef) (a' := ?_) b49_14 rfl rfl qh_ qi_ (Or.inr ⟨qr_, rfl⟩) ?_ ?_; rotate_left; exact qa_
          refine pure_ (i := 14) (N := some 38) (v := ?_) (a' := ?_) b49_15 rfl rfl qh_ qi_ (Or.inl ⟨qr_, ?_⟩) ?_ ?_; rotate_left; (intro w'; go_simp; with_reducible rfl); rotate_left; exact qa_
          refine done_ (done_of HT_.out (by kernel_rfl)) ?_
          try go_wp2
          go_meet
          case rel => exact ⟨_, (x5_2), (x183001_2), q9_, H', ⟨by have := HK1.out; have := HK2.out; first | omega | exact Nat.le_refl _⟩, ⟨by (try simp only [hl0_1]); (with_reducible repeat (first | apply Kd.N_alloc | apply Kd.N_drewN | apply Kd.N_drew)); exact HO_0.out⟩, ⟨by (try simp only [hl0_1]); (with_reducible repeat (first | apply Kd.N_alloc | apply Kd.N_drewN | apply Kd.N_drew)); exact HO_4.out⟩, ⟨by (try simp only [hl0_1]); (with_reducible repeat (first | apply Kd.R_alloc | apply Kd.R_drewN | apply Kd.R_drew)); exact HO_183000.out⟩, ⟨by (try simp only [hl0_1]); (with_reducible repeat first | apply bN_ | apply bD_ | apply bA_); exact BK182.out⟩, ⟨q0_⟩⟩
      case rest =>
       clear HC14
       try clear c1
       try clear p1
       try clear q1
       try clear hx1
       try clear c2
       try clear p2
       try clear c3
       try clear p6
       try clear c18
       try clear p18
       try clear q18
       try clear hx18
       try clear c19
       try clear c19b0
       try clear c20
       try clear c22
       try clear c22b0
       try clear c22b1
       try clear hx183_0
       try clear hx183_1
       try clear hx185_0
       try clear hx185_1
       try clear p183
       try clear p185
       try clear q183
       try clear q185
       obtain ⟨kq, x5_13, x183001_13, rfl, HA, HJ13, HO_0, HO_4, HO_183000, BK182, HB⟩ := hcut
       cases kq with
       | zero => exact absurd HA.out (by simp [bag_Sort.j2])
       | succ kj13 =>
        have H := HA.out
        clear HA
        simp only [bag_Sort.j2] at H
        replace H := Option.bind_eq_some_iff.mp H
        obtain ⟨t186, A300, H⟩ := H
        replace H : (if t186 = true then (if x183001_13 = 0 then (bag_Sort.l0 kj13 t177 x4_1 x5_13) else (if x4_1.length < 4398046511104 then (bag_Sort.l0 kj13 t177 (x4_1 ++ [(⟨t179, x183001_13⟩ : S27)]) x5_13) else (none))) else (some (([] : List (S27)), 14))) = some (r1, r2) := H
        have A30 := Aside0.mk A300
        clear A300
        by_cases c31 : t186 = true
        ·subst c31
         replace H := ifT_ H
         by_cases c32 : x183001_13 = 0
         ·rw [if_pos c32] at H
          have c32b0 : (x183001_13 == 0) = true := beq_iff_eq.mpr c32
          have c32b1 : (x183001_13 != 0) = false := bne_eq_false_iff_eq.mpr c32
          clear c32
          have H' := Aside0.mk H
          clear H
          have hcz33_0 : wc.cell? ⟨gb182, 0, none⟩ = some (.slice Ao16 t179.length co16) := (blk_cell BK182.out 0).trans rfl
          have hcz33_1 : wc.cell? ⟨gb182, 1, none⟩ = some (.int .i64 x183001_13) := (blk_cell BK182.out 1).trans rfl
          have hfz33_0 := blk_frozen BK182.out 0
          have hfz33_1 := blk_frozen BK182.out 1
          go_wp2_with (first | ((with_reducible refine gate_callee (f := 28) rfl ?_); refine goesL_ (some 52) rfl rfl Tryd.func28 (by kernel_rfl) rfl #[.int .i64 x183001_13] rfl q2_ ?_; (with_reducible refine (bag_fits.calls x183001_13 true _ A30.out).mono ?_); rintro e w' ⟨rfl, ⟨nd, rfl⟩⟩; refine ⟨_, rfl, ?_⟩))
          (try simp only [← hl0_1])
          go_roundg kj13
          case measure => have := HK1.out; have := HJ13.out; omega
          case rel => exact ⟨(x4_1), (x5_13), q9_, H', ⟨by have := HK1.out; have := HJ13.out; omega⟩, ⟨by (try simp only [hl0_1]); (with_reducible repeat (first | apply Kd.N_alloc | apply Kd.N_drewN | apply Kd.N_drew)); exact Kd.N_mono HO_0.out (fun _ hk => ⟨hk.1, hk.2.1⟩)⟩, ⟨by (try simp only [hl0_1]); (with_reducible repeat (first | apply Kd.N_alloc | apply Kd.N_drewN | apply Kd.N_drew)); exact Kd.N_mono HO_4.out (fun _ hk => ⟨hk.1, hk.2.1⟩)⟩, ⟨q0_⟩⟩
         ·rw [if_neg c32] at H
          have c32b0 : (x183001_13 == 0) = false := beq_eq_false_iff_ne.mpr c32
          have c32b1 : (x183001_13 != 0) = true := bne_iff_ne.mpr c32
          by_cases c34 : x4_1.length < 4398046511104
          ·rw [if_pos c34] at H
           have LMc34 := Aside0.mk c34
           clear c34
           obtain ⟨y187, hy187⟩ : ∃ y_ : List (S27), y_ = (x4_1 ++ [(⟨t179, x183001_13⟩ : S27)]) := ⟨_, rfl⟩
           replace H : (bag_Sort.l0 kj13 t177 y187 x5_13) = some (r1, r2) := by first | (rw [hy187]; with_reducible exact H) | (have H2_ := (Option.bind_some _ _).symm.trans H; rw [hy187]; with_reducible exact H2_) | (have H2_ := (Option.bind_some _ _).symm.trans H; with_reducible exact H2_) | with_reducible exact H | (rw [hy187]; exact H) | exact H
           have Ny187 := Aside0.mk hy187
           clear hy187
           have H' := Aside0.mk H
           clear H
           have hcz35_0 : wc.cell? ⟨gb182, 0, none⟩ = some (.slice Ao16 t179.length co16) := (blk_cell BK182.out 0).trans rfl
           have hcz35_1 : wc.cell? ⟨gb182, 1, none⟩ = some (.int .i64 x183001_13) := (blk_cell BK182.out 1).trans rfl
           have hfz35_0 := blk_frozen BK182.out 0
           have hfz35_1 := blk_frozen BK182.out 1
           go_wp2_with (first | ((with_reducible refine gate_callee (f := 28) rfl ?_); refine goesL_ (some 52) rfl rfl Tryd.func28 (by kernel_rfl) rfl #[.int .i64 x183001_13] rfl q2_ ?_; (with_reducible refine (bag_fits.calls x183001_13 true _ A30.out).mono ?_); rintro e w' ⟨rfl, ⟨nd, rfl⟩⟩; refine ⟨_, rfl, ?_⟩) | ((with_reducible refine gate_builtin (b := .append) (xs := #[.tmp 57, .tmp 59]) rfl ?_); at_builtin; refine Kd.N_append k27 (w0 := w) w.heap.size rfl (.tmp 57) (.tmp 59) 22 27 (.agg #[(.slice none 0 0), (.int .i64 0)]) 32 rfl Tryd.underlying22 info27 rfl (by decide) (by omega) u4 x4_1 (⟨t179, x183001_13⟩ : S27) [.slice Ao16 t179.length co16, .int .i64 x183001_13] (fun k_ => (P0_ k_ ∨ w.heap.size ≤ k_) ∧ some k_ ≠ (.slice (some ad178) t177.length co9 : Value).ownBlock ∧ k_ ≠ gb182) (fun k_ => ((fun k_ => (P0_ k_ ∨ w.heap.size ≤ k_) ∧ some k_ ≠ (.slice (some ad178) t177.length co9 : Value).ownBlock ∧ k_ ≠ gb182)) k_ ∧ some k_ ≠ (u4 : Value).ownBlock) rfl rfl ?aP (fun _ hk => hk) ?aF ?aO ?aB ?aS ?aL ?_; (case aP => exact (k27_mkF _ _ (⟨t179, x183001_13⟩ : S27) (Kd.R_reads' (Kd.R_mono (ok' := (fun k_ => ((fun k_ => (P0_ k_ ∨ w.heap.size ≤ k_) ∧ some k_ ≠ (.slice (some ad178) t177.length co9 : Value).ownBlock ∧ k_ ≠ gb182)) k_ ∧ some k_ ≠ (u4 : Value).ownBlock)) (Kd.R_types (Kd.R_apart' (Kd.R_apart' (HO_183000.out) (Kd.N_typed HO_0.out) (by decide)) (Kd.N_typed HO_4.out) (by decide)) BK182.out (by decide)) (fun k_ hk => ⟨⟨(.inr (hk.1.1.1)), ⟨hk.1.1.2, hk.2⟩⟩, hk.1.2⟩))).2.1 (Kd.R_F (Kd.R_mono (ok' := (fun k_ => ((fun k_ => (P0_ k_ ∨ w.heap.size ≤ k_) ∧ some k_ ≠ (.slice (some ad178) t177.length co9 : Value).ownBlock ∧ k_ ≠ gb182)) k_ ∧ some k_ ≠ (u4 : Value).ownBlock)) (Kd.R_types (Kd.R_apart' (Kd.R_apart' (HO_183000.out) (Kd.N_typed HO_0.out) (by decide)) (Kd.N_typed HO_4.out) (by decide)) BK182.out (by decide)) (fun k_ hk => ⟨⟨(.inr (hk.1.1.1)), ⟨hk.1.1.2, hk.2⟩⟩, hk.1.2⟩))))); (case aB => exact q0_); (case aF => exact (fun k_ hk => ⟨(.inr (Nat.le_trans (below_size q0_) hk)), Kd.fresh' (Kd.N_lt q49_) k_ hk, Kd.freshB (g := gb182) (o := .cells #[.slice Ao16 t179.length co16, .int .i64 x183001_13] 27 (0, 0)) q65_ k_ hk⟩)); (case aO => exact (by (with_reducible repeat (first | apply Kd.N_alloc | apply Kd.N_drewN | apply Kd.N_drew)); exact Kd.N_mono HO_4.out (fun _ hk => ⟨hk.1, ⟨hk.2.1, hk.2.2.2⟩⟩))); (case aS => exact (below_size q0_)); (case aL => have := LMc34.out; omega); intro v188 w36 ho hb hg hat; rw [← Ny187.out] at ho; have n0_ := Aside0.mk (Kd.N_afterv (ok := (fun k_ => (P0_ k_ ∨ w.heap.size ≤ k_) ∧ some k_ ≠ (.slice Ao16 t179.length co16 : Value).ownBlock ∧ k_ ≠ gb182)) (by (with_reducible repeat (first | apply Kd.N_alloc | apply Kd.N_drewN | apply Kd.N_drew)); exact Kd.N_mono HO_0.out (fun _ hk => ⟨⟨hk.1, ⟨hk.2.2.1, hk.2.2.2⟩⟩, hk.2.1⟩)) hg hat); have n1_ := Aside0.mk (blk_grown (g := gb182) (o := .cells #[.slice Ao16 t179.length co16, .int .i64 x183001_13] 27 (0, 0)) q65_ hg (Kd.N_away HO_4.out (fun _ hk => hk.2.2.2))); have n2_ := Aside0.mk (hb); have n3_ := Aside0.mk (ho); clear HO_0; clear BK182; clear HB; clear HO_4; clear HO_183000; have HO_0 := n0_; have BK182 := n1_; have HB := n2_; have HO189 := n3_; clear n0_ n1_ n2_ n3_; clear ho hb hg hat))
           (try simp only [← hl0_1])
           go_roundg kj13
           case measure => have := HK1.out; have := HJ13.out; omega
           case rel => exact ⟨(y187), (x5_13), q9_, H', ⟨by have := HK1.out; have := HJ13.out; omega⟩, ⟨by (try simp only [hl0_1]); (with_reducible repeat (first | apply Kd.N_alloc | apply Kd.N_drewN | apply Kd.N_drew)); exact Kd.N_mono HO_0.out (fun _ hk => ⟨hk.1.1, hk.2⟩)⟩, ⟨by (try simp only [hl0_1]); (with_reducible repeat (first | apply Kd.N_alloc | apply Kd.N_drewN | apply Kd.N_drew)); exact Kd.N_mono HO189.out (fun _ hk => ⟨hk.1, hk.2.1⟩)⟩, ⟨q0_⟩⟩
          ·rw [if_neg c34] at H
           exact absurd H (by simp)
        ·replace c31 := Bool.eq_false_iff.mpr c31
         subst c31
         replace H := ifF_ H
         simp only [Option.some.injEq, Prod.mk.injEq] at H
         obtain ⟨rfl, rfl⟩ := H
         have hcz37_0 : wc.cell? ⟨gb182, 0, none⟩ = some (.slice Ao16 t179.length co16) := (blk_cell BK182.out 0).trans rfl
         have hcz37_1 : wc.cell? ⟨gb182, 1, none⟩ = some (.int .i64 x183001_13) := (blk_cell BK182.out 1).trans rfl
         have hfz37_0 := blk_frozen BK182.out 0
         have hfz37_1 := blk_frozen BK182.out 1
         go_wp2_with (first | ((with_reducible refine gate_callee (f := 28) rfl ?_); refine goesL_ (some 52) rfl rfl Tryd.func28 (by kernel_rfl) rfl #[.int .i64 x183001_13] rfl q2_ ?_; (with_reducible refine (bag_fits.calls x183001_13 false _ A30.out).mono ?_); rintro e w' ⟨rfl, ⟨nd, rfl⟩⟩; refine ⟨_, rfl, ?_⟩))
         go_ret2
         exact ⟨_, q4_, q19_, q0_⟩
     ·rw [if_neg c12] at H
      exact absurd H (by simp)
    ·rw [if_neg c11] at H
     have c11b0 : decide (x5_1 < (t177.length : Int)) = false := decide_eq_false c11
     clear c11
     simp only [Option.some.injEq, Prod.mk.injEq] at H
     obtain ⟨rfl, rfl⟩ := H
     go_wp2
     go_ret2
     exact ⟨_, q4_, by (with_reducible repeat (first | apply Kd.N_alloc | apply Kd.N_drewN | apply Kd.N_drew)); exact Kd.N_mono HO_4.out (fun _ hk => hk.1), q0_⟩
def bag_Of.l0 : Nat → List (S27) → List (List (S51)) → Int → Int → Option ((List (S27)) × Int)
 | 0, _, _, _, _ => none
 | k + 1, x4, x7, x8, x9 => if x9 < x8 then (if 0 ≤ x9 then (if x9 < (x7.length : Int) then (if x4.length < 4398046511104 then (bag_Of.l0 k (x4 ++ [(⟨rd_L3 x7 x9, 1⟩ : S27)]) x7 x8 (wrap64 (x9 + 1))) else (none)) else (none)) else (none)) else ((bag_Sort.f k x4).bind fun bt194 => (some (bt194.1, bt194.2)))
def bag_Of.f (k : Nat) (l0 : List (List (S51))) : Option ((List (S27)) × Int) := bag_Of.l0 k ([] : List (S27)) l0 (l0.length : Int) 0
theorem bag_Of.mono_l : ∀ k, (∀ y0 y1 y2 y3, LeO (bag_Of.l0 k y0 y1 y2 y3) (bag_Of.l0 (k + 1) y0 y1 y2 y3))
 | 0 => fun _ _ _ _ r h => by simp [bag_Of.l0] at h
 | k + 1 => by
  have ih0 := bag_Of.mono_l k
  ·intro y0 y1 y2 y3
   unfold bag_Of.l0
   repeat' first
   | (with_reducible exact ih0 _ _ _ _)
   | (with_reducible exact bag_Sort.mono _ _)
   | (with_reducible exact LeO.refl _)
   | (with_reducible exact LeO.none _)
   | (with_reducible refine LeO.ite ?_ ?_)
   | (with_reducible refine LeO.bind ?_ (fun _ => ?_))
   | exact ih0 _ _ _ _
   | exact bag_Sort.mono _ _
   | exact LeO.none _
   | refine LeO.ite ?_ ?_
   | refine LeO.bind ?_ (fun _ => ?_)
theorem bag_Of.mono : ∀ a0 k, LeO (bag_Of.f k a0) (bag_Of.f (k + 1) a0) := by
 intro a0 k
 have ih0 := bag_Of.mono_l k
 unfold bag_Of.f
 repeat' first
   | (with_reducible exact ih0 _ _ _ _)
   | (with_reducible exact bag_Sort.mono _ _)
   | (with_reducible exact LeO.refl _)
   | (with_reducible exact LeO.none _)
   | (with_reducible refine LeO.ite ?_ ?_)
   | (with_reducible refine LeO.bind ?_ (fun _ => ?_))
   | exact ih0 _ _ _ _
   | exact bag_Sort.mono _ _
   | exact LeO.none _
   | refine LeO.ite ?_ ?_
   | refine LeO.bind ?_ (fun _ => ?_)
set_option maxHeartbeats 8000000 in
set_option maxRecDepth 100000 in
theorem bag_Of.calls (k : Nat) (P0_ : Nat → Prop) (A0 : Option Addr) (c0 : Nat) (l0 : List (List (S51))) (r1 : List (S27)) (r2 : Int) (w : World) (hs0 : Kd.V (Kd.slice 51 k51) 23 w w.heap.size (fun k_ => P0_ k_) (.slice A0 l0.length c0) l0) (h : bag_Of.f k l0 = some (r1, r2)) (hG : Glob w) :
  Calls Tryd.prog 20 #[.slice A0 l0.length c0] w fun e w' => ∃ v0_ : Value, e = .returned (.tuple #[v0_, .int .i64 r2]) ∧ Kd.N k27 27 w' w.heap.size (fun k_ => (P0_ k_ ∨ w.heap.size ≤ k_)) v0_ r1 ∧ Below w.heap.size w w' := by
 have hu27 := Tryd.underlying27
 have HG := Aside0.mk hG
 clear hG
 have HO0 := Aside0.mk (show Kd.V (Kd.slice 51 k51) 23 w w.heap.size (fun k_ => (P0_ k_ ∨ w.heap.size ≤ k_)) (.slice A0 l0.length c0) l0 from Kd.V_mono hs0 (fun k_ hk => .inl hk))
 have HB := Aside0.mk (Below.refl w.heap.size w)
 have H : (bag_Of.l0 k ([] : List (S27)) l0 (l0.length : Int) 0) = some (r1, r2) := h
 clear h
 have H' := Aside0.mk H
 clear H
 go_enter Tryd.func20, Tryd.ntmps20
 go_wp2
 go_loopg [4, 9] k (fun kq v4 v9 w' => ∃ (x4_1 : List (S27)) (x9_1 : Int), v9 = .int .i64 x9_1 ∧ Aside0 (bag_Of.l0 kq x4_1 l0 (l0.length : Int) x9_1 = some (r1, r2)) ∧ Aside0 (kq ≤ k) ∧ Aside0 (Kd.N k27 27 w' w.heap.size (fun k_ => (P0_ k_ ∨ w.heap.size ≤ k_)) v4 x4_1) ∧ Aside0 (Kd.V (Kd.slice 51 k51) 23 w' w.heap.size (fun k_ => (P0_ k_ ∨ w.heap.size ≤ k_) ∧ some k_ ≠ (v4 : Value).ownBlock) (.slice A0 l0.length c0) l0) ∧ Aside0 (Below w.heap.size w w'))
 case atStart => exact ⟨(([] : List (S27))), (0), q9_, H', ⟨Nat.le_refl _⟩, ⟨q19_⟩, ⟨by (with_reducible repeat (first | apply Kd.V_alloc | apply Kd.V_drewN | apply Kd.V_drew)); exact Kd.V_mono HO0.out (fun _ hk => ⟨hk, (by simp [Value.ownBlock])⟩)⟩, ⟨q0_⟩⟩
 case round =>
  clear H'
  obtain ⟨x4_1, x9_1, rfl, HA, HK1, HO_4, HO_7, HB⟩ := hrel
  cases gk with
  | zero => exact absurd HA.out (by simp [bag_Of.l0])
  | succ k1 =>
   have H := HA.out
   clear HA
   simp only [bag_Of.l0] at H
   by_cases c2 : x9_1 < (l0.length : Int)
   ·rw [if_pos c2] at H
    have c2b0 : decide (x9_1 < (l0.length : Int)) = true := decide_eq_true c2
    clear c2
    by_cases c3 : 0 ≤ x9_1
    ·rw [if_pos c3] at H
     have c3b0 : decide (0 ≤ x9_1) = true := decide_eq_true c3
     clear c3
     by_cases c4 : x9_1 < (l0.length : Int)
     ·rw [if_pos c4] at H
      have c4b0 : decide (x9_1 < (l0.length : Int)) = true := decide_eq_true c4
      clear c4
      by_cases c5 : x4_1.length < 4398046511104
      ·rw [if_pos c5] at H
       have LMc5 := Aside0.mk c5
       clear c5
       obtain ⟨y191, hy191⟩ : ∃ y_ : List (S27), y_ = (x4_1 ++ [(⟨rd_L3 l0 x9_1, 1⟩ : S27)]) := ⟨_, rfl⟩
       replace H : (bag_Of.l0 k1 y191 l0 (l0.length : Int) (wrap64 (x9_1 + 1))) = some (r1, r2) := by first | (rw [hy191]; with_reducible exact H) | (have H2_ := (Option.bind_some _ _).symm.trans H; rw [hy191]; with_reducible exact H2_) | (have H2_ := (Option.bind_some _ _).symm.trans H; with_reducible exact H2_) | with_reducible exact H | (rw [hy191]; exact H) | exact H
       have Ny191 := Aside0.mk hy191
       clear hy191
       have H' := Aside0.mk H
       clear H
       have p190 : 0 ≤ (x9_1 : Int) := of_decide_eq_true q5_
       have q190 : x9_1 < (l0.length : Int) := of_decide_eq_true q5_
       obtain ⟨ad190, A190_0, c190_0, e190, hx190_0, hl190_0, hi190_0⟩ := at_L3 (Kd.V_reads' HO_7.out).2.2 x9_1 p190 q190
       cases e190
       obtain ⟨ce190, hce190, hMe190, hcc190⟩ := Kd.V_get HO_7.out [] x9_1 p190 (by first | exact q190 | exact of_decide_eq_true q5_ | (have e_ := (Kd.V_reads' HO_7.out).1; omega))
       obtain ⟨ua190_0, uc190_0, rfl, ul190_0, ge190_0⟩ := Kd.FK_slice_open hMe190
       have hv190_0 := hcc190 0 _ rfl
       rw [Nat.add_zero, show ((Kd.slice 51 k51)).sz = 1 from rfl, Nat.mul_one] at hv190_0
       replace hv190_0 := Option.some.inj (hv190_0.symm.trans hx190_0)
       injection hv190_0 with hva_ hvn_ hvc_
       rw [hva_] at ge190_0
       rw [hvc_] at ul190_0
       have HL190_0 := Aside0.mk (show Kd.V k51 51 _ w.heap.size _ _ (rd_L3 l0 x9_1) from Kd.V_mk ul190_0 ge190_0)
       clear hva_ hvn_ hvc_ ge190_0 ul190_0
       clear hcc190 hce190
       have HR190_0 := Aside0.mk hi190_0
       have HC190_0 := Aside0.mk hl190_0
       clear hi190_0 hl190_0
       replace p190 := eq_true p190
       replace q190 := eq_true q190
       go_wp2_with (first | ((with_reducible refine gate_builtin (b := .append) (xs := #[.tmp 13, .tmp 16]) rfl ?_); at_builtin; refine Kd.N_append k27 (w0 := w) w.heap.size rfl (.tmp 13) (.tmp 16) 22 27 (.agg #[(.slice none 0 0), (.int .i64 0)]) 32 rfl Tryd.underlying22 info27 rfl (by decide) (by omega) u4 x4_1 (⟨rd_L3 l0 x9_1, 1⟩ : S27) [.slice A190_0 (rd_L3 l0 x9_1).length c190_0, .int .i64 1] (fun k_ => (P0_ k_ ∨ w.heap.size ≤ k_)) (fun k_ => ((fun k_ => (P0_ k_ ∨ w.heap.size ≤ k_))) k_ ∧ some k_ ≠ (u4 : Value).ownBlock) rfl rfl ?aP (fun _ hk => hk) ?aF ?aO ?aB ?aS ?aL ?_; (case aP => first | exact (k27_mkF _ _ (⟨rd_L3 l0 x9_1, 1⟩ : S27) (Kd.V_reads' (Kd.V_mono (ok' := (fun k_ => ((fun k_ => (P0_ k_ ∨ w.heap.size ≤ k_))) k_ ∧ some k_ ≠ (u4 : Value).ownBlock)) (HL190_0.out) (fun k_ hk => ⟨hk.1, hk.2⟩))).2.1 (Kd.V_F (Kd.V_mono (ok' := (fun k_ => ((fun k_ => (P0_ k_ ∨ w.heap.size ≤ k_))) k_ ∧ some k_ ≠ (u4 : Value).ownBlock)) (HL190_0.out) (fun k_ hk => ⟨hk.1, hk.2⟩)))) | exact (k27_mkF _ _ (⟨rd_L3 l0 x9_1, 1⟩ : S27) (Kd.V_reads' (Kd.V_mono (ok' := (fun k_ => ((fun k_ => (P0_ k_ ∨ w.heap.size ≤ k_))) k_ ∧ some k_ ≠ (u4 : Value).ownBlock)) (HL190_0.out) (fun k_ hk => ⟨hk.1, hk.2⟩))).2.1 (Kd.V_F (Kd.V_mono (ok' := (fun k_ => ((fun k_ => (P0_ k_ ∨ w.heap.size ≤ k_))) k_ ∧ some k_ ≠ (u4 : Value).ownBlock)) (Kd.V_drewN HL190_0.out _) (fun k_ hk => ⟨hk.1, hk.2⟩))))); (case aB => exact q0_); (case aF => exact (fun k_ hk => (.inr (Nat.le_trans (below_size q0_) hk)))); (case aO => exact q46_); (case aS => exact (below_size q0_)); (case aL => have := LMc5.out; omega); intro v192 w6 ho hb hg hat; rw [← Ny191.out] at ho; have n0_ := Aside0.mk (Kd.V_afterv (ok := (fun k_ => (P0_ k_ ∨ w.heap.size ≤ k_))) (by (with_reducible repeat (first | apply Kd.V_alloc | apply Kd.V_drewN | apply Kd.V_drew)); exact HO_7.out) hg hat); have n1_ := Aside0.mk (Kd.V_afterv (ok := (fun k_ => (P0_ k_ ∨ w.heap.size ≤ k_))) (by (with_reducible repeat (first | apply Kd.V_alloc | apply Kd.V_drewN | apply Kd.V_drew)); exact HL190_0.out) hg hat); have n2_ := Aside0.mk (hb); have n3_ := Aside0.mk (ho); clear HO_7; clear HL190_0; clear HB; clear HO_4; have HO_7 := n0_; have HL190_0 := n1_; have HB := n2_; have HO193 := n3_; clear n0_ n1_ n2_ n3_; clear ho hb hg hat))
       go_roundg k1
       case measure => have := HK1.out; omega
       case rel => exact ⟨(y191), (wrap64 (x9_1 + 1)), q9_, H', ⟨by have := HK1.out; omega⟩, ⟨by (with_reducible repeat (first | apply Kd.N_alloc | apply Kd.N_drewN | apply Kd.N_drew)); exact HO193.out⟩, ⟨by (with_reducible repeat (first | apply Kd.V_alloc | apply Kd.V_drewN | apply Kd.V_drew)); exact HO_7.out⟩, ⟨q0_⟩⟩
      ·rw [if_neg c5] at H
       exact absurd H (by simp)
     ·rw [if_neg c4] at H
      exact absurd H (by simp)
    ·rw [if_neg c3] at H
     exact absurd H (by simp)
   ·rw [if_neg c2] at H
    have c2b0 : decide (x9_1 < (l0.length : Int)) = false := decide_eq_false c2
    clear c2
    replace H := Option.bind_eq_some_iff.mp H
    obtain ⟨⟨t194, t197⟩, A70, H⟩ := H
    replace H : (some (t194, t197)) = some (r1, r2) := H
    have A7 := Aside0.mk A70
    clear A70
    simp only [Option.some.injEq, Prod.mk.injEq] at H
    obtain ⟨rfl, rfl⟩ := H
    obtain ⟨Ao8, co8, eo8⟩ := Kd.N_slice HO_4.out
    subst eo8
    go_wp2_with (first | ((with_reducible refine gate_callee (f := 18) rfl ?_); refine goesL_ (some 20) rfl rfl Tryd.func18 (by kernel_rfl) rfl #[.slice Ao8 x4_1.length co8] rfl q2_ ?_; (with_reducible refine (bag_Sort.calls k1 (fun k_ => (P0_ k_ ∨ w.heap.size ≤ k_)) _ _ x4_1 t194 t197 _ ?side1 A7.out q1_).mono ?_); (case side1 => exact Kd.N_V (HO_4.out)); rintro e w9 ⟨v195, rfl, ho0, hb⟩; refine ⟨_, rfl, ?_⟩; have n0_ := Aside0.mk (Kd.N_elder' q46_ (Kd.N_base ho0) hb); have n1_ := Aside0.mk (Kd.V_elder' (by (with_reducible repeat (first | apply Kd.V_alloc | apply Kd.V_drewN | apply Kd.V_drew)); exact HO_7.out) (Kd.N_base ho0) hb); have n2_ := Aside0.mk (Kd.N_lower (Kd.N_mono (ok' := fun k_ => (P0_ k_ ∨ w.heap.size ≤ k_)) ho0 (fun k_ hk_ => Or.elim hk_ (fun hs_ => hs_) (fun hn_ => (.inr (Nat.le_trans (below_size q0_) hn_))))) (below_size q0_)); have n3_ := Aside0.mk (below_step q0_ hb); clear HO_4; clear HO_7; clear HB; have HO_4 := n0_; have HO_7 := n1_; have HO196 := n2_; have HB := n3_; clear n0_ n1_ n2_ n3_; (try clear hb); (try clear hb2); (try clear hk); (try clear hi); (try clear ho0)))
    go_ret2
    exact ⟨_, q4_, by (with_reducible repeat (first | apply Kd.N_alloc | apply Kd.N_drewN | apply Kd.N_drew)); exact HO196.out, q0_⟩

end Go.Proofs.YtckligjgnbgdiaaDoor.P
