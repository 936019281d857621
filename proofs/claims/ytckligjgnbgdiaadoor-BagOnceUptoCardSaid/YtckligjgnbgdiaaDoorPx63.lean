-- HALVED
-- Written by our own program (wip/xprint) over the seat's translation. Lean checks it.
import Derived.Test.YtckligjgnbgdiaaDoorPx0
namespace Go.Proofs.YtckligjgnbgdiaaDoor.P
open Go.RowKit Go.Proofs.YtckligjgnbgdiaaDoorW.PrintWords Go.Proofs.YtckligjgnbgdiaaDoorW.PrintLast Go.Proofs.YtckligjgnbgdiaaDoorW.PrintMore
attribute [local go_sem] max2_int min2_mn max_two min_two max_three min_three max_four min_four   -- for this text's walks alone
set_option linter.unusedVariables false
set_option linter.unusedSimpArgs false


/-! ### corollaryref13_Of: function 17 -/
def corollaryref13_Of.l0 : Nat → List (List (S51)) → List (S27) → Int → Option ((List (S27)))
 | 0, _, _, _ => none
 | k + 1, x0, x3, x4 => if x4 < (x0.length : Int) then (if 0 ≤ x4 then (if x3.length < 4398046511104 then (corollaryref13_Of.l0 k x0 (x3 ++ [(⟨rd_L3 x0 x4, 1⟩ : S27)]) (wrap64 (x4 + 1))) else (none)) else (none)) else (some x3)
def corollaryref13_Of.f (k : Nat) (l0 : List (List (S51))) : Option ((List (S27))) := corollaryref13_Of.l0 k l0 ([] : List (S27)) 0
theorem corollaryref13_Of.mono_l : ∀ k, (∀ y0 y1 y2, LeO (corollaryref13_Of.l0 k y0 y1 y2) (corollaryref13_Of.l0 (k + 1) y0 y1 y2))
 | 0 => fun _ _ _ r h => by simp [corollaryref13_Of.l0] at h
 | k + 1 => by
  have ih0 := corollaryref13_Of.mono_l k
  ·intro y0 y1 y2
   unfold corollaryref13_Of.l0
   repeat' first
   | (with_reducible exact ih0 _ _ _)
   | (with_reducible exact LeO.refl _)
   | (with_reducible exact LeO.none _)
   | (with_reducible refine LeO.ite ?_ ?_)
   | (with_reducible refine LeO.bind ?_ (fun _ => ?_))
   | exact ih0 _ _ _
   | exact LeO.none _
   | refine LeO.ite ?_ ?_
   | refine LeO.bind ?_ (fun _ => ?_)
theorem corollaryref13_Of.mono : ∀ a0 k, LeO (corollaryref13_Of.f k a0) (corollaryref13_Of.f (k + 1) a0) := by
 intro a0 k
 have ih0 := corollaryref13_Of.mono_l k
 unfold corollaryref13_Of.f
 repeat' first
   | (with_reducible exact ih0 _ _ _)
   | (with_reducible exact LeO.refl _)
   | (with_reducible exact LeO.none _)
   | (with_reducible refine LeO.ite ?_ ?_)
   | (with_reducible refine LeO.bind ?_ (fun _ => ?_))
   | exact ih0 _ _ _
   | exact LeO.none _
   | refine LeO.ite ?_ ?_
   | refine LeO.bind ?_ (fun _ => ?_)
set_option maxHeartbeats 8000000 in
set_option maxRecDepth 100000 in
theorem corollaryref13_Of.calls (k : Nat) (P0_ : Nat → Prop) (A0 : Option Addr) (c0 : Nat) (l0 : List (List (S51))) (r : List (S27)) (w : World) (hs0 : Kd.V (Kd.slice 51 k51) 23 w w.heap.size (fun k_ => P0_ k_) (.slice A0 l0.length c0) l0) (h : corollaryref13_Of.f k l0 = some r) :
  Calls Tryd.prog 17 #[.slice A0 l0.length c0] w fun e w' => ∃ v0_ : Value, e = .returned (v0_) ∧ Kd.N k27 27 w' w.heap.size (fun k_ => (P0_ k_ ∨ w.heap.size ≤ k_)) v0_ r ∧ Below w.heap.size w w' := by
 have hu27 := Tryd.underlying27
 have HO0 := Aside0.mk (show Kd.V (Kd.slice 51 k51) 23 w w.heap.size (fun k_ => (P0_ k_ ∨ w.heap.size ≤ k_)) (.slice A0 l0.length c0) l0 from Kd.V_mono hs0 (fun k_ hk => .inl hk))
 have HB := Aside0.mk (Below.refl w.heap.size w)
 have H : (corollaryref13_Of.l0 k l0 ([] : List (S27)) 0) = some r := h
 clear h
 have H' := Aside0.mk H
 clear H
 go_enter Tryd.func17, Tryd.ntmps17
 go_wp2
 go_loopg [3, 4] k (fun kq v3 v4 w' => ∃ (x3_1 : List (S27)) (x4_1 : Int), v4 = .int .i64 x4_1 ∧ Aside0 (corollaryref13_Of.l0 kq l0 x3_1 x4_1 = some r) ∧ Aside0 (kq ≤ k) ∧ Aside0 (Kd.V (Kd.slice 51 k51) 23 w' w.heap.size (fun k_ => (P0_ k_ ∨ w.heap.size ≤ k_) ∧ some k_ ≠ (v3 : Value).ownBlock) (.slice A0 l0.length c0) l0) ∧ Aside0 (Kd.N k27 27 w' w.heap.size (fun k_ => (P0_ k_ ∨ w.heap.size ≤ k_)) v3 x3_1) ∧ Aside0 (Below w.heap.size w w'))
 case atStart => exact ⟨(([] : List (S27))), (0), q9_, H', ⟨Nat.le_refl _⟩, ⟨by (with_reducible repeat (first | apply Kd.V_alloc | apply Kd.V_drewN | apply Kd.V_drew)); exact Kd.V_mono HO0.out (fun _ hk => ⟨hk, (by simp [Value.ownBlock])⟩)⟩, ⟨q19_⟩, ⟨q0_⟩⟩
 case round =>
  clear H'
  try clear c1
  obtain ⟨x3_1, x4_1, rfl, HA, HK1, HO_0, HO_3, HB⟩ := hrel
  cases gk with
  | zero => exact absurd HA.out (by simp [corollaryref13_Of.l0])
  | succ k1 =>
   have H := HA.out
   clear HA
   simp only [corollaryref13_Of.l0] at H
   by_cases c2 : x4_1 < (l0.length : Int)
   ·rw [if_pos c2] at H
    have c2b0 : decide (x4_1 < (l0.length : Int)) = true := decide_eq_true c2
    clear c2
    by_cases c3 : 0 ≤ x4_1
    ·rw [if_pos c3] at H
     have c3b0 : decide (0 ≤ x4_1) = true := decide_eq_true c3
     clear c3
     by_cases c4 : x3_1.length < 4398046511104
     ·rw [if_pos c4] at H
      have LMc4 := Aside0.mk c4
      clear c4
      obtain ⟨y270, hy270⟩ : ∃ y_ : List (S27), y_ = (x3_1 ++ [(⟨rd_L3 l0 x4_1, 1⟩ : S27)]) := ⟨_, rfl⟩
      replace H : (corollaryref13_Of.l0 k1 l0 y270 (wrap64 (x4_1 + 1))) = some r := by first | (rw [hy270]; with_reducible exact H) | (have H2_ := (Option.bind_some _ _).symm.trans H; rw [hy270]; with_reducible exact H2_) | (have H2_ := (Option.bind_some _ _).symm.trans H; with_reducible exact H2_) | with_reducible exact H | (rw [hy270]; exact H) | exact H
      have Ny270 := Aside0.mk hy270
      clear hy270
      have H' := Aside0.mk H
      clear H
      have p269 : 0 ≤ (x4_1 : Int) := of_decide_eq_true q5_
      have q269 : x4_1 < (l0.length : Int) := of_decide_eq_true q5_
      obtain ⟨ad269, A269_0, c269_0, e269, hx269_0, hl269_0, hi269_0⟩ := at_L3 (Kd.V_reads' HO_0.out).2.2 x4_1 p269 q269
      cases e269
      obtain ⟨ce269, hce269, hMe269, hcc269⟩ := Kd.V_get HO_0.out [] x4_1 p269 (by first | exact q269 | exact of_decide_eq_true q5_ | (have e_ := (Kd.V_reads' HO_0.out).1; omega))
      obtain ⟨ua269_0, uc269_0, rfl, ul269_0, ge269_0⟩ := Kd.FK_slice_open hMe269
      have hv269_0 := hcc269 0 _ rfl
      rw [Nat.add_zero, show ((Kd.slice 51 k51)).sz = 1 from rfl, Nat.mul_one] at hv269_0
      replace hv269_0 := Option.some.inj (hv269_0.symm.trans hx269_0)
      injection hv269_0 with hva_ hvn_ hvc_
      rw [hva_] at ge269_0
      rw [hvc_] at ul269_0
      have HL269_0 := Aside0.mk (show Kd.V k51 51 _ w.heap.size _ _ (rd_L3 l0 x4_1) from Kd.V_mk ul269_0 ge269_0)
      clear hva_ hvn_ hvc_ ge269_0 ul269_0
      clear hcc269 hce269
      have HR269_0 := Aside0.mk hi269_0
      have HC269_0 := Aside0.mk hl269_0
      clear hi269_0 hl269_0
      replace p269 := eq_true p269
      replace q269 := eq_true q269
      go_wp2_with (first | ((with_reducible refine gate_builtin (b := .append) (xs := #[.tmp 11, .tmp 17]) rfl ?_); at_builtin; refine Kd.N_append k27 (w0 := w) w.heap.size rfl (.tmp 11) (.tmp 17) 22 27 (.agg #[(.slice none 0 0), (.int .i64 0)]) 32 rfl Tryd.underlying22 info27 rfl (by decide) (by omega) u3 x3_1 (⟨rd_L3 l0 x4_1, 1⟩ : S27) [.slice A269_0 (rd_L3 l0 x4_1).length c269_0, .int .i64 1] (fun k_ => (P0_ k_ ∨ w.heap.size ≤ k_)) (fun k_ => ((fun k_ => (P0_ k_ ∨ w.heap.size ≤ k_))) k_ ∧ some k_ ≠ (u3 : Value).ownBlock) rfl rfl ?aP (fun _ hk => hk) ?aF ?aO ?aB ?aS ?aL ?_; (case aP => first | exact (k27_mkF _ _ (⟨rd_L3 l0 x4_1, 1⟩ : S27) (Kd.V_reads' (Kd.V_mono (ok' := (fun k_ => ((fun k_ => (P0_ k_ ∨ w.heap.size ≤ k_))) k_ ∧ some k_ ≠ (u3 : Value).ownBlock)) (HL269_0.out) (fun k_ hk => ⟨hk.1, hk.2⟩))).2.1 (Kd.V_F (Kd.V_mono (ok' := (fun k_ => ((fun k_ => (P0_ k_ ∨ w.heap.size ≤ k_))) k_ ∧ some k_ ≠ (u3 : Value).ownBlock)) (HL269_0.out) (fun k_ hk => ⟨hk.1, hk.2⟩)))) | exact (k27_mkF _ _ (⟨rd_L3 l0 x4_1, 1⟩ : S27) (Kd.V_reads' (Kd.V_mono (ok' := (fun k_ => ((fun k_ => (P0_ k_ ∨ w.heap.size ≤ k_))) k_ ∧ some k_ ≠ (u3 : Value).ownBlock)) (HL269_0.out) (fun k_ hk => ⟨hk.1, hk.2⟩))).2.1 (Kd.V_F (Kd.V_mono (ok' := (fun k_ => ((fun k_ => (P0_ k_ ∨ w.heap.size ≤ k_))) k_ ∧ some k_ ≠ (u3 : Value).ownBlock)) (Kd.V_drewN HL269_0.out _) (fun k_ hk => ⟨hk.1, hk.2⟩))))); (case aB => exact q0_); (case aF => exact (fun k_ hk => (.inr (Nat.le_trans (below_size q0_) hk)))); (case aO => exact q26_); (case aS => exact (below_size q0_)); (case aL => have := LMc4.out; omega); intro v271 w5 ho hb hg hat; rw [← Ny270.out] at ho; have n0_ := Aside0.mk (Kd.V_afterv (ok := (fun k_ => (P0_ k_ ∨ w.heap.size ≤ k_))) q6_ hg hat); have n1_ := Aside0.mk (Kd.V_afterv (ok := (fun k_ => (P0_ k_ ∨ w.heap.size ≤ k_))) (by (with_reducible repeat (first | apply Kd.V_alloc | apply Kd.V_drewN | apply Kd.V_drew)); exact HL269_0.out) hg hat); have n2_ := Aside0.mk (hb); have n3_ := Aside0.mk (ho); clear HO_0; clear HL269_0; clear HB; clear HO_3; have HO_0 := n0_; have HL269_0 := n1_; have HB := n2_; have HO272 := n3_; clear n0_ n1_ n2_ n3_; clear ho hb hg hat))
      go_roundg k1
      case measure => have := HK1.out; omega
      case rel => exact ⟨(y270), (wrap64 (x4_1 + 1)), q9_, H', ⟨by have := HK1.out; omega⟩, ⟨q6_⟩, ⟨by (with_reducible repeat (first | apply Kd.N_alloc | apply Kd.N_drewN | apply Kd.N_drew)); exact HO272.out⟩, ⟨q0_⟩⟩
     ·rw [if_neg c4] at H
      exact absurd H (by simp)
    ·rw [if_neg c3] at H
     exact absurd H (by simp)
   ·rw [if_neg c2] at H
    have c2b0 : decide (x4_1 < (l0.length : Int)) = false := decide_eq_false c2
    clear c2
    obtain rfl := Option.some.inj H
    go_wp2
    go_ret
    exact ⟨_, q4_, q26_, q0_⟩

end Go.Proofs.YtckligjgnbgdiaaDoor.P
