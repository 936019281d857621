-- HALVED
import Derived.Test.YtchpbnabbjdfgaaDoorPx0
import Derived.Test.YtchpbnabbjdfgaaDoorPx1
import Derived.Test.YtchpbnabbjdfgaaDoorPx19
import Derived.Test.YtchpbnabbjdfgaaDoorPx22
import Derived.Test.YtchpbnabbjdfgaaDoorPx37
import Derived.Test.YtchpbnabbjdfgaaDoorPx56
namespace Go.Proofs.YtchpbnabbjdfgaaDoor.P
open Go.RowKit Go.Proofs.YtchpbnabbjdfgaaDoorW.PrintWords Go.Proofs.YtchpbnabbjdfgaaDoorW.PrintLast Go.Proofs.YtchpbnabbjdfgaaDoorW.PrintMore
attribute [local go_sem] zeb zfe zfa zfb zdl zdm zec zed   -- for this text's walks alone
set_option linter.unusedVariables false
set_option linter.unusedSimpArgs false
set_option maxHeartbeats 8000000
set_option maxRecDepth 100000

abbrev b65_10 := sb_ (bz 15 9) 10
abbrev b65_18 := sb_ (bz 10 1) 2
abbrev b65_19 := sb_ b65_18 3
abbrev b65_20 := sb_ b65_19 4
abbrev b65_21 := sb_ b65_20 5
mutual
def zaz.l0 : Nat → List (S81) → List (S81) → Int → Option ((List (S81)) × Int)
 | 0, _, _, _ => none
 | k + 1, x0, x4, x5 => if x5 < (x0.length : Int) then (if 0 ≤ x5 then ((zeq.f ((zax x0 x5).f0)).bind fun t192 => (zaz.l1 k x0 x4 x5 t192 0)) else (none)) else (some (x4, 0))
def zaz.j2 : Nat → List (S81) → List (S81) → Int → List (S105) → Int → Option ((List (S81)) × Int)
 | 0, _, _, _, _, _ => none
 | k + 1, x0, x4, x5, x196000, x196001 => (zdv.f x196001).bind fun t199 => (if t199 = true then (if x196001 = 0 then (zaz.l0 k x0 x4 x5) else (if x4.length < 4398046511104 then (zaz.l0 k x0 (x4 ++ [(⟨x196000, x196001⟩ : S81)]) x5) else (none))) else (some (([] : List (S81)), 14)))
def zaz.l1 : Nat → List (S81) → List (S81) → Int → List (S105) → Int → Option ((List (S81)) × Int)
 | 0, _, _, _, _, _ => none
 | k + 1, x0, x4, x5, x196000, x196001 => if x5 < (x0.length : Int) then (if 0 ≤ x5 then ((zbe.f k ((zax x0 x5).f0) x196000).bind fun t197 => (if t197 = 0 then (zaz.l1 k x0 x4 (wrap64 (x5 + 1)) x196000 (wrap64 (x196001 + ((zax x0 x5).f1)))) else (zaz.j2 k x0 x4 x5 x196000 x196001))) else (none)) else (zaz.j2 k x0 x4 x5 x196000 x196001)
end
def zaz.f (k : Nat) (l0 : List (S81)) : Option ((List (S81)) × Int) := (zbl.f k l0).bind fun t186 => (if t186 = true then (some (([] : List (S81)), 1)) else ((zep.f l0).bind fun t187 => ((zbc.f k t187).bind fun t190 => (zaz.l0 k t190 ([] : List (S81)) 0))))
theorem zaz.zby : ∀ k, (∀ y0 y1 y2, LeO (zaz.l0 k y0 y1 y2) (zaz.l0 (k + 1) y0 y1 y2)) ∧ (∀ y0 y1 y2 y3 y4, LeO (zaz.j2 k y0 y1 y2 y3 y4) (zaz.j2 (k + 1) y0 y1 y2 y3 y4)) ∧ (∀ y0 y1 y2 y3 y4, LeO (zaz.l1 k y0 y1 y2 y3 y4) (zaz.l1 (k + 1) y0 y1 y2 y3 y4))
 | 0 => ⟨fun _ _ _ r h => by simp [zaz.l0] at h, fun _ _ _ _ _ r h => by simp [zaz.j2] at h, fun _ _ _ _ _ r h => by simp [zaz.l1] at h⟩
 | k + 1 => by
  obtain ⟨ih0, ih1, ih2⟩ := zaz.zby k
  refine ⟨?_, ?_, ?_⟩
  all_goals intros
  all_goals first
   | unfold zaz.l0
   | unfold zaz.j2
   | unfold zaz.l1
  all_goals with_reducible repeat' first
   | apply ih0
   | apply ih1
   | apply ih2
   | apply zbl.mono
   | apply zbc.mono
   | apply zbe.mono
   | apply LeO.refl
   | apply LeO.none
   | refine LeO.ite ?_ ?_
   | refine LeO.bind ?_ (fun _ => ?_)
theorem zaz.mono : ∀ a0 k, LeO (zaz.f k a0) (zaz.f (k + 1) a0) := by
 intro a0 k
 obtain ⟨ih0, ih1, ih2⟩ := zaz.zby k
 unfold zaz.f
 with_reducible repeat' first
   | apply ih0
   | apply ih1
   | apply ih2
   | apply zbl.mono
   | apply zbc.mono
   | apply zbe.mono
   | apply LeO.refl
   | apply LeO.none
   | refine LeO.ite ?_ ?_
   | refine LeO.bind ?_ (fun _ => ?_)
def zaz.T9 : Bool × List (List Nat × List Nat) := (true, [([], []), ([], []), ([1], [1]), ([0, 2], [0, 2]), ([3], [3]), ([4], [4]), ([4], [4]), ([5, 6, 4], [4, 5, 6]), ([7, 4], [4, 7]), ([8, 4], [4, 8]), ([4], [4]), ([10, 4], [4, 10]), ([9, 11, 4, 4], [4, 9, 11]), ([12, 4], [4, 12]), ([4, 13], [4, 13])])
def zaz.B9 : List Nat := [0, 0, 2, 7, 15, 31, 31, 127, 255, 511, 31, 1055, 4095, 8191, 16383]
theorem zaz.tab9 : rtab .any (opsOf Tryd.f50 9) = zaz.T9 := by kernel_rfl
theorem zaz.bits9 : zgs zaz.T9.2 zaz.B9 = true := by kernel_rfl
def zaz.T11 : Bool × List (List Nat × List Nat) := (true, [([], []), ([0], [0]), ([], []), ([], []), ([2, 3], [2, 3]), ([4], [4]), ([5], [5]), ([1, 6], [1, 6]), ([0, 1, 2, 3, 4, 5, 6, 7], []), ([8, 7, 0, 1, 2, 3, 4, 5, 6, 7], [7, 8])])
def zaz.B11 : List Nat := [0, 1, 0, 0, 12, 28, 60, 127, 255, 511]
theorem zaz.tab11 : rtab .any (opsOf Tryd.f50 11) = zaz.T11 := by kernel_rfl
theorem zaz.bits11 : zgs zaz.T11.2 zaz.B11 = true := by kernel_rfl
theorem zaz.calls (k : Nat) (P0_ : Nat → Prop) (A0 : Option Addr) (c0 : Nat) (l0 : List (S81)) (r1 : List (S81)) (r2 : Int) (w : World) (hs0 : Kd.V k81 81 w w.heap.size (fun k_ => P0_ k_) (.slice A0 l0.length c0) l0) (h : zaz.f k l0 = some (r1, r2)) (hG : Glob w) :
  Calls Tryd.prog 50 #[.slice A0 l0.length c0] w fun e w' => ∃ v0_ : Value, e = .returned (.tuple #[v0_, .int .i64 r2]) ∧ Kd.N k81 81 w' w.heap.size (fun k_ => (P0_ k_ ∨ w.heap.size ≤ k_)) v0_ r1 ∧ Below w.heap.size w w' := by
 have hu81 := Tryd.underlying81; have HG := ak_ hG; clear hG; have HO0 := ak_ (show Kd.V k81 81 w w.heap.size (fun k_ => (P0_ k_ ∨ w.heap.size ≤ k_)) (.slice A0 l0.length c0) l0 from Kd.zcf hs0 (fun k_ hk => .inl hk)); have HB := ak_ (Below.refl w.heap.size w); have H := h; unfold zaz.f at H; clear h; obtain ⟨t186, A2, H⟩ := bi_ H; try dsimp only at H
 by_cases c3 : t186 = true
 ·subst c3; replace H := ifT_ H; simp only [Option.some.injEq, Prod.mk.injEq] at H; obtain ⟨rfl, rfl⟩ := H; go_enter Tryd.func50, Tryd.ntmps50; go_wp2_with (first | ((with_reducible refine gc_ 68 rfl ?_); refine gl_ 8 Tryd.func68 #[.slice A0 l0.length c0, (.func (.func 77) #[] #[])] ?_; (with_reducible refine ca_ (zbl.calls k _ _ l0  true _ ?side1 ?side2 A2.out q7_) ?_); (case side1 => exact cx_ ((Kd.zbx HO0.out).2.2)); (case side2 => exact (Kd.zbx HO0.out).2.1); intro w4 hb; replace HO0 := Vb_ q28_ hb; replace HB := bs_ hb; clear hb)); go_ret2; exact ⟨_, q5_, q33_, q0_⟩
 ·replace c3 := Bool.eq_false_iff.mpr c3; subst c3; replace H := ifF_ H; obtain ⟨t187, A5, H⟩ := bi_ H; replace H : ((zbc.f k t187).bind fun t190 => (zaz.l0 k t190 ([] : List (S81)) 0)) = some (r1, r2) := H; obtain ⟨t190, A6, H⟩ := bi_ H; replace H : (zaz.l0 k t190 ([] : List (S81)) 0) = some (r1, r2) := H; have H' := ak_ H; clear H; go_enter Tryd.func50, Tryd.ntmps50; go_wp2_with (first | ((with_reducible refine gc_ 68 rfl ?_); refine gl_ 8 Tryd.func68 #[.slice A0 l0.length c0, (.func (.func 77) #[] #[])] ?_; (with_reducible refine ca_ (zbl.calls k _ _ l0  false _ ?side1 ?side2 A2.out q7_) ?_); (case side1 => exact cx_ ((Kd.zbx HO0.out).2.2)); (case side2 => exact (Kd.zbx HO0.out).2.1); intro w7 hb; replace HO0 := Vb_ q28_ hb; replace HB := bs_ hb; clear hb) | ((with_reducible refine gc_ 78 rfl ?_); refine gl_ 10 Tryd.func78 #[.slice A0 l0.length c0] ?_; (with_reducible refine (zep.calls (fun k_ => (P0_ k_ ∨ w.heap.size ≤ k_)) _ _ l0 t187 _ ?side1 A5.out).mono ?_); (case side1 => exact HO0.out); rintro e w8 ⟨v188, rfl, ho0, hb⟩; refine ⟨_, rfl, ?_⟩; have HO189 := ak_ (Kd.zhi (Kd.zci (ok' := fun k_ => (P0_ k_ ∨ w.heap.size ≤ k_)) ho0 (fun k_ hk_ => Or.elim hk_ (fun hs_ => hs_) (fun hn_ => (.inr (Nat.le_trans (zcb q0_) hn_))))) (zcb q0_)); replace HO0 := ak_ (Kd.zfj q28_ (Kd.zel ho0) hb); replace HB := bs_ hb; clear hb; (try clear ho0); obtain ⟨Ao9, co9, eo9⟩ := Kd.zcy HO189.out; subst eo9) | ((with_reducible refine gc_ 79 rfl ?_); refine gl_ 12 Tryd.func79 #[.slice Ao9 t187.length co9, (.func (.func 80) #[] #[])] ?_; (with_reducible refine (zbc.calls k (fun k_ => ((P0_ k_ ∨ w.heap.size ≤ k_))) (fun k_ => some k_ = (.slice Ao9 t187.length co9 : Value).ownBlock) (.slice Ao9 t187.length co9) t187  t190 w _ ?side1 ?side2 A6.out).mono ?_); (case side1 => exact q0_); (case side2 => exact ⟨HO189.out, fun _ h_ => h_⟩); rintro e w10 ⟨rfl, hy0, hb, hkp⟩; refine ⟨_, rfl, ?_⟩; replace HO0 := ak_ (Kd.zcf (ok' := fun k_ => (P0_ k_ ∨ w.heap.size ≤ k_) ∧ some k_ ≠ (.slice Ao9 t187.length co9 : Value).ownBlock) (Kd.V_keptB (HO0.out) hkp (fun k_ hk_ hs_ => (hk_.2) hs_)) (fun k_ hk_ => ⟨hk_.1.1, hk_.1.2⟩)); replace HO189 := ak_ hy0; replace HB := ak_ hb; clear hb; (try clear hkp); (try clear hy0))); go_loopg [4, 5] k (fun kq v4 v5 w' => ∃ (x4_1 : List (S81)) (x5_1 : Int), v5 = .int .i64 x5_1 ∧ zab (zaz.l0 kq t190 x4_1 x5_1 = some (r1, r2)) ∧ zab (kq ≤ k) ∧ zab (Kd.N k81 81 w' w.heap.size (fun k_ => (P0_ k_ ∨ w.heap.size ≤ k_) ∧ some k_ ≠ (v4 : Value).ownBlock) (.slice Ao9 t187.length co9) t190) ∧ zab (Kd.N k81 81 w' w.heap.size (fun k_ => (P0_ k_ ∨ w.heap.size ≤ k_) ∧ some k_ ≠ ((.slice Ao9 t187.length co9) : Value).ownBlock) v4 x4_1) ∧ zab (Below w.heap.size w w'))
  case atStart => exact ⟨(([] : List (S81))), (0), q6_, H', ⟨Nat.le_refl _⟩, ⟨by (with_reducible repeat (first | apply Kd.zcj | apply Kd.zcx | apply Kd.zdc)); exact Kd.zci HO189.out (fun _ hk => ⟨hk, (by simp [Value.ownBlock])⟩)⟩, ⟨q33_⟩, ⟨q0_⟩⟩
  case round =>
   clear H'; (try clear c3); obtain ⟨x4_1, x5_1, rfl, HA, HK1, HO_0, HO_4, HB⟩ := hrel; have hl0_1 := (Kd.zdg HO_0.out).1; rw [hl0_1] at HO_0; (try simp only [hl0_1]); (try simp only [hl0_1] at HO_4)
   cases gk with
   | zero => exact absurd HA.out (by simp [zaz.l0])
   | succ k1 =>
    have H := HA.out; clear HA; simp only [zaz.l0] at H
    by_cases c11 : x5_1 < (t190.length : Int)
    ·rw [if_pos c11] at H; have c11b0 := decide_eq_true c11; clear c11
     by_cases c12 : 0 ≤ x5_1
     ·rw [if_pos c12] at H; have c12b0 := decide_eq_true c12; clear c12; obtain ⟨t192, A13, H⟩ := bi_ H; replace H : (zaz.l1 k1 t190 x4_1 x5_1 t192 0) = some (r1, r2) := H; have HC14 := ak_ H; clear H; have p191 : 0 ≤ (x5_1 : Int) := of_decide_eq_true q4_; have q191 : x5_1 < (t190.length : Int) := of_decide_eq_true q4_; obtain ⟨ad191, A191_0, c191_0, e191, hx191_0, hx191_1, hl191_0, hi191_0⟩ := zge (Kd.zdg HO_0.out).2.2 x5_1 p191 q191; cases e191; obtain ⟨ce191, hce191, hMe191, hcc191⟩ := Kd.N_get HO_0.out z81 x5_1 p191 (by first | exact q191 | exact of_decide_eq_true q4_ | (have e_ := (Kd.zdg HO_0.out).1; omega)); obtain ⟨ua191_0, uc191_0, rfl, ul191_0, ge191_0⟩ := k81_openF hMe191; have hv191_0 := hcc191 0 _ rfl; rw [Nat.add_zero] at hv191_0; replace hv191_0 := Option.some.inj (hv191_0.symm.trans hx191_0); injection hv191_0 with hva_ hvn_ hvc_
      rw [hva_] at ge191_0; rw [hvc_] at ul191_0; have HL191_0 := ak_ (show Kd.V k105 105 _ w.heap.size _ _ ((zax t190 x5_1).f0) from Kd.V_mk ul191_0 ge191_0); clear hva_ hvn_ hvc_ ge191_0 ul191_0 hcc191 hce191; have HR191_0 := ak_ hi191_0; have HC191_0 := ak_ hl191_0; clear hi191_0 hl191_0; replace p191 := eq_true p191; replace q191 := eq_true q191; go_upto_block 2 with (first | ((with_reducible refine gc_ 81 rfl ?_); refine gl_ 22 Tryd.func81 #[.slice A191_0 ((zax t190 x5_1).f0).length c191_0] ?_; (with_reducible refine (zeq.calls _ _ ((zax t190 x5_1).f0) t192 _ ?side1 HC191_0.out A13.out).mono ?_); (case side1 => exact cx_ q37_); rintro e w15 ⟨v193, rfl, ho0, hb⟩; refine ⟨_, rfl, ?_⟩; have HO194 := ak_ (Kd.R_lower (Kd.R_newM (M := fun k_ => (w.heap.size ≤ k_)) ho0 (zcb q0_) (fun k_ h_ => h_)) (zcb q0_)); replace HO_0 := ak_ (Kd.N_elder' q34_ (Kd.R_base ho0) hb); replace HO_4 := ak_ (Kd.N_elder' q41_ (Kd.R_base ho0) hb); replace HL191_0 := ak_ (Kd.zfj (by (with_reducible repeat (first | apply Kd.zcs | apply Kd.zcm | apply Kd.zdj)); exact HL191_0.out) (Kd.R_base ho0) hb); replace HR191_0 := Cb_ q37_ hb; replace HB := bs_ hb; clear hb; (try clear ho0); obtain ⟨Ao16, co16, eo16⟩ := Kd.R_slice HO194.out; subst eo16) | ((with_reducible refine gd_ 6 rfl ?_); refine by_ #[.slice none 0 0, .int .i64 0] 81 ?_; intro gb195 hg w17 BK195 hb; have GE195 := gw_ hg; replace HO_0 := Ne_ q34_ hg hb; replace HO_4 := Ne_ q41_ hg hb; replace HL191_0 := Ve_ (by (with_reducible repeat (first | apply Kd.zcs | apply Kd.zcm | apply Kd.zdj)); exact HL191_0.out) hg hb; replace HO194 := Rb_ (by (with_reducible repeat (first | apply Kd.R_alloc | apply Kd.R_drewN | apply Kd.R_drew)); exact HO194.out) hb; replace HR191_0 := Cb_ q37_ hb; replace HB := bs_ hb; clear hb hg; have hz18 := bc2_ (w := w17) BK195.out))
      (try simp only [Act.put, List.setIfInBounds_toArray, List.set_cons_zero, List.set_cons_succ]); go_cut [5] (fun v5 wc => ∃ (kq : Nat) (x5_13 : Int) (x196001_13 : Int), v5 = .int .i64 x5_13 ∧ zab (zaz.j2 kq t190 x4_1 x5_13 t192 x196001_13 = some (r1, r2)) ∧ zab (kq ≤ k1) ∧ zab (Kd.N k81 81 wc w.heap.size (fun k_ => (P0_ k_ ∨ w.heap.size ≤ k_) ∧ some k_ ≠ (u4 : Value).ownBlock ∧ some k_ ≠ ((.slice Ao16 t192.length co16) : Value).ownBlock ∧ k_ ≠ gb195) (.slice (some ad191) t190.length co9) t190) ∧ zab (Kd.N k81 81 wc w.heap.size (fun k_ => (P0_ k_ ∨ w.heap.size ≤ k_) ∧ some k_ ≠ ((.slice (some ad191) t190.length co9) : Value).ownBlock ∧ some k_ ≠ ((.slice Ao16 t192.length co16) : Value).ownBlock ∧ k_ ≠ gb195) u4 x4_1) ∧ zab (Kd.R k105 105 wc w.heap.size (fun k_ => (w.heap.size ≤ k_)) (.slice Ao16 t192.length co16) t192) ∧ zab (wc.heap[gb195]? = some (.cells #[(.slice Ao16 t192.length co16), .int .i64 x196001_13] 81 (0, 0))) ∧ zab (Below w.heap.size w wc))
      case first =>
       have H := HC14.out; clear HC14; have H' := ak_ H; clear H; go_wp2; go_loopg [5] k1 (fun kq v5 w' => ∃ (x5_2 : Int) (x196001_2 : Int), v5 = .int .i64 x5_2 ∧ zab (zaz.l1 kq t190 x4_1 x5_2 t192 x196001_2 = some (r1, r2)) ∧ zab (kq ≤ k1) ∧ zab (Kd.N k81 81 w' w.heap.size (fun k_ => (P0_ k_ ∨ w.heap.size ≤ k_) ∧ some k_ ≠ (u4 : Value).ownBlock ∧ some k_ ≠ ((.slice Ao16 t192.length co16) : Value).ownBlock ∧ k_ ≠ gb195) (.slice (some ad191) t190.length co9) t190) ∧ zab (Kd.N k81 81 w' w.heap.size (fun k_ => (P0_ k_ ∨ w.heap.size ≤ k_) ∧ some k_ ≠ ((.slice (some ad191) t190.length co9) : Value).ownBlock ∧ some k_ ≠ ((.slice Ao16 t192.length co16) : Value).ownBlock ∧ k_ ≠ gb195) u4 x4_1) ∧ zab (Kd.R k105 105 w' w.heap.size (fun k_ => (w.heap.size ≤ k_)) (.slice Ao16 t192.length co16) t192) ∧ zab (w'.heap[gb195]? = some (.cells #[(.slice Ao16 t192.length co16), .int .i64 x196001_2] 81 (0, 0))) ∧ zab (Below w.heap.size w w'))
       case atStart => exact ⟨(x5_1), (0), q6_, H', ⟨Nat.le_refl _⟩, ⟨by (try simp only [hl0_1]); (with_reducible repeat (first | apply Kd.zcj | apply Kd.zcx | apply Kd.zdc)); exact Kd.zci (Nf_ (Nf_ (Kd.zci HO_0.out (fun k_ hk => (⟨hk, hk.2⟩ : _ ∧ k_ ≠ gb195))))) (fun _ hk => ⟨hk.1.1.1.1, ⟨hk.1.1.1.2, ⟨hk.1.1.2, hk.1.2⟩⟩⟩)⟩, ⟨by (try simp only [hl0_1]); (with_reducible repeat (first | apply Kd.zcj | apply Kd.zcx | apply Kd.zdc)); exact Kd.zci (Nf_ (Nf_ (Kd.zci HO_4.out (fun k_ hk => (⟨hk, hk.2⟩ : _ ∧ k_ ≠ gb195))))) (fun _ hk => ⟨hk.1.1.1.1, ⟨hk.1.1.1.2, ⟨hk.1.1.2, hk.1.2⟩⟩⟩)⟩, ⟨by (try simp only [hl0_1]); (with_reducible repeat (first | apply Kd.R_alloc | apply Kd.R_drewN | apply Kd.R_drew)); exact Kd.zio (Rf_ (Rf_ (Kd.R_types HO194.out BK195.out (by decide)))) (fun _ hk => hk.1.1)⟩, ⟨by (try simp only [hl0_1]); (with_reducible repeat first | apply bN_ | apply bD_ | apply bA_); refine zbq (cs := #[.slice Ao16 t192.length co16, .int .i64 0]) ?_ 1 _ rfl; (with_reducible repeat first | apply bN_ | apply bD_ | apply bA_); refine zbq (cs := #[.slice none 0 0, .int .i64 0]) ?_ 0 _ rfl; (with_reducible repeat first | apply bN_ | apply bD_ | apply bA_); exact BK195.out⟩, ⟨q0_⟩⟩
       case round =>
        clear H'; (try clear c11b0 c12b0 hz18 hx191_0 hx191_1 p191 q191); obtain ⟨x5_2, x196001_2, rfl, HA, HK2, HO_0, HO_4, HO_196000, BK195, HB⟩ := hrel
        cases gk with
        | zero => exact absurd HA.out (by simp [zaz.l1])
        | succ k2 =>
         have H := HA.out; clear HA; simp only [zaz.l1] at H
         by_cases c19 : x5_2 < (t190.length : Int)
         ·rw [if_pos c19] at H; have c19b0 := decide_eq_true c19; clear c19; (first | rw [c19b0] | (simp only [zhm, i32_w]; rw [c19b0]) | skip)
          by_cases c20 : 0 ≤ x5_2
          ·rw [if_pos c20] at H; have c20b0 := decide_eq_true c20; clear c20; obtain ⟨t197, A21, H⟩ := bi_ H; try dsimp only at H
           try go_wp2
           replace HO_0 := ak_ (Kd.zdc HO_0.out); replace HO_4 := ak_ (Kd.zdc HO_4.out); replace HO_196000 := ak_ (Kd.R_drew HO_196000.out); replace BK195 := dB_ BK195; replace HB := ak_ (zbn HB.out); have p196 : 0 ≤ (x5_2 : Int) := of_decide_eq_true q4_; have q196 : x5_2 < (t190.length : Int) := of_decide_eq_true q4_; obtain ⟨ad196, A196_0, c196_0, e196, hx196_0, hx196_1, hl196_0, hi196_0⟩ := zge (Kd.zdg HO_0.out).2.2 x5_2 p196 q196; obtain rfl : ad191 = ad196 := (by injection e196); obtain ⟨ce196, hce196, hMe196, hcc196⟩ := Kd.N_get HO_0.out z81 x5_2 p196 (by first | exact q196 | exact of_decide_eq_true q4_ | (have e_ := (Kd.zdg HO_0.out).1; omega)); obtain ⟨ua196_0, uc196_0, rfl, ul196_0, ge196_0⟩ := k81_openF hMe196; have hv196_0 := hcc196 0 _ rfl; rw [Nat.add_zero] at hv196_0; replace hv196_0 := Option.some.inj (hv196_0.symm.trans hx196_0); injection hv196_0 with hva_ hvn_ hvc_
           rw [hva_] at ge196_0; rw [hvc_] at ul196_0; have HL196_0 := ak_ (show Kd.V k105 105 _ w.heap.size _ _ ((zax t190 x5_2).f0) from Kd.V_mk ul196_0 ge196_0); clear hva_ hvn_ hvc_ ge196_0 ul196_0 hcc196 hce196; have HR196_0 := ak_ hi196_0; have HC196_0 := ak_ hl196_0; clear hi196_0 hl196_0; replace p196 := eq_true p196; replace q196 := eq_true q196; refine zfi (n := 15) (S := fun w' => w'.cell? ⟨gb195, 0, none⟩ = some (.slice Ao16 t192.length co16) ∧ w'.cell? ⟨gb195, 1, none⟩ = some (.int .i64 x196001_2) ∧ w'.cell? (ad191.add ((x5_2).toNat * 2)) = some (.slice A196_0 ((zax t190 x5_2).f0).length c196_0) ∧ w'.cell? ⟨(ad191.add ((x5_2).toNat * 2)).block, (ad191.add ((x5_2).toNat * 2)).off + 1, none⟩ = some (.int .i64 ((zax t190 x5_2).f1))) (ds := []) (bz 15 0) (by kernel_rfl) rfl rfl ⟨bt_ BK195.out 0, bt_ BK195.out 1, hx196_0, hx196_1⟩ (fun hHeld => ?_); refine zcw zaz.tab9 zaz.bits9 (fun HT_ HW_ => ?_); generalize wr.drew = w23 at HO_0 HO_4 HO_196000 BK195 HB HL196_0 HR196_0 hx196_0 hx196_1 hHeld ⊢; refine pz_ 0 24 (bz 15 1) ?_; refine pz_ 1 25 (bz 15 2) ?_; refine pz_ 2 26 (bz 15 3) ?_; refine pz_ 3 27 (bz 15 4) ?_; refine pz_ 4 28 (bz 15 5) ?_; refine pz_ 5 29 (bz 15 6) ?_; refine pz_ 6 30 (bz 15 7) ?_; refine pz_ 7 31 (bz 15 8) ?_; refine pz_ 8 32 (bz 15 9) ?_; refine pz_ 10 34 b65_10 ?_; refine tz4_ 9 33 (bz 15 11) hHeld ?_; refine tz4_ 11 35 (bz 15 12) hHeld ?_; refine oz_ 12 (some 36) (bz 15 13) (fun K hK => ?_); refine go1_ Tryd.func76 #[.slice A196_0 ((zax t190 x5_2).f0).length c196_0, .slice Ao16 t192.length co16] ?_; (with_reducible refine (zbe.calls k2 _ _ ((zax t190 x5_2).f0) _ _ t192 t197 _ ?side1 ?side2 ?side3 ?side4 A21.out).mono ?_); (case side1 => exact cx_ q29_); (case side2 => exact HC196_0.out); (case side3 => exact cx_ ((Kd.zfv HO_196000.out).2.2)); (case side4 => exact (Kd.zfv HO_196000.out).2.1); rintro e w24 ⟨rfl, hb⟩; have HS2_ := hc_ hb hHeld.2.2.1; have HS3_ := hc_ hb hHeld.2.2.2; refine ⟨_, rfl, ?_⟩; replace HO_0 := Nb_ q34_ hb; replace HO_4 := Nb_ q41_ hb; replace HO_196000 := Rb_ (by (with_reducible repeat (first | apply Kd.R_alloc | apply Kd.R_drewN | apply Kd.R_drew)); exact HO_196000.out) hb; replace HL196_0 := Vb_ (by (with_reducible repeat (first | apply Kd.zcs | apply Kd.zcm | apply Kd.zdj)); exact HL196_0.out) hb; replace BK195 := bb_ q46_ hb; replace HR196_0 := Cb_ q29_ hb; replace HB := bs_ hb; clear hb; refine hK.out _ _ ⟨bt_ BK195.out 0, bt_ BK195.out 1, HS2_, HS3_⟩ (fun hHeld => ?_); clear hK K; refine nz_ ?_
           by_cases c22 : t197 = 0
           ·rw [if_pos c22] at H; have c22b0 := bq_ c22; have c22b1 := bq0_ c22; clear c22; have H' := ak_ H; clear H; refine pz_ 13 37 (bz 15 14) ?_; refine pz_ 14 38 (bz 15 15) ?_; refine zfq (zdd HT_.out (by kernel_rfl)) ?_; try go_wp2
            replace HO_0 := ak_ (Kd.zdc HO_0.out); replace HO_4 := ak_ (Kd.zdc HO_4.out); replace HO_196000 := ak_ (Kd.R_drew HO_196000.out); replace HL196_0 := ak_ (Kd.zdj HL196_0.out); replace BK195 := dB_ BK195; replace HR196_0 := ak_ (Kd.C_drew HR196_0.out); replace HB := ak_ (zbn HB.out); have p198 : 0 ≤ (x5_2 : Int) := of_decide_eq_true q4_; have q198 : x5_2 < (t190.length : Int) := of_decide_eq_true q4_; obtain ⟨ad198, A198_0, c198_0, e198, hx198_0, hx198_1, hl198_0, hi198_0⟩ := zge (Kd.zdg HO_0.out).2.2 x5_2 p198 q198; obtain rfl : ad191 = ad198 := (by injection e198); obtain ⟨ce198, hce198, hMe198, hcc198⟩ := Kd.N_get HO_0.out z81 x5_2 p198 (by first | exact q198 | exact of_decide_eq_true q4_ | (have e_ := (Kd.zdg HO_0.out).1; omega)); obtain ⟨ua198_0, uc198_0, rfl, ul198_0, ge198_0⟩ := k81_openF hMe198; have hv198_0 := hcc198 0 _ rfl; rw [Nat.add_zero] at hv198_0; replace hv198_0 := Option.some.inj (hv198_0.symm.trans hx198_0); injection hv198_0 with hva_ hvn_ hvc_
            rw [hva_] at ge198_0; rw [hvc_] at ul198_0; have HL198_0 := ak_ (show Kd.V k105 105 _ w.heap.size _ _ ((zax t190 x5_2).f0) from Kd.V_mk ul198_0 ge198_0); clear hva_ hvn_ hvc_ ge198_0 ul198_0 hcc198 hce198; have HR198_0 := ak_ hi198_0; have HC198_0 := ak_ hl198_0; clear hi198_0 hl198_0; replace p198 := eq_true p198; replace q198 := eq_true q198; refine zfi (n := 10) (S := fun w' => w'.cell? ⟨gb195, 0, none⟩ = some (.slice Ao16 t192.length co16) ∧ w'.cell? ⟨gb195, 1, none⟩ = some (.int .i64 x196001_2) ∧ w'.cell? (ad191.add ((x5_2).toNat * 2)) = some (.slice A198_0 ((zax t190 x5_2).f0).length c198_0) ∧ w'.cell? ⟨(ad191.add ((x5_2).toNat * 2)).block, (ad191.add ((x5_2).toNat * 2)).off + 1, none⟩ = some (.int .i64 ((zax t190 x5_2).f1))) (ds := [9]) (bz 10 0) (by kernel_rfl) rfl rfl ⟨bt_ BK195.out 0, bt_ BK195.out 1, hx198_0, hx198_1⟩ (fun hHeld => ?_); refine zcw zaz.tab11 zaz.bits11 (fun HT_ HW_ => ?_); generalize w24.drew = w25 at HO_0 HO_4 HO_196000 HL196_0 BK195 HR196_0 HB HL198_0 HR198_0 hx198_0 hx198_1 hHeld ⊢; refine pz_ 0 41 (bz 10 1) ?_; refine pz_ 2 43 b65_18 ?_; refine pz_ 3 44 b65_19 ?_; refine pz_ 4 45 b65_20 ?_; refine pz_ 5 46 b65_21 ?_; refine tz4_ 1 42 (bz 10 6) hHeld ?_; refine tz4_ 6 47 (bz 10 7) hHeld ?_; refine pz_ 7 48 (bz 10 8) ?_; refine pz_ 8 49 (bz 10 9) ?_; refine last_ (i := 9) (N := none) (bz 10 10) rfl rfl (one_of HT_.out (by kernel_rfl)) (by decide) (fun K hK => ?_); have hs26 : w25.cell? ⟨gb195, 1, none⟩ = some (.int .i64 x196001_2) := bt_ BK195.out 1; have hfs26 := zag BK195.out 1; refine skip_ (w1 := ?_) (by rfl) rfl ?_ ?_; rotate_left
            ·go_simp; rfl
            refine hK.out _ _ ?_; clear hK K; refine zfq (zdd HT_.out (by kernel_rfl)) ?_; try go_wp2
            go_roundg k2
            case measure => have := HK1.out; have := HK2.out; omega
            case rel => exact ⟨(wrap64 (x5_2 + 1)), (wrap64 (x196001_2 + ((zax t190 x5_2).f1))), q6_, H', ⟨by have := HK1.out; have := HK2.out; omega⟩, ⟨by (try simp only [hl0_1]); (with_reducible repeat (first | apply Kd.zcj | apply Kd.zcx | apply Kd.zdc)); exact Kd.zci (Nf_ (Kd.zci HO_0.out (fun k_ hk => (⟨hk, hk.2.2.2⟩ : _ ∧ k_ ≠ gb195)))) (fun _ hk => ⟨hk.1.1, ⟨hk.1.2.1, ⟨hk.1.2.2.1, hk.1.2.2.2⟩⟩⟩)⟩, ⟨by (try simp only [hl0_1]); (with_reducible repeat (first | apply Kd.zcj | apply Kd.zcx | apply Kd.zdc)); exact Kd.zci (Nf_ (Kd.zci HO_4.out (fun k_ hk => (⟨hk, hk.2.2.2⟩ : _ ∧ k_ ≠ gb195)))) (fun _ hk => ⟨hk.1.1, ⟨hk.1.2.1, ⟨hk.1.2.2.1, hk.1.2.2.2⟩⟩⟩)⟩, ⟨by (try simp only [hl0_1]); (with_reducible repeat (first | apply Kd.R_alloc | apply Kd.R_drewN | apply Kd.R_drew)); exact Kd.zio (Rf_ (Kd.R_types HO_196000.out BK195.out (by decide))) (fun _ hk => hk.1)⟩, ⟨by (try simp only [hl0_1]); (with_reducible repeat first | apply bN_ | apply bD_ | apply bA_); refine zbq (cs := #[.slice Ao16 t192.length co16, .int .i64 x196001_2]) ?_ 1 _ rfl; (with_reducible repeat first | apply bN_ | apply bD_ | apply bA_); exact BK195.out⟩, ⟨q0_⟩⟩
           ·rw [if_neg c22] at H; have c22b0 := bn_ c22; have c22b1 := bn1_ c22; have H' := ak_ H; clear H; refine pz_ 13 37 (bz 15 14) ?_; refine pz_ 14 38 (bz 15 15) ?_; refine zfq (zdd HT_.out (by kernel_rfl)) ?_; try go_wp2
            go_meet
            case rel => exact ⟨_, (x5_2), (x196001_2), q6_, H', ⟨by have := HK1.out; have := HK2.out; first | omega | exact Nat.le_refl _⟩, ⟨by (try simp only [hl0_1]); (with_reducible repeat (first | apply Kd.zcj | apply Kd.zcx | apply Kd.zdc)); exact HO_0.out⟩, ⟨by (try simp only [hl0_1]); (with_reducible repeat (first | apply Kd.zcj | apply Kd.zcx | apply Kd.zdc)); exact HO_4.out⟩, ⟨by (try simp only [hl0_1]); (with_reducible repeat (first | apply Kd.R_alloc | apply Kd.R_drewN | apply Kd.R_drew)); exact HO_196000.out⟩, ⟨by (try simp only [hl0_1]); (with_reducible repeat first | apply bN_ | apply bD_ | apply bA_); exact BK195.out⟩, ⟨q0_⟩⟩
          ·rw [if_neg c20] at H; exact absurd H (by simp)
         ·rw [if_neg c19] at H; have c19b0 := decide_eq_false c19; clear c19; (first | rw [c19b0] | (simp only [zhm, i32_w]; rw [c19b0]) | skip); have H' := ak_ H; clear H; try go_wp2
          replace HO_0 := ak_ (Kd.zdc HO_0.out); replace HO_4 := ak_ (Kd.zdc HO_4.out); replace HO_196000 := ak_ (Kd.R_drew HO_196000.out); replace BK195 := dB_ BK195; replace HB := ak_ (zbn HB.out); refine zfi (n := 15) (S := fun w' => True) (ds := []) (bz 15 0) (by kernel_rfl) rfl rfl trivial (fun hHeld => ?_); refine zcw zaz.tab9 zaz.bits9 (fun HT_ HW_ => ?_); generalize wr.drew = w29 at HO_0 HO_4 HO_196000 BK195 HB hHeld ⊢; refine pz_ 0 24 (bz 15 1) ?_; refine pz_ 1 25 (bz 15 2) ?_; refine pz_ 2 26 (bz 15 3) ?_; refine pz_ 3 27 (bz 15 4) ?_; refine pz_ 4 28 (bz 15 5) ?_; refine pu_ 5 29 (bz 15 6) ?_; refine pu_ 6 30 (bz 15 7) ?_; refine pu_ 7 31 (bz 15 8) ?_; refine pu_ 8 32 (bz 15 9) ?_; refine pu_ 9 33 (bz 15 10) ?_; refine pu_ 10 34 (bz 15 11) ?_; refine pu_ 11 35 (bz 15 12) ?_; refine pu_ 12 36 (bz 15 13) ?_; refine pu_ 13 37 (bz 15 14) ?_; refine pz_ 14 38 (bz 15 15) ?_; refine zfq (zdd HT_.out (by kernel_rfl)) ?_; try go_wp2
          go_meet
          case rel => exact ⟨_, (x5_2), (x196001_2), q6_, H', ⟨by have := HK1.out; have := HK2.out; first | omega | exact Nat.le_refl _⟩, ⟨by (try simp only [hl0_1]); (with_reducible repeat (first | apply Kd.zcj | apply Kd.zcx | apply Kd.zdc)); exact HO_0.out⟩, ⟨by (try simp only [hl0_1]); (with_reducible repeat (first | apply Kd.zcj | apply Kd.zcx | apply Kd.zdc)); exact HO_4.out⟩, ⟨by (try simp only [hl0_1]); (with_reducible repeat (first | apply Kd.R_alloc | apply Kd.R_drewN | apply Kd.R_drew)); exact HO_196000.out⟩, ⟨by (try simp only [hl0_1]); (with_reducible repeat first | apply bN_ | apply bD_ | apply bA_); exact BK195.out⟩, ⟨q0_⟩⟩
      case rest =>
       clear HC14; obtain ⟨kq, x5_13, x196001_13, rfl, HA, HJ13, HO_0, HO_4, HO_196000, BK195, HB⟩ := hcut
       cases kq with
       | zero => exact absurd HA.out (by simp [zaz.j2])
       | succ kj13 =>
        have H := HA.out; clear HA; simp only [zaz.j2] at H; obtain ⟨t199, A30, H⟩ := bi_ H; try dsimp only at H
        have hcz33_0 : wc.cell? ⟨gb195, 0, none⟩ = some (.slice Ao16 t192.length co16) := bt_ BK195.out 0; have hcz33_1 : wc.cell? ⟨gb195, 1, none⟩ = some (.int .i64 x196001_13) := bt_ BK195.out 1; have hfz33_0 := zag BK195.out 0
        by_cases c31 : t199 = true
        ·subst c31; replace H := ifT_ H; have hfz33_1 := zag BK195.out 1
         by_cases c32 : x196001_13 = 0
         ·rw [if_pos c32] at H; have c32b0 := bq_ c32; have c32b1 := bq0_ c32; clear c32; have H' := ak_ H; clear H; go_wp2_with (first | ((with_reducible refine gc_ 73 rfl ?_); refine gl_ 52 Tryd.func73 #[.int .i64 x196001_13] ?_; (with_reducible refine (zdv.calls x196001_13 true _ A30.out).mono ?_); rintro e w' ⟨rfl, ⟨nd, rfl⟩⟩; refine ⟨_, rfl, ?_⟩)); (try simp only [← hl0_1]); go_roundg kj13
          case measure => have := HK1.out; have := HJ13.out; omega
          case rel => exact ⟨(x4_1), (x5_13), q6_, H', ⟨by have := HK1.out; have := HJ13.out; omega⟩, ⟨by (try simp only [hl0_1]); (with_reducible repeat (first | apply Kd.zcj | apply Kd.zcx | apply Kd.zdc)); exact Kd.zci HO_0.out (fun _ hk => ⟨hk.1, hk.2.1⟩)⟩, ⟨by (try simp only [hl0_1]); (with_reducible repeat (first | apply Kd.zcj | apply Kd.zcx | apply Kd.zdc)); exact Kd.zci HO_4.out (fun _ hk => ⟨hk.1, hk.2.1⟩)⟩, ⟨q0_⟩⟩
         ·rw [if_neg c32] at H; have c32b0 := bn_ c32; have c32b1 := bn1_ c32
          by_cases c34 : x4_1.length < 4398046511104
          ·rw [if_pos c34] at H; have LMc34 := ak_ c34; clear c34; obtain ⟨y200, hy200⟩ : ∃ y_ : List (S81), y_ = (x4_1 ++ [(⟨t192, x196001_13⟩ : S81)]) := ⟨_, rfl⟩; replace H : (zaz.l0 kj13 t190 y200 x5_13) = some (r1, r2) := by first | (rw [hy200]; with_reducible exact H) | (have H2_ := (Option.bind_some _ _).symm.trans H; rw [hy200]; with_reducible exact H2_) | (have H2_ := (Option.bind_some _ _).symm.trans H; with_reducible exact H2_) | with_reducible exact H | (rw [hy200]; exact H) | exact H
           have Ny200 := ak_ hy200; clear hy200; have H' := ak_ H; clear H
           go_wp2_with (first | ((with_reducible refine gc_ 73 rfl ?_); refine gl_ 52 Tryd.func73 #[.int .i64 x196001_13] ?_; (with_reducible refine (zdv.calls x196001_13 true _ A30.out).mono ?_); rintro e w' ⟨rfl, ⟨nd, rfl⟩⟩; refine ⟨_, rfl, ?_⟩) | ((with_reducible refine zfx (b := .append) (xs := #[.tmp 57, .tmp 59]) rfl ?_); at_builtin; refine Kd.N_append k81 (w0 := w) w.heap.size rfl (.tmp 57) (.tmp 59) 54 81 (.agg #[(.slice none 0 0), (.int .i64 0)]) 32 rfl Tryd.underlying54 info81 rfl (by decide) (by omega) u4 x4_1 (⟨t192, x196001_13⟩ : S81) [.slice Ao16 t192.length co16, .int .i64 x196001_13] (fun k_ => (P0_ k_ ∨ w.heap.size ≤ k_) ∧ some k_ ≠ (.slice (some ad191) t190.length co9 : Value).ownBlock ∧ k_ ≠ gb195) (fun k_ => ((fun k_ => (P0_ k_ ∨ w.heap.size ≤ k_) ∧ some k_ ≠ (.slice (some ad191) t190.length co9 : Value).ownBlock ∧ k_ ≠ gb195)) k_ ∧ some k_ ≠ (u4 : Value).ownBlock) rfl rfl ?aP (fun _ hk => hk) ?aF ?aO ?aB ?aS ?aL ?_; (case aP => exact (k81_mkF _ _ (⟨t192, x196001_13⟩ : S81) (Kd.zfv (Kd.zio (ok' := (fun k_ => ((fun k_ => (P0_ k_ ∨ w.heap.size ≤ k_) ∧ some k_ ≠ (.slice (some ad191) t190.length co9 : Value).ownBlock ∧ k_ ≠ gb195)) k_ ∧ some k_ ≠ (u4 : Value).ownBlock)) (Kd.R_types (Kd.R_apart' (Kd.R_apart' (HO_196000.out) (Kd.N_typed HO_0.out) (by decide)) (Kd.N_typed HO_4.out) (by decide)) BK195.out (by decide)) (fun k_ hk => ⟨⟨(.inr (hk.1.1.1)), ⟨hk.1.1.2, hk.2⟩⟩, hk.1.2⟩))).2.1 (Kd.R_F (Kd.zio (ok' := (fun k_ => ((fun k_ => (P0_ k_ ∨ w.heap.size ≤ k_) ∧ some k_ ≠ (.slice (some ad191) t190.length co9 : Value).ownBlock ∧ k_ ≠ gb195)) k_ ∧ some k_ ≠ (u4 : Value).ownBlock)) (Kd.R_types (Kd.R_apart' (Kd.R_apart' (HO_196000.out) (Kd.N_typed HO_0.out) (by decide)) (Kd.N_typed HO_4.out) (by decide)) BK195.out (by decide)) (fun k_ hk => ⟨⟨(.inr (hk.1.1.1)), ⟨hk.1.1.2, hk.2⟩⟩, hk.1.2⟩))))); (case aB => exact q0_); (case aF => exact (fun k_ hk => ⟨(.inr (Nat.le_trans (zcb q0_) hk)), Kd.fresh' (Kd.N_lt q34_) k_ hk, Kd.zgf (g := gb195) (o := .cells #[.slice Ao16 t192.length co16, .int .i64 x196001_13] 81 (0, 0)) q46_ k_ hk⟩)); (case aO => exact (by (with_reducible repeat (first | apply Kd.zcj | apply Kd.zcx | apply Kd.zdc)); exact Kd.zci HO_4.out (fun _ hk => ⟨hk.1, ⟨hk.2.1, hk.2.2.2⟩⟩))); (case aS => exact (zcb q0_)); (case aL => have := LMc34.out; omega); intro v201 w36 ho hb hg hat; rw [← Ny200.out] at ho; have HO202 := ak_ ho; replace HO_0 := ak_ (Kd.N_afterv (ok := (fun k_ => (P0_ k_ ∨ w.heap.size ≤ k_) ∧ some k_ ≠ (.slice Ao16 t192.length co16 : Value).ownBlock ∧ k_ ≠ gb195)) (by (with_reducible repeat (first | apply Kd.zcj | apply Kd.zcx | apply Kd.zdc)); exact Kd.zci HO_0.out (fun _ hk => ⟨⟨hk.1, ⟨hk.2.2.1, hk.2.2.2⟩⟩, hk.2.1⟩)) hg hat); replace BK195 := ak_ (blk_grown (g := gb195) (o := .cells #[.slice Ao16 t192.length co16, .int .i64 x196001_13] 81 (0, 0)) q46_ hg (Kd.N_away HO_4.out (fun _ hk => hk.2.2.2))); replace HB := ak_ hb; clear HO_4 HO_196000 ho hb hg hat))
           (try simp only [← hl0_1]); go_roundg kj13
           case measure => have := HK1.out; have := HJ13.out; omega
           case rel => exact ⟨(y200), (x5_13), q6_, H', ⟨by have := HK1.out; have := HJ13.out; omega⟩, ⟨by (try simp only [hl0_1]); (with_reducible repeat (first | apply Kd.zcj | apply Kd.zcx | apply Kd.zdc)); exact Kd.zci HO_0.out (fun _ hk => ⟨hk.1.1, hk.2⟩)⟩, ⟨by (try simp only [hl0_1]); (with_reducible repeat (first | apply Kd.zcj | apply Kd.zcx | apply Kd.zdc)); exact Kd.zci HO202.out (fun _ hk => ⟨hk.1, hk.2.1⟩)⟩, ⟨q0_⟩⟩
          ·rw [if_neg c34] at H; exact absurd H (by simp)
        ·replace c31 := Bool.eq_false_iff.mpr c31; subst c31; replace H := ifF_ H; simp only [Option.some.injEq, Prod.mk.injEq] at H; obtain ⟨rfl, rfl⟩ := H; have hfz37_1 := zag BK195.out 1; go_wp2_with (first | ((with_reducible refine gc_ 73 rfl ?_); refine gl_ 52 Tryd.func73 #[.int .i64 x196001_13] ?_; (with_reducible refine (zdv.calls x196001_13 false _ A30.out).mono ?_); rintro e w' ⟨rfl, ⟨nd, rfl⟩⟩; refine ⟨_, rfl, ?_⟩)); go_ret2; exact ⟨_, q5_, q33_, q0_⟩
     ·rw [if_neg c12] at H; exact absurd H (by simp)
    ·rw [if_neg c11] at H; have c11b0 := decide_eq_false c11; clear c11; simp only [Option.some.injEq, Prod.mk.injEq] at H; obtain ⟨rfl, rfl⟩ := H; go_wp2; go_ret2; exact ⟨_, q5_, by (with_reducible repeat (first | apply Kd.zcj | apply Kd.zcx | apply Kd.zdc)); exact Kd.zci HO_4.out (fun _ hk => hk.1), q0_⟩
set_option maxHeartbeats 4000000 in
theorem zch.grow (n : Int) (w : World) (hn0 : 0 ≤ n) (hn : n ≤ 2000000) :
  Calls Tryd.prog 82 #[.slice none 0 0, .int .i64 n] w fun e w' => ∃ v0_ : Value, e = .returned v0_ ∧ Kd.N k81 81 w' w.heap.size (fun k_ => w.heap.size ≤ k_) v0_ [] ∧ Below w.heap.size w w' := by
 have hneg : ¬ n < 0 := by omega
 have hw : IntKind.i64.wrap (n - 0) = n := by rw [IntKind.wrap_i64]; omega
 have hw2 : IntKind.i64.wrap n = n := by rw [IntKind.wrap_i64]; omega
 by_cases hp : (0 : Int) < n
 ·go_enter Tryd.func82, Tryd.ntmps82
  go_wp2_with (refine Kd.N_append_zeros k81 (w0 := w) w.heap.size rfl _ _ 54 3 81 (.agg #[(.slice none 0 0), (.int .i64 0)]) 32 rfl Tryd.underlying54 Tryd.underlying3 info81 rfl (by decide) (by omega) (.slice none 0 0) ([] : List S81) z81 n (fun k_ => w.heap.size ≤ k_) rfl rfl (k81_mkF _ _ z81 (Nat.le_refl _) (Kd.F_nil _ _ _)) (fun k hk => hk) (Kd.zij _ _ _ _ _) hn0 (Below.refl _ _) (Nat.le_refl _) (by simp; omega) ?_)
  intro v1 w1 hN hb hg hat
  obtain ⟨A, c, he⟩ := Kd.zcy hN
  subst he
  go_wp2
  go_ret
  exact ⟨_, rfl, Kd.N_take (m := 0) hN (Nat.zero_le _), hb⟩
 ·have hz : n = 0 := by omega
  subst hz
  go_enter Tryd.func82, Tryd.ntmps82
  go_wp2
  go_ret
  exact ⟨_, rfl, Kd.zij _ _ _ _ _, Below.refl _ _⟩
def zch.f (l0 : List (List S81)) : Option (List S81) := if l0.length ≤ 1000000 ∧ l0.flatten.length ≤ 1000000 then some l0.flatten else none
theorem zch.take_ (l : List (List S81)) (i : Nat) (hi : i < l.length) : (l.take (i + 1)).flatten = (l.take i).flatten ++ l[i] := by
 rw [List.take_succ_eq_append_getElem hi, List.flatten_append]
 simp
theorem zch.le_ (l : List (List S81)) (i : Nat) : (l.take i).flatten.length ≤ l.flatten.length := by
 conv => rhs; rw [← List.take_append_drop i l, List.flatten_append, List.length_append]
 omega
theorem zch.calls (P_ : Nat → Prop) (A : Option Addr) (c : Nat) (l0 : List (List S81)) (r : List S81) (w : World) (hs : Kd.V (Kd.slice 81 k81) 54 w w.heap.size (fun k_ => P_ k_) (.slice A l0.length c) l0) (h : zch.f l0 = some r) :
  Calls Tryd.prog 51 #[.slice A l0.length c] w fun e w' => ∃ v0_ : Value, e = .returned v0_ ∧ Kd.N k81 81 w' w.heap.size (fun k_ => (P_ k_ ∨ w.heap.size ≤ k_)) v0_ r ∧ Below w.heap.size w w' := by
 unfold zch.f at h; split at h
 case isFalse => cases h
 rename_i hl; obtain ⟨hl1, hl2⟩ := hl; injection h with h
 subst h; have hF := Kd.V_F hs; have hlc := (Kd.zbx hs).2.1
 have hget : ∀ (W : World), Below w.heap.size w W → ∀ i : Nat, (hi : i < l0.length) → ∃ ad A1 c1, A = some ad ∧ W.cell? (ad.add i) = some (.slice A1 (l0[i]).length c1) ∧ (l0[i]).length ≤ c1 ∧ Kd.F k81 W (fun k => P_ k ∧ k < w.heap.size) A1 (l0[i]).length (l0[i]) := by
  intro W hb i hi; have hF' : Kd.F (Kd.slice 81 k81) W (fun k => P_ k ∧ k < w.heap.size) A l0.length l0 := Kd.zdn (Kd.zeg hF) hb; obtain ⟨ad, cs, hA, hcl, hK, hcc, _⟩ := Kd.F_get hF' [] (i : Int) (by omega) (by omega); have e : l0.getD (i : Int).toNat [] = l0[i] := by simp [List.getD, hi]
  rw [e] at hK; obtain ⟨A1, c1, hcs, hle, hFi⟩ := Kd.zex hK; subst hcs; have h1 := hcc 0 _ rfl; rw [show (Kd.slice 81 k81).sz = 1 from rfl, Nat.mul_one, Nat.add_zero, show (i : Int).toNat = i by simp] at h1; exact ⟨ad, A1, c1, hA, h1, hle, hFi⟩
 have HG := ak_ hget; clear hget; have hn : l0.length < 9223372036854775808 := by omega
 obtain ⟨S, hS⟩ : ∃ S : Nat → Nat, ∀ i, S i = (l0.take i).flatten.length := ⟨_, fun _ => rfl⟩; have S0 : S 0 = 0 := by rw [hS]; rfl
 have S1 : ∀ i (hi : i < l0.length), S (i + 1) = S i + (l0[i]).length := fun i hi => by rw [hS, hS, zch.take_ l0 i hi, List.length_append]
 have S2 : ∀ i, S i ≤ 1000000 := fun i => by rw [hS]; exact Nat.le_trans (zch.le_ l0 i) hl2
 have HS := ak_ hS; have HS0 := ak_ S0; have HS1 := ak_ S1; have HS2 := ak_ S2; clear hs hF hS S0 S1 S2; go_enter Tryd.func51, Tryd.ntmps51; go_wp2; go_loopg [3, 11] l0.length (fun kx s3 s11 wr => ∃ i : Nat, s3 = .int .i64 (S i : Nat) ∧ s11 = .int .i64 i ∧ i ≤ l0.length ∧ l0.length - i ≤ kx ∧ w = wr)
 case atStart => exact ⟨0, by rw [HS0.out]; rfl, rfl, Nat.zero_le _, Nat.le_refl _, rfl⟩
 case round =>
  obtain ⟨i, rfl, rfl, hi, hkx, rfl⟩ := hrel
  by_cases hlt : (i : Int) < (l0.length : Int)
  ·have hi' : i < l0.length := by omega
   obtain ⟨ad, A1, c1, rfl, hcell, hle, hFi⟩ := HG.out w (Below.refl _ _) i hi'; have hsum := HS1.out i hi'; have hb1 := HS2.out (i + 1); generalize l0[i] = x at hcell hle hFi hsum; have hi0 : (0 : Int) ≤ (i : Int) := by omega
   have hit : ((i : Int)).toNat = i := by omega
   have hw1 : wrap64 ((S i : Int) + (x.length : Int)) = (S (i + 1) : Nat) := by unfold wrap64; omega
   have hw2 : wrap64 ((i : Int) + 1) = (i : Int) + 1 := by unfold wrap64; omega
   have hnn2 : ¬ ((((S (i + 1) : Nat) : Int)) < 0) := Int.not_lt.mpr (Int.natCast_nonneg _); clear hle hFi hsum hb1; go_wp2; go_roundg (l0.length - (i + 1))
   case measure => omega
   case rel => exact ⟨i + 1, rfl, by simp, by omega, Nat.le_refl _, rfl⟩
  ·have e : i = l0.length := by omega
   subst e; have hgr := zch.grow ((S l0.length : Nat) : Int) w (by omega) (by have := HS2.out l0.length; omega); go_wp2_with (go_at_call 82; refine hgr.mono ?_; rintro e w1 ⟨v0, rfl, hN, hb⟩); have HN := ak_ hN; have HB := ak_ hb; clear hN hb hgr; go_loopg [6, 27] l0.length (fun kx s6 s27 w2 => ∃ i : Nat, s27 = .int .i64 i ∧ i ≤ l0.length ∧ l0.length - i ≤ kx ∧ zab (Kd.N k81 81 w2 w.heap.size (fun k_ => P_ k_ ∨ w.heap.size ≤ k_) s6 ((l0.take i).flatten)) ∧ zab (Below w.heap.size w w2))
   case atStart => exact ⟨0, rfl, Nat.zero_le _, Nat.le_refl _, ⟨Kd.zci HN.out (fun _ h => .inr h)⟩, HB⟩
   case round =>
    clear HN HB; obtain ⟨i, rfl, hi, hkx, HN, HB⟩ := hrel
    by_cases hlt2 : (i : Int) < (l0.length : Int)
    ·have hi' : i < l0.length := by omega
     obtain ⟨ad, A1, c1, rfl, hcell, hle, hFi⟩ := HG.out _ HB.out i hi'; have hsum := zch.take_ l0 i hi'; have hb1 := HS2.out (i + 1); rw [HS.out, hsum, List.length_append] at hb1; generalize l0[i] = x at hcell hle hFi hsum hb1; have hi0 : (0 : Int) ≤ (i : Int) := by omega
     have hit : ((i : Int)).toNat = i := by omega
     have hw2 : wrap64 ((i : Int) + 1) = (i : Int) + 1 := by unfold wrap64; omega
     obtain ⟨T, hT⟩ : ∃ T, T = (l0.take i).flatten := ⟨_, rfl⟩; rw [← hT] at HN hsum hb1; have HF := ak_ hFi; clear hFi; go_wp2_with ((with_reducible refine zfx (b := .append) (xs := #[.tmp 31, .tmp 32]) rfl ?_); at_builtin; refine Kd.zdb k81 (w0 := w) w.heap.size rfl (.tmp 31) (.tmp 32) 54 81 (.agg #[(.slice none 0 0), (.int .i64 0)]) 32 rfl Tryd.underlying54 info81 rfl (by decide) (by omega) _ T x A1 x.length c1 (fun k_ => P_ k_ ∨ w.heap.size ≤ k_) (fun k => P_ k ∧ k < w.heap.size) rfl rfl HN.out HF.out (fun k hk => ⟨.inl hk.1, fun he => Nat.not_le.2 hk.2 (Kd.zel HN.out k he.symm)⟩) (fun k hk => .inr (Nat.le_trans HB.out.size hk)) HB.out HB.out.size (Nat.le_trans (Nat.mul_le_mul_right 32 hb1) (by decide)) ?_; intro v2 w3 hN2 hb2 hg hat; rw [← hsum] at hN2; have HN2 := ak_ hN2; have HB2 := ak_ hb2; clear hN2 hb2 hg hat HN HB HF hsum hb1 hle hT); go_roundg (l0.length - (i + 1))
     case measure => omega
     case rel => exact ⟨i + 1, by simp, by omega, Nat.le_refl _, HN2, HB2⟩
    ·have e2 : i = l0.length := by omega
     subst e2; go_wp2; go_ret; refine ⟨_, rfl, ?_, HB.out⟩; have := HN.out; rw [List.take_length] at this; exact this
def zdu.f (k : Nat) (l0 : List (S81)) : Option (Bool) := (zbf.f k l0).bind fun t203 => (some (!t203))
theorem zdu.mono : ∀ a0 k, LeO (zdu.f k a0) (zdu.f (k + 1) a0) := by
 intro a0 k
 unfold zdu.f
 with_reducible repeat' first
   | apply zbf.mono
   | apply LeO.refl
   | apply LeO.none
   | refine LeO.ite ?_ ?_
   | refine LeO.bind ?_ (fun _ => ?_)
theorem zdu.calls (k : Nat) (A0 : Option Addr) (c0 : Nat) (l0 : List (S81)) (r : Bool) (w : World) (hr0 : Kd.C k81 w A0 l0.length l0) (hc0 : l0.length ≤ c0) (h : zdu.f k l0 = some r) (hG : Glob w) :
  Calls Tryd.prog 48 #[.slice A0 l0.length c0] w fun e w' => e = .returned (.bool r) ∧ Below w.heap.size w w' := by
 have HG := ak_ hG; clear hG; have HR0 := ak_ hr0; have HC0 := ak_ hc0; clear hr0 hc0; have HB := ak_ (Below.refl w.heap.size w); have H : ((zbf.f k l0).bind fun t203 => (some (!t203))) = some r := h; clear h; obtain ⟨t203, A2, H⟩ := bi_ H; replace H : (some (!t203)) = some r := H; obtain rfl := Option.some.inj H; go_enter Tryd.func48, Tryd.ntmps48; go_wp2_with (first | ((with_reducible refine gc_ 49 rfl ?_); refine gl_ 4 Tryd.func49 #[.slice A0 l0.length c0] ?_; (with_reducible refine ca_ (zbf.calls k _ _ l0 t203 _ ?side1 HC0.out A2.out q7_) ?_); (case side1 => exact cx_ HR0.out); intro w3 hb; replace HB := bs_ hb; clear hb)); go_ret; exact ⟨q5_, q0_⟩
def zap.l0 : Nat → List (List (S81)) → Int → Int → Option (Int)
 | 0, _, _, _ => none
 | k + 1, x0, x7, x8 => if x8 < x7 then (if 0 ≤ x8 then (if x8 < (x0.length : Int) then ((zdu.f k (rd_L5 x0 x8)).bind fun t205 => (if t205 = true then (some x8) else (zap.l0 k x0 x7 (wrap64 (x8 + 1))))) else (none)) else (none)) else (some (-1))
def zap.f (k : Nat) (l0 : List (List (S81)))  : Option (Int) := zap.l0 k l0 (l0.length : Int) 0
theorem zap.zby : ∀ k, (∀ y0 y1 y2, LeO (zap.l0 k y0 y1 y2) (zap.l0 (k + 1) y0 y1 y2))
 | 0 => fun _ _ _ r h => by simp [zap.l0] at h
 | k + 1 => by
  have ih0 := zap.zby k
  ·intro y0 y1 y2
   unfold zap.l0
   with_reducible repeat' first
   | apply ih0
   | apply zdu.mono
   | apply LeO.refl
   | apply LeO.none
   | refine LeO.ite ?_ ?_
   | refine LeO.bind ?_ (fun _ => ?_)
theorem zap.mono : ∀ a0 k, LeO (zap.f k a0) (zap.f (k + 1) a0) := by
 intro a0 k
 have ih0 := zap.zby k
 unfold zap.f
 with_reducible repeat' first
   | apply ih0
   | apply zdu.mono
   | apply LeO.refl
   | apply LeO.none
   | refine LeO.ite ?_ ?_
   | refine LeO.bind ?_ (fun _ => ?_)
theorem zap.calls (k : Nat) (A0 : Option Addr) (c0 : Nat) (l0 : List (List (S81)))  (r : Int) (w : World) (hr0 : Kd.C (Kd.slice 81 k81) w A0 l0.length l0) (hc0 : l0.length ≤ c0) (h : zap.f k l0 = some r) (hG : Glob w) :
  Calls Tryd.prog 72 #[.slice A0 l0.length c0, (.func (.func 48) #[] #[])] w fun e w' => e = .returned (.int .i64 r) ∧ Below w.heap.size w w' := by
 have HG := ak_ hG; clear hG; have HR0 := ak_ hr0; have HC0 := ak_ hc0; clear hr0 hc0; have HB := ak_ (Below.refl w.heap.size w); have H : (zap.l0 k l0 (l0.length : Int) 0) = some r := h; clear h; have H' := ak_ H; clear H; go_enter Tryd.func72, Tryd.ntmps72; go_wp2; go_loopg [8] k (fun kq v8 w' => ∃ (x8_1 : Int), v8 = .int .i64 x8_1 ∧ zab (zap.l0 kq l0 (l0.length : Int) x8_1 = some r) ∧ zab (kq ≤ k) ∧ zab (Below w.heap.size w w'))
 case atStart => exact ⟨(0), q6_, H', ⟨Nat.le_refl _⟩, ⟨q0_⟩⟩
 case round =>
  clear H'; obtain ⟨x8_1, rfl, HA, HK1, HB⟩ := hrel
  cases gk with
  | zero => exact absurd HA.out (by simp [zap.l0])
  | succ k1 =>
   have H := HA.out; clear HA; simp only [zap.l0] at H
   by_cases c3 : x8_1 < (l0.length : Int)
   ·rw [if_pos c3] at H; have c3b0 := decide_eq_true c3; clear c3
    by_cases c4 : 0 ≤ x8_1
    ·rw [if_pos c4] at H; have c4b0 := decide_eq_true c4; clear c4
     by_cases c5 : x8_1 < (l0.length : Int)
     ·rw [if_pos c5] at H; have c5b0 := decide_eq_true c5; clear c5; obtain ⟨t205, A6, H⟩ := bi_ H; try dsimp only at H
      have p204 : 0 ≤ (x8_1 : Int) := of_decide_eq_true q4_; have q204 : x8_1 < (l0.length : Int) := of_decide_eq_true q4_; obtain ⟨ad204, A204_0, c204_0, e204, hx204_0, hl204_0, hi204_0⟩ := at_L5 HR0.out x8_1 p204 q204; cases e204; replace hx204_0 := hc_ HB.out hx204_0; have HR204_0 := ak_ hi204_0; have HC204_0 := ak_ hl204_0; clear hi204_0 hl204_0; replace p204 := eq_true p204; replace q204 := eq_true q204
      by_cases c7 : t205 = true
      ·subst c7; replace H := ifT_ H; obtain rfl := Option.some.inj H; go_wp2_with (first | ((with_reducible refine zcg (t := 11) rfl ?_); refine zez (some 16) rfl rfl Tryd.func48 (by kernel_rfl) rfl #[.slice A204_0 (rd_L5 l0 x8_1).length c204_0] rfl (by rfl) q2_ ?_; (with_reducible refine ca_ (zdu.calls k1 _ _ (rd_L5 l0 x8_1) true _ ?side1 HC204_0.out A6.out q7_) ?_); (case side1 => exact cx_ (Kd.zcc HR204_0.out HB.out)); intro w8 hb; replace HB := bs_ hb; clear hb)); go_ret; exact ⟨q5_, q0_⟩
      ·replace c7 := Bool.eq_false_iff.mpr c7; subst c7; replace H := ifF_ H; have H' := ak_ H; clear H; go_wp2_with (first | ((with_reducible refine zcg (t := 11) rfl ?_); refine zez (some 16) rfl rfl Tryd.func48 (by kernel_rfl) rfl #[.slice A204_0 (rd_L5 l0 x8_1).length c204_0] rfl (by rfl) q2_ ?_; (with_reducible refine ca_ (zdu.calls k1 _ _ (rd_L5 l0 x8_1) false _ ?side1 HC204_0.out A6.out q7_) ?_); (case side1 => exact cx_ (Kd.zcc HR204_0.out HB.out)); intro w9 hb; replace HB := bs_ hb; clear hb)); go_roundg k1
       case measure => have := HK1.out; omega
       case rel => exact ⟨(wrap64 (x8_1 + 1)), q6_, H', ⟨kq_⟩, ⟨q0_⟩⟩
     ·rw [if_neg c5] at H; exact absurd H (by simp)
    ·rw [if_neg c4] at H; exact absurd H (by simp)
   ·rw [if_neg c3] at H; have c3b0 := decide_eq_false c3; clear c3; obtain rfl := Option.some.inj H; go_wp2; go_ret; exact ⟨q5_, q0_⟩

end Go.Proofs.YtchpbnabbjdfgaaDoor.P
