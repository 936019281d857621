-- HALVED
import Derived.Test.YtnggdcdiachkpaaDoorPx0
import Derived.Test.YtnggdcdiachkpaaDoorPx21
import Derived.Test.YtnggdcdiachkpaaDoorPx79
namespace Go.Proofs.YtnggdcdiachkpaaDoor.P
open Go.RowKit Go.Proofs.YtnggdcdiachkpaaDoorW.PrintWords Go.Proofs.YtnggdcdiachkpaaDoorW.PrintLast Go.Proofs.YtnggdcdiachkpaaDoorW.PrintMore
attribute [local go_sem] zdl zeh zee zed zdc zdb zdn zdk   -- for this text's walks alone
set_option linter.unusedVariables false
set_option linter.unusedSimpArgs false
set_option maxHeartbeats 8000000
set_option maxRecDepth 100000

abbrev b134_3 := sb_ (bz 11 2) 4
abbrev b134_4 := sb_ b134_3 2
abbrev b134_5 := sb_ b134_4 5
abbrev b134_6 := sb_ b134_5 6
def zcz.l0 : Nat → List (S54) → List (S54) → Int → Int → Option ((List (S54)) × Int)
 | 0, _, _, _, _ => none
 | k + 1, x4, x10, x11, x12 => if x12 < x11 then (if 0 ≤ x12 then (if x12 < (x10.length : Int) then ((zet.f ((zah x10 x12).f0)).bind fun t845 => (if x4.length < 4398046511104 then (zcz.l0 k (x4 ++ [(⟨t845, wrap64 (-((zah x10 x12).f1))⟩ : S54)]) x10 x11 (wrap64 (x12 + 1))) else (none))) else (none)) else (none)) else (some (x4, 0))
def zcz.f (k : Nat) (l0 : List (S54)) : Option ((List (S54)) × Int) := (zbd.f k l0).bind fun t842 => (if t842 = true then (zcz.l0 k ([] : List (S54)) l0 (l0.length : Int) 0) else (some (([] : List (S54)), 1)))
theorem zcz.zci : ∀ k, (∀ y0 y1 y2 y3, LeO (zcz.l0 k y0 y1 y2 y3) (zcz.l0 (k + 1) y0 y1 y2 y3))
 | 0 => fun _ _ _ _ r h => by simp [zcz.l0] at h
 | k + 1 => by
  have ih0 := zcz.zci k
  ·intro y0 y1 y2 y3
   unfold zcz.l0
   with_reducible repeat' first
   | apply ih0
   | apply zbd.mono
   | apply LeO.refl
   | apply LeO.none
   | refine LeO.ite ?_ ?_
   | refine LeO.bind ?_ (fun _ => ?_)
theorem zcz.mono : ∀ a0 k, LeO (zcz.f k a0) (zcz.f (k + 1) a0) := by
 intro a0 k
 have ih0 := zcz.zci k
 unfold zcz.f
 with_reducible repeat' first
   | apply ih0
   | apply zbd.mono
   | apply LeO.refl
   | apply LeO.none
   | refine LeO.ite ?_ ?_
   | refine LeO.bind ?_ (fun _ => ?_)
def zcz.T7 : Bool × List (List Nat × List Nat) := (true, [([], []), ([], []), ([1], [1]), ([2], [2]), ([], []), ([4], [4]), ([5], [5]), ([3, 6], [3, 6]), ([7], [7]), ([0, 8, 3], [0, 8]), ([9, 9, 0, 1, 2, 3, 4, 5, 6, 7, 8, 9], [0, 9])])
def zcz.B7 : List Nat := [0, 0, 2, 6, 0, 16, 48, 126, 254, 511, 1023]
theorem zcz.tab7 : rtab .any (opsOf Tryd.f18 7) = zcz.T7 := by kernel_rfl
theorem zcz.bits7 : zfc zcz.T7.2 zcz.B7 = true := by kernel_rfl
theorem zcz.calls (k : Nat) (A0 : Option Addr) (c0 : Nat) (l0 : List (S54)) (r1 : List (S54)) (r2 : Int) (w : World) (hr0 : Kd.C k54 w A0 l0.length l0) (hc0 : l0.length ≤ c0) (h : zcz.f k l0 = some (r1, r2)) (hG : Glob w) :
  Calls Tryd.prog 18 #[.slice A0 l0.length c0] w fun e w' => ∃ v0_ : Value, e = .returned (.tuple #[v0_, .int .i64 r2]) ∧ Kd.S k54 54 w' w.heap.size (fun _ => True) v0_ r1 ∧ Below w.heap.size w w' := by
 have hu54 := Tryd.underlying54; have HG := ak_ hG; clear hG; have HR0 := ak_ hr0; have HC0 := ak_ hc0; clear hr0 hc0; have HB := ak_ (Below.refl w.heap.size w); have H : ((zbd.f k l0).bind fun t842 => (if t842 = true then (zcz.l0 k ([] : List (S54)) l0 (l0.length : Int) 0) else (some (([] : List (S54)), 1)))) = some (r1, r2) := h; clear h; obtain ⟨t842, A2, H⟩ := bi_ H; try dsimp only at H
 go_enter Tryd.func18, Tryd.ntmps18
 by_cases c3 : t842 = true
 ·subst c3; replace H := ifT_ H; have H' := ak_ H; clear H; go_wp2_with (first | ((with_reducible refine gc_ 17 rfl ?_); refine gl_ 8 Tryd.func17 #[.slice A0 l0.length c0] ?_; (with_reducible refine ca_ (zbd.calls k _ _ l0 true _ ?side1 HC0.out A2.out q11_) ?_); (case side1 => exact cx_ HR0.out); intro w4 hb; replace HB := bs_ hb; clear hb)); go_loopg [4, 12] k (fun kq v4 v12 w' => ∃ (x4_1 : List (S54)) (x12_1 : Int), v12 = .int .i64 x12_1 ∧ zag (zcz.l0 kq x4_1 l0 (l0.length : Int) x12_1 = some (r1, r2)) ∧ zag (kq ≤ k) ∧ zag (Kd.S k54 54 w' w.heap.size (fun _ => True) v4 x4_1) ∧ zag (Below w.heap.size w w'))
  case atStart => exact ⟨(([] : List (S54))), (0), q6_, H', ⟨Nat.le_refl _⟩, ⟨q28_⟩, ⟨q0_⟩⟩
  case round =>
   clear H'; (try clear c3); obtain ⟨x4_1, x12_1, rfl, HA, HK1, HO_4, HB⟩ := hrel
   cases gk with
   | zero => exact absurd HA.out (by simp [zcz.l0])
   | succ k1 =>
    have H := HA.out; clear HA; simp only [zcz.l0] at H
    by_cases c5 : x12_1 < (l0.length : Int)
    ·rw [if_pos c5] at H; have c5b0 := decide_eq_true c5; clear c5
     by_cases c6 : 0 ≤ x12_1
     ·rw [if_pos c6] at H; have c6b0 := decide_eq_true c6; clear c6
      by_cases c7 : x12_1 < (l0.length : Int)
      ·rw [if_pos c7] at H; have c7b0 := decide_eq_true c7; clear c7; obtain ⟨t845, A8, H⟩ := bi_ H; try dsimp only at H
       by_cases c9 : x4_1.length < 4398046511104
       ·rw [if_pos c9] at H; have LMc9 := ak_ c9; clear c9; obtain ⟨y848, hy848⟩ : ∃ y_ : List (S54), y_ = (x4_1 ++ [(⟨t845, wrap64 (-((zah l0 x12_1).f1))⟩ : S54)]) := ⟨_, rfl⟩; replace H : (zcz.l0 k1 y848 l0 (l0.length : Int) (wrap64 (x12_1 + 1))) = some (r1, r2) := by first | (rw [hy848]; with_reducible exact H) | (have H2_ := (Option.bind_some _ _).symm.trans H; rw [hy848]; with_reducible exact H2_) | (have H2_ := (Option.bind_some _ _).symm.trans H; with_reducible exact H2_) | with_reducible exact H | (rw [hy848]; exact H) | exact H
        have Ny848 := ak_ hy848; clear hy848; have H' := ak_ H; clear H; have p843 : 0 ≤ (x12_1 : Int) := of_decide_eq_true q5_; have q843 : x12_1 < (l0.length : Int) := of_decide_eq_true q5_; obtain ⟨ad843, A843_0, c843_0, e843, hx843_0, hx843_1, hl843_0, hi843_0⟩ := zfw HR0.out x12_1 p843 q843; cases e843; replace hx843_0 := hc_ HB.out hx843_0; replace hx843_1 := hc_ HB.out hx843_1; have HR843_0 := ak_ hi843_0; have HC843_0 := ak_ hl843_0; clear hi843_0 hl843_0; replace p843 := eq_true p843; replace q843 := eq_true q843; try go_wp2_with (first | ((with_reducible refine gd_ 6 rfl ?_); refine by_ #[.slice none 0 0, .int .i64 0] 54 ?_; intro gb844 hg w10 BK844 hb; have GE844 := gw_ hg; replace HO_4 := ak_ (Kd.S_below (Kd.S_elderB (by (with_reducible repeat (first | apply Kd.S_alloc | apply Kd.S_drewN | apply Kd.S_drew)); exact HO_4.out) gb844 (Nat.le_of_eq hg.symm)) hb); replace HB := bs_ hb; clear hb hg; have hz11 := bc2_ (w := w10) BK844.out))
        have n0_ : zag (Kd.S k54 54 ((w10.setCell ⟨gb844, 0, none⟩ (.slice A843_0 ((zah l0 x12_1).f0).length c843_0)).setCell ⟨gb844, 1, none⟩ (.int .i64 ((zah l0 x12_1).f1))) w.heap.size (fun k_ => k_ ≠ gb844) u4 x4_1) := ⟨by (with_reducible repeat (first | apply Kd.S_alloc | apply Kd.S_drewN | apply Kd.S_drew)); exact Kd.S_mono (Kd.S_far (p := ⟨gb844, 1, none⟩) (Kd.S_far (p := ⟨gb844, 0, none⟩) (Kd.S_mono HO_4.out (fun k_ hk => (⟨hk, hk.2⟩ : _ ∧ k_ ≠ gb844))) (fun _ hk => hk.2) (.slice A843_0 ((zah l0 x12_1).f0).length c843_0)) (fun _ hk => hk.2) (.int .i64 ((zah l0 x12_1).f1))) (fun _ hk => hk.1.2)⟩; have n1_ : zag (((w10.setCell ⟨gb844, 0, none⟩ (.slice A843_0 ((zah l0 x12_1).f0).length c843_0)).setCell ⟨gb844, 1, none⟩ (.int .i64 ((zah l0 x12_1).f1))).heap[gb844]? = some (.cells #[.slice A843_0 ((zah l0 x12_1).f0).length c843_0, .int .i64 ((zah l0 x12_1).f1)] 54 (0, 0))) := ⟨by (with_reducible repeat first | apply bN_ | apply bD_ | apply bA_); refine zcm (cs := #[.slice A843_0 ((zah l0 x12_1).f0).length c843_0, .int .i64 0]) ?_ 1 _ rfl; (with_reducible repeat first | apply bN_ | apply bD_ | apply bA_); refine zcm (cs := #[.slice none 0 0, .int .i64 0]) ?_ 0 _ rfl; (with_reducible repeat first | apply bN_ | apply bD_ | apply bA_); exact BK844.out⟩; have n2_ : zag (Below w.heap.size w ((w10.setCell ⟨gb844, 0, none⟩ (.slice A843_0 ((zah l0 x12_1).f0).length c843_0)).setCell ⟨gb844, 1, none⟩ (.int .i64 ((zah l0 x12_1).f1)))) := ⟨q0_⟩; (try clear HO_4 BK844 HB); generalize ((w10.setCell ⟨gb844, 0, none⟩ (.slice A843_0 ((zah l0 x12_1).f0).length c843_0)).setCell ⟨gb844, 1, none⟩ (.int .i64 ((zah l0 x12_1).f1))) = w12 at n0_ n1_ n2_ ⊢; have HO_4 := n0_; have BK844 := n1_; have HB := n2_; clear n0_ n1_ n2_; replace HO_4 := ak_ (Kd.S_drew HO_4.out); replace BK844 := dB_ BK844; replace HB := ak_ (zbh HB.out); refine zep (n := 11) (S := fun w' => w'.cell? ⟨gb844, 0, none⟩ = some (.slice A843_0 ((zah l0 x12_1).f0).length c843_0) ∧ w'.cell? ⟨gb844, 1, none⟩ = some (.int .i64 ((zah l0 x12_1).f1))) (ds := []) (bz 11 0) (by kernel_rfl) rfl rfl (bs2_ BK844.out) (fun hHeld => ?_); refine zcv zcz.tab7 zcz.bits7 (fun HT_ HW_ => ?_); generalize w12.drew = w13 at HO_4 BK844 HB hHeld ⊢; refine pz_ 0 16 (bz 11 1) ?_; refine pz_ 1 17 (bz 11 2) ?_; refine pz_ 4 20 b134_3 ?_; refine tz2_ 2 18 b134_4 hHeld ?_; refine tz2_ 5 21 b134_5 hHeld ?_; refine pz_ 6 22 b134_6 ?_; refine oz_ 3 (some 19) (bz 11 7) (fun K hK => ?_); refine go1_ Tryd.func40 #[.slice A843_0 ((zah l0 x12_1).f0).length c843_0] ?_; (with_reducible refine (zet.calls _ _ ((zah l0 x12_1).f0) t845 _ ?side1 ?side2 A8.out).mono ?_); (case side1 => exact cx_ (Kd.zam HR843_0.out HB.out)); (case side2 => exact HC843_0.out); rintro e w14 ⟨v846, rfl, ho0, hb⟩; refine ⟨_, rfl, ?_⟩; have HO847 := ak_ (Kd.zjh ho0 (zai q0_))
        replace HO_4 := ak_ (Kd.S_elder' (by (with_reducible repeat (first | apply Kd.S_alloc | apply Kd.S_drewN | apply Kd.S_drew)); exact HO_4.out) (Kd.zhm ho0) hb); replace BK844 := ak_ (zdj (g := gb844) (o := .cells #[.slice A843_0 ((zah l0 x12_1).f0).length c843_0, .int .i64 ((zah l0 x12_1).f1)] 54 (0, 0)) (by (with_reducible repeat first | apply bN_ | apply bD_ | apply bA_); exact BK844.out) hb); replace HB := bs_ hb; clear hb; (try clear ho0); obtain ⟨Ao15, co15, eo15⟩ := Kd.zhr HO847.out; (first | subst eo15 | (injection eo15 with f1_ f2_ f3_; have f4_ := f1_.symm; have f5_ := f3_.symm; clear f1_ f2_ f3_; subst f4_; subst f5_)); refine hK.out _ _ (bs2_ BK844.out) (fun hHeld => ?_); clear hK K; refine nz_ ?_; refine pz_ 7 23 (bz 11 8) ?_; refine oz_ 8 (some 24) (bz 11 9) (fun K hK => ?_); refine value_ (w1 := ?_) (v := ?_) (by rfl) rfl ?_ ?_; rotate_left 2
        ·go_simp; constructor
         ·rfl
         ·rfl
        refine hK.out _ _ ⟨(zco (zig BK844.out _) 0).trans rfl, (zco (zig BK844.out _) 1).trans rfl⟩ (fun hHeld => ?_); clear hK K; refine nz_ ?_; refine oz_ 9 (some 25) (bz 11 10) (fun K hK => ?_); refine Kd.S_append_step k54 (w0 := w) w.heap.size (by rfl) (.tmp 16) (.tmp 24) 28 54 (.agg #[(.slice none 0 0), (.int .i64 0)]) 32 rfl Tryd.underlying28 info54 rfl (by decide) (by omega) u4 x4_1 (⟨t845, wrap64 (-((zah l0 x12_1).f1))⟩ : S54) [.slice Ao15 t845.length co15, .int .i64 (wrap64 (-((zah l0 x12_1).f1)))] (fun k_ => k_ ≠ gb844) (fun k_ => some k_ = (.slice Ao15 t845.length co15 : Value).ownBlock) rfl rfl ?aP (fun k_ hk_ => ((Kd.zds (ok' := fun k_ => ((fun k_ => k_ ≠ gb844)) k_ ∧ some k_ ≠ (u4 : Value).ownBlock) (Kd.zer (Kd.zem (HO847.out) (Kd.S_typed HO_4.out) (by decide)) BK844.out (by decide)) (fun k_ hk => ⟨hk.2, hk.1.2⟩))).1 k_ hk_.symm) ?aF ?aO ?aB ?aS ?aL ?_; (case aP => exact k54_mkM _ _ _ (⟨t845, wrap64 (-((zah l0 x12_1).f1))⟩ : S54) (Kd.zds (Kd.R_tight rfl (Kd.zds (ok' := fun k_ => ((fun k_ => k_ ≠ gb844)) k_ ∧ some k_ ≠ (u4 : Value).ownBlock) (Kd.zer (Kd.zem (HO847.out) (Kd.S_typed HO_4.out) (by decide)) BK844.out (by decide)) (fun k_ hk => ⟨hk.2, hk.1.2⟩))) (fun _ h_ => h_))); (case aB => exact q0_); (case aF => exact (fun k_ hk => Kd.zce (g := gb844) (o := .cells #[.slice A843_0 ((zah l0 x12_1).f0).length c843_0, .int .i64 ((zah l0 x12_1).f1)] 54 (0, 0)) (by (with_reducible repeat first | apply bN_ | apply bD_ | apply bA_); exact BK844.out) k_ hk)); (case aO => exact (by (with_reducible repeat (first | apply Kd.S_alloc | apply Kd.S_drewN | apply Kd.S_drew)); exact Kd.S_mono HO_4.out (fun k_ hk => ⟨hk.1, fun e_ => hk.2 e_⟩))); (case aS => exact (zai q0_)); (case aL => have := LMc9.out; omega); intro v849 w16 ho hb hg hat; rw [← Ny848.out] at ho; have HO850 := ak_ ho; replace BK844 := ak_ (zde (g := gb844) (o := .cells #[.slice A843_0 ((zah l0 x12_1).f0).length c843_0, .int .i64 ((zah l0 x12_1).f1)] 54 (0, 0)) (by (with_reducible repeat first | apply bN_ | apply bD_ | apply bA_); exact BK844.out) hg (Kd.S_away HO_4.out (fun _ hk => hk.1))); replace HB := ak_ hb; clear HO_4 HO847 ho hb hg hat; refine hK.out _ _ (bs2_ BK844.out) (fun hHeld => ?_); clear hK K; refine nz_ ?_; refine pz_ 10 4 (bz 11 11) ?_; refine zfk (zdh HT_.out (by kernel_rfl)) ?_; try go_wp2
        go_roundg k1
        case measure => have := HK1.out; omega
        case rel => exact ⟨(y848), (wrap64 (x12_1 + 1)), q6_, H', ⟨kq_⟩, ⟨by (with_reducible repeat (first | apply Kd.S_alloc | apply Kd.S_drewN | apply Kd.S_drew)); exact Kd.S_mono HO850.out (fun _ hk => trivial)⟩, ⟨q0_⟩⟩
       ·rw [if_neg c9] at H; exact absurd H (by simp)
      ·rw [if_neg c7] at H; exact absurd H (by simp)
     ·rw [if_neg c6] at H; exact absurd H (by simp)
    ·rw [if_neg c5] at H; have c5b0 := decide_eq_false c5; clear c5; simp only [Option.some.injEq, Prod.mk.injEq] at H; obtain ⟨rfl, rfl⟩ := H; go_wp2; go_ret2; exact ⟨_, q3_, by (with_reducible repeat (first | apply Kd.S_alloc | apply Kd.S_drewN | apply Kd.S_drew)); exact HO_4.out, q0_⟩
 ·replace c3 := Bool.eq_false_iff.mpr c3; subst c3; replace H := ifF_ H; simp only [Option.some.injEq, Prod.mk.injEq] at H; obtain ⟨rfl, rfl⟩ := H; go_wp2_with (first | ((with_reducible refine gc_ 17 rfl ?_); refine gl_ 8 Tryd.func17 #[.slice A0 l0.length c0] ?_; (with_reducible refine ca_ (zbd.calls k _ _ l0 false _ ?side1 HC0.out A2.out q11_) ?_); (case side1 => exact cx_ HR0.out); intro w17 hb; replace HB := bs_ hb; clear hb)); go_ret2; exact ⟨_, q3_, q28_, q0_⟩

end Go.Proofs.YtnggdcdiachkpaaDoor.P
