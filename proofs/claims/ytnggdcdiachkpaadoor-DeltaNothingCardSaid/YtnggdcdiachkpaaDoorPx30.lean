-- HALVED
import Derived.Test.YtnggdcdiachkpaaDoorPx0
import Derived.Test.YtnggdcdiachkpaaDoorPx4
namespace Go.Proofs.YtnggdcdiachkpaaDoor.P
open Go.RowKit Go.Proofs.YtnggdcdiachkpaaDoorW.PrintWords Go.Proofs.YtnggdcdiachkpaaDoorW.PrintLast Go.Proofs.YtnggdcdiachkpaaDoorW.PrintMore
attribute [local go_sem] zdl zeh zee zed zdc zdb zdn zdk   -- for this text's walks alone
set_option linter.unusedVariables false
set_option linter.unusedSimpArgs false
set_option maxHeartbeats 8000000
set_option maxRecDepth 100000

abbrev b30_3 := sb_ (bz 11 2) 3
def zdm.f (k : Nat) (a0_0 : Int) (a0_1 : Int) (a0_2 : ByteArray) (l0_3 : List (S48)) (a0_4 : Int) (a1_0 : Int) (a1_1 : Int) (a1_2 : ByteArray) (l1_3 : List (S48)) (a1_4 : Int) : Option (Int) := (zbw.f k a0_0 a0_1 a0_2 a1_0 a1_1 a1_2).bind fun t142 => (some t142)
theorem zdm.mono : ∀ a0 a1 a2 a3 a4 a5 a6 a7 a8 a9 k, LeO (zdm.f k a0 a1 a2 a3 a4 a5 a6 a7 a8 a9) (zdm.f (k + 1) a0 a1 a2 a3 a4 a5 a6 a7 a8 a9) := by
 intro a0 a1 a2 a3 a4 a5 a6 a7 a8 a9 k
 unfold zdm.f
 with_reducible repeat' first
   | apply zbw.mono
   | apply LeO.refl
   | apply LeO.none
   | refine LeO.ite ?_ ?_
   | refine LeO.bind ?_ (fun _ => ?_)
theorem zdm.calls (k : Nat) (a0_0 : Int) (a0_1 : Int) (a0_2 : ByteArray) (A0_3 : Option Addr) (c0_3 : Nat) (l0_3 : List (S48)) (a0_4 : Int) (a1_0 : Int) (a1_1 : Int) (a1_2 : ByteArray) (A1_3 : Option Addr) (c1_3 : Nat) (l1_3 : List (S48)) (a1_4 : Int) (r : Int) (w : World) (hr0_3 : Kd.C k48 w A0_3 l0_3.length l0_3) (hc0_3 : l0_3.length ≤ c0_3) (hr1_3 : Kd.C k48 w A1_3 l1_3.length l1_3) (hc1_3 : l1_3.length ≤ c1_3) (h : zdm.f k a0_0 a0_1 a0_2 l0_3 a0_4 a1_0 a1_1 a1_2 l1_3 a1_4 = some r) :
  Calls Tryd.prog 74 #[.agg #[.int .i64 a0_0, .int .i64 a0_1, .string a0_2, .slice A0_3 l0_3.length c0_3, .int .i64 a0_4], .agg #[.int .i64 a1_0, .int .i64 a1_1, .string a1_2, .slice A1_3 l1_3.length c1_3, .int .i64 a1_4]] w fun e w' => e = .returned (.int .i64 r) ∧ Below w.heap.size w w' := by
 have hu80 := Tryd.underlying80; have hu48 := Tryd.underlying48; have HR0_3 := ak_ hr0_3; have HC0_3 := ak_ hc0_3; clear hr0_3 hc0_3; have HR1_3 := ak_ hr1_3; have HC1_3 := ak_ hc1_3; clear hr1_3 hc1_3; have HB := ak_ (Below.refl w.heap.size w); have H : ((zbw.f k a0_0 a0_1 a0_2 a1_0 a1_1 a1_2).bind fun t142 => (some t142)) = some r := h; clear h; obtain ⟨t142, A3, H⟩ := bi_ H; replace H : (some t142) = some r := H; obtain rfl := Option.some.inj H; go_enter Tryd.func74, Tryd.ntmps74; go_wp2_with (first | ((with_reducible refine gd_ 2 rfl ?_); refine by_ #[.int .i64 a0_0, .int .i64 a0_1, .string a0_2, .slice A0_3 l0_3.length c0_3, .int .i64 a0_4] 80 ?_; intro gb140 hg w4 BK140 hb; have GE140 := gw_ hg; replace HB := bs_ hb; clear hb hg) | ((with_reducible refine gd_ 3 rfl ?_); refine by_ #[.int .i64 a1_0, .int .i64 a1_1, .string a1_2, .slice A1_3 l1_3.length c1_3, .int .i64 a1_4] 80 ?_; intro gb141 hg w5 BK141 hb; have GE141 := gw_ hg; have NB140_141 := nl_ hg q206_; have NB141_140 := ne_ NB140_141; replace BK140 := bb_ q206_ hb; replace HB := bs_ hb; clear hb hg; have hn6 := np_ NB140_141; have hz7 := bc5_ (w := w5) BK140.out; have hz8 := bc5_ (w := w5) BK141.out) | ((with_reducible refine gc_ 46 rfl ?_); refine gl_ 9 Tryd.func46 #[.agg #[.int .i64 a0_0, .int .i64 a0_1, .string a0_2], .agg #[.int .i64 a1_0, .int .i64 a1_1, .string a1_2]] ?_; (with_reducible refine ca_ (zbw.calls k a0_0 a0_1 a0_2 a1_0 a1_1 a1_2 t142 _ A3.out) ?_); intro w9 hb; replace BK140 := bb_ q206_ hb; replace BK141 := ak_ (zdj (g := gb141) (o := .cells #[.int .i64 a1_0, .int .i64 a1_1, .string a1_2, .slice A1_3 l1_3.length c1_3, .int .i64 a1_4] 80 (0, 0)) (by (with_reducible repeat first | apply bN_ | apply bD_ | apply bA_); exact BK141.out) hb); replace HB := bs_ hb; clear hb)); go_ret; exact ⟨q3_, q0_⟩
def sw_i (a b : Int) : Int := if a < b then -1 else if a > b then 1 else 0
def sw_b (a b : ByteArray) : Int := if Op.bytesLess a.toList b.toList = true then -1 else if Op.bytesLess b.toList a.toList = true then 1 else 0
def sw_o (a b c : Int) : Int := if a = 0 then (if b = 0 then c else b) else a
def sw_v (a b : S48) : Int := sw_o (sw_i a.f0 b.f0) (sw_i a.f1 b.f1) (sw_b a.f2 b.f2)
def sw_lt (x y : S80) : Bool := decide (sw_v x.f0 y.f0 < 0)
instance sw_inh : Inhabited S80 := ⟨z80⟩
def sw_ok (k : Nat) (l : List S80) : Prop := l.length ≤ 1000000 ∧ ∀ x ∈ z80 :: l, ∀ y ∈ z80 :: l, zdm.f k x.f0.f0 x.f0.f1 x.f0.f2 x.f1.f0 x.f1.f1 y.f0.f0 y.f0.f1 y.f0.f2 y.f1.f0 y.f1.f1 = some (sw_v x.f0 y.f0)
instance sw_dec (k : Nat) (l : List S80) : Decidable (sw_ok k l) := by unfold sw_ok; infer_instance
def zbk.f (k : Nat) (l0 : List S80) : Option (List S80) := if sw_ok k l0 then some (Go.Stb.stable sw_lt l0.toArray).toList else none
theorem zbk.mono : ∀ a0 k, LeO (zbk.f k a0) (zbk.f (k + 1) a0) := by
 intro l k r h
 unfold zbk.f at h ⊢
 split at h
 ·rename_i hk
  rw [if_pos ⟨hk.1, fun x hx y hy => zdm.mono _ _ _ _ _ _ _ _ _ _ k _ (hk.2 x hx y hy)⟩]
  exact h
 ·cases h
theorem zbk.calls (k : Nat) (ok : Nat → Prop) (P_ : Nat → Prop) (u : Value) (l0 r : List S80) (w0 w : World) (hB : Below w0.heap.size w0 w) (ho : Kd.N k80 80 w w0.heap.size ok u l0 ∧ ∀ k, some k = u.ownBlock → P_ k) (h : zbk.f k l0 = some r) :
  Calls Tryd.prog 73 #[u, (.func (.func 74) #[] #[])] w fun e w' => e = .returned (.tuple #[]) ∧ Kd.N k80 80 w' w0.heap.size ok u r ∧ Below w0.heap.size w0 w' ∧ Kept w w' P_ := by
 unfold zbk.f at h; split at h
 case isFalse => cases h
 rename_i hk; injection h with h
 subst h
 exact sort_NS (d := k80) (show Go.Proofs.StbS.zfg Tryd.prog k80.sz from Go.Proofs.StbS.stLays) 74 (fun x y => sw_v x.f0 y.f0) _ (fun W ok => k80_mkF W ok z80 (A3 := none) (c3 := 0) (Nat.le_refl _) (Kd.F_nil _ _ _)) l0
  (fun args w => enters_of Tryd.func74 (by decide) rfl args w) Tryd.underlying104
  (fun x hx y hy W cx cy kx ky => by
   obtain ⟨A0, c0, rfl, h1, h2⟩ := k80_open kx; obtain ⟨A1, c1, rfl, h3, h4⟩ := k80_open ky; exact zdm.calls k x.f0.f0 x.f0.f1 x.f0.f2 A0 c0 x.f1.f0 x.f1.f1 y.f0.f0 y.f0.f1 y.f0.f2 A1 c1 y.f1.f0 y.f1.f1 _ W h2 h1 h4 h3 (hk.2 x hx y hy))
  hk.1 P_ u w0 w hB ho.1 ho.2
def zby.l0 : Nat → Int → List (S80) → List (S54) → Int → Int → Option ((List (S80)) × Bool)
 | 0, _, _, _, _, _ => none
 | k + 1, x1, x6, x9, x10, x11 => if x11 < x10 then (if 0 ≤ x11 then (if x11 < (x9.length : Int) then (if x1 < 0 then (some (([] : List (S80)), false)) else (if x1 ≥ (((zah x9 x11).f0).length : Int) then (some (([] : List (S80)), false)) else (if 0 ≤ x1 then (if x1 < (((zah x9 x11).f0).length : Int) then (if ((zak ((zah x9 x11).f0) x1).f0) = 0 then (zby.l0 k x1 x6 x9 x10 (wrap64 (x11 + 1))) else (if x6.length < 2199023255552 then (zby.l0 k x1 (x6 ++ [(⟨(⟨(zak ((zah x9 x11).f0) x1).f0, (zak ((zah x9 x11).f0) x1).f1, (zak ((zah x9 x11).f0) x1).f2⟩ : S48), (⟨(zah x9 x11).f0, (zah x9 x11).f1⟩ : S54)⟩ : S80)]) x9 x10 (wrap64 (x11 + 1))) else (none))) else (none)) else (none)))) else (none)) else (none)) else ((zbk.f k x6).bind fun t155 => (some (t155, true)))
def zby.f (k : Nat) (l0 : List (S54)) (a1 : Int) : Option ((List (S80)) × Bool) := zby.l0 k a1 ([] : List (S80)) l0 (l0.length : Int) 0
theorem zby.zci : ∀ k, (∀ y0 y1 y2 y3 y4, LeO (zby.l0 k y0 y1 y2 y3 y4) (zby.l0 (k + 1) y0 y1 y2 y3 y4))
 | 0 => fun _ _ _ _ _ r h => by simp [zby.l0] at h
 | k + 1 => by
  have ih0 := zby.zci k
  ·intro y0 y1 y2 y3 y4
   unfold zby.l0
   with_reducible repeat' first
   | apply ih0
   | apply zbk.mono
   | apply LeO.refl
   | apply LeO.none
   | refine LeO.ite ?_ ?_
   | refine LeO.bind ?_ (fun _ => ?_)
theorem zby.mono : ∀ a0 a1 k, LeO (zby.f k a0 a1) (zby.f (k + 1) a0 a1) := by
 intro a0 a1 k
 have ih0 := zby.zci k
 unfold zby.f
 with_reducible repeat' first
   | apply ih0
   | apply zbk.mono
   | apply LeO.refl
   | apply LeO.none
   | refine LeO.ite ?_ ?_
   | refine LeO.bind ?_ (fun _ => ?_)
def zby.T8 : Bool × List (List Nat × List Nat) := (true, [([], []), ([], []), ([1], [1]), ([], []), ([2, 3], [2, 3]), ([4], [4]), ([], []), ([5, 6], [5, 6]), ([7], [7]), ([0, 8], [0, 8]), ([9, 9, 0, 1, 2, 3, 4, 5, 6, 7, 8, 9], [0, 9])])
def zby.B8 : List Nat := [0, 0, 2, 0, 14, 30, 0, 126, 254, 511, 1023]
theorem zby.tab8 : rtab .any (opsOf Tryd.f43 8) = zby.T8 := by kernel_rfl
theorem zby.bits8 : zfc zby.T8.2 zby.B8 = true := by kernel_rfl
theorem zby.calls (k : Nat) (P0_ : Nat → Prop) (A0 : Option Addr) (c0 : Nat) (l0 : List (S54)) (a1 : Int) (r1 : List (S80)) (r2 : Bool) (w : World) (hs0 : Kd.V k54 54 w w.heap.size (fun k_ => P0_ k_) (.slice A0 l0.length c0) l0) (h : zby.f k l0 a1 = some (r1, r2)) :
  Calls Tryd.prog 43 #[.slice A0 l0.length c0, .int .i64 a1] w fun e w' => ∃ v0_ : Value, e = .returned (.tuple #[v0_, .bool r2]) ∧ Kd.N k80 80 w' w.heap.size (fun k_ => (P0_ k_ ∨ w.heap.size ≤ k_)) v0_ r1 ∧ Below w.heap.size w w' := by
 have hu54 := Tryd.underlying54; have hu48 := Tryd.underlying48; have hu80 := Tryd.underlying80; have HO0 := ak_ (show Kd.V k54 54 w w.heap.size (fun k_ => (P0_ k_ ∨ w.heap.size ≤ k_)) (.slice A0 l0.length c0) l0 from Kd.zax hs0 (fun k_ hk => .inl hk)); have HB := ak_ (Below.refl w.heap.size w); have H : (zby.l0 k a1 ([] : List (S80)) l0 (l0.length : Int) 0) = some (r1, r2) := h; clear h; have H' := ak_ H; clear H; go_enter Tryd.func43, Tryd.ntmps43; go_wp2; go_loopg [6, 11] k (fun kq v6 v11 w' => ∃ (x6_1 : List (S80)) (x11_1 : Int), v11 = .int .i64 x11_1 ∧ zag (zby.l0 kq a1 x6_1 l0 (l0.length : Int) x11_1 = some (r1, r2)) ∧ zag (kq ≤ k) ∧ zag (Kd.N k80 80 w' w.heap.size (fun k_ => (P0_ k_ ∨ w.heap.size ≤ k_)) v6 x6_1) ∧ zag (Kd.V k54 54 w' w.heap.size (fun k_ => (P0_ k_ ∨ w.heap.size ≤ k_) ∧ some k_ ≠ (v6 : Value).ownBlock) (.slice A0 l0.length c0) l0) ∧ zag (Below w.heap.size w w'))
 case atStart => exact ⟨(([] : List (S80))), (0), q6_, H', ⟨Nat.le_refl _⟩, ⟨q28_⟩, ⟨vx_ (Kd.zax HO0.out (fun _ hk => ⟨hk, (by simp [Value.ownBlock])⟩))⟩, ⟨q0_⟩⟩
 case round =>
  clear H'; obtain ⟨x6_1, x11_1, rfl, HA, HK1, HO_6, HO_9, HB⟩ := hrel
  cases gk with
  | zero => exact absurd HA.out (by simp [zby.l0])
  | succ k1 =>
   have H := HA.out; clear HA; simp only [zby.l0] at H
   by_cases c3 : x11_1 < (l0.length : Int)
   ·rw [if_pos c3] at H; have c3b0 := decide_eq_true c3; clear c3
    by_cases c4 : 0 ≤ x11_1
    ·rw [if_pos c4] at H; have c4b0 := decide_eq_true c4; clear c4
     by_cases c5 : x11_1 < (l0.length : Int)
     ·rw [if_pos c5] at H; have c5b0 := decide_eq_true c5; clear c5; have p156 : 0 ≤ (x11_1 : Int) := of_decide_eq_true q5_; have q156 : x11_1 < (l0.length : Int) := of_decide_eq_true q5_; obtain ⟨ad156, A156_0, c156_0, e156, hx156_0, hx156_1, hl156_0, hi156_0⟩ := zfw (Kd.zaw HO_9.out).2.2 x11_1 p156 q156; cases e156; obtain ⟨ce156, hce156, hMe156, hcc156⟩ := Kd.V_get HO_9.out z54 x11_1 p156 q144_; obtain ⟨ua156_0, uc156_0, rfl, ul156_0, ge156_0⟩ := zhs hMe156; have hv156_0 := hcc156 0 _ rfl; rw [Nat.add_zero] at hv156_0; replace hv156_0 := Option.some.inj (hv156_0.symm.trans hx156_0); injection hv156_0 with hva_ hvn_ hvc_
      rw [hva_] at ge156_0; rw [hvc_] at ul156_0; have HL156_0 := ak_ (show Kd.V k48 48 _ w.heap.size _ _ ((zah l0 x11_1).f0) from Kd.V_mk ul156_0 ge156_0); clear hva_ hvn_ hvc_ ge156_0 ul156_0 hcc156 hce156; have HR156_0 := ak_ hi156_0; have HC156_0 := ak_ hl156_0; clear hi156_0 hl156_0
      by_cases c6 : a1 < 0
      ·rw [if_pos c6] at H; have c6b0 := decide_eq_true c6; clear c6; simp only [Option.some.injEq, Prod.mk.injEq] at H; obtain ⟨rfl, rfl⟩ := H; replace p156 := eq_true p156; replace q156 := eq_true q156; go_wp2_with (first | ((with_reducible refine gd_ 8 rfl ?_); (try (refine zbt (by rfl) ?_; dsimp only)); refine by_ #[.slice none 0 0, .int .i64 0] 54 ?_; intro gb157 hg w7 BK157 hb; have GE157 := gw_ hg; replace HO_6 := Ne_ q132_ hg hb; replace HO_9 := Ve_ q193_ hg hb; replace HL156_0 := Ve_ q112_ hg hb; replace HR156_0 := Cb_ q122_ hb; replace HB := bs_ hb; clear hb hg; have hz8 := bc2_ (w := w7) BK157.out)); go_ret2; exact ⟨_, q3_, q28_, q0_⟩
      ·rw [if_neg c6] at H; have c6b0 := decide_eq_false c6; clear c6; replace p156 := eq_true p156
       by_cases c9 : a1 ≥ (((zah l0 x11_1).f0).length : Int)
       ·rw [if_pos c9] at H; have c9b0 : decide ((((zah l0 x11_1).f0).length : Int) ≤ a1) = true := decide_eq_true c9; clear c9; simp only [Option.some.injEq, Prod.mk.injEq] at H; obtain ⟨rfl, rfl⟩ := H; replace q156 := eq_true q156; go_wp2_with (first | ((with_reducible refine gd_ 8 rfl ?_); (try (refine zbt (by rfl) ?_; dsimp only)); refine by_ #[.slice none 0 0, .int .i64 0] 54 ?_; intro gb157 hg w10 BK157 hb; have GE157 := gw_ hg; replace HO_6 := Ne_ q132_ hg hb; replace HO_9 := Ve_ q193_ hg hb; replace HL156_0 := Ve_ q112_ hg hb; replace HR156_0 := Cb_ q122_ hb; replace HB := bs_ hb; clear hb hg; have hz11 := bc2_ (w := w10) BK157.out)); go_ret2; exact ⟨_, q3_, q28_, q0_⟩
       ·rw [if_neg c9] at H; have c9b0 : decide ((((zah l0 x11_1).f0).length : Int) ≤ a1) = false := decide_eq_false c9; clear c9
        by_cases c12 : 0 ≤ a1
        ·rw [if_pos c12] at H; have c12b0 := decide_eq_true c12; clear c12
         by_cases c13 : a1 < (((zah l0 x11_1).f0).length : Int)
         ·rw [if_pos c13] at H; have c13b0 := decide_eq_true c13; clear c13; replace q156 := eq_true q156
          by_cases c14 : ((zak ((zah l0 x11_1).f0) a1).f0) = 0
          ·rw [if_pos c14] at H; have c14b0 := bq_ c14; have c14b1 := bq0_ c14; clear c14; have H' := ak_ H; clear H; go_wp2_with (first | ((with_reducible refine gd_ 8 rfl ?_); (try (refine zbt (by rfl) ?_; dsimp only)); refine by_ #[.slice none 0 0, .int .i64 0] 54 ?_; intro gb157 hg w15 BK157 hb; have GE157 := gw_ hg; replace HO_6 := Ne_ q132_ hg hb; replace HO_9 := Ve_ q193_ hg hb; replace HL156_0 := Ve_ q112_ hg hb; replace HR156_0 := Cb_ q122_ hb; replace HB := bs_ hb; clear hb hg; have hz16 := bc2_ (w := w15) BK157.out) | ((with_reducible refine gate_store (t := 54) (p := 8) rfl ?_); refine store_event (t := 54) (p := 8) (v := ?vo_w17) (w1 := ((w15.setCell ⟨gb157, 0, none⟩ (.slice A156_0 ((zah l0 x11_1).f0).length c156_0)).setCell ⟨gb157, 1, none⟩ (.int .i64 ((zah l0 x11_1).f1)))) ?hg ?ho ?hn ?hr ?_; (case ho => rfl); (case hg => rfl); (case hn => rfl); (case hr => first | (go_simp; done) | (go_simp; rfl)); intro w17 hw; replace HO_6 : zag (Kd.N k80 80 w17 w.heap.size (fun k_ => (P0_ k_ ∨ w.heap.size ≤ k_) ∧ k_ ≠ gb157) u6 x6_1) := ⟨q140_⟩; replace HO_9 : zag (Kd.V k54 54 w17 w.heap.size (fun k_ => (P0_ k_ ∨ w.heap.size ≤ k_) ∧ some k_ ≠ (u6 : Value).ownBlock ∧ k_ ≠ gb157) (.slice (some ad156) l0.length c0) l0) := ⟨q138_⟩; replace HL156_0 : zag (Kd.V k48 48 w17 w.heap.size (fun k_ => (P0_ k_ ∨ w.heap.size ≤ k_) ∧ some k_ ≠ (u6 : Value).ownBlock ∧ k_ ≠ gb157) (.slice A156_0 ((zah l0 x11_1).f0).length c156_0) ((zah l0 x11_1).f0)) := ⟨q137_⟩; replace BK157 : zag (w17.heap[gb157]? = some (.cells #[.slice A156_0 ((zah l0 x11_1).f0).length c156_0, .int .i64 ((zah l0 x11_1).f1)] 54 (0, 0))) := ⟨q163_⟩; replace HB : zag (Below w.heap.size w w17) := ⟨(by rw [hw]; exact q0_)⟩; clear hw; have hz18 := bc2_ (w := w17) BK157.out; have p158 : 0 ≤ (a1 : Int) := of_decide_eq_true q5_; have q158 : a1 < (((zah l0 x11_1).f0).length : Int) := of_decide_eq_true q5_; obtain ⟨ad158, e158, hx158_0, hx158_1, hx158_2⟩ := zhz ((Kd.zaw HL156_0.out).2.2) a1 p158 q158; cases e158; replace p158 := eq_true p158; replace q158 := eq_true q158)); go_roundg k1
           case measure => have := HK1.out; omega
           case rel => exact ⟨(x6_1), (wrap64 (x11_1 + 1)), q6_, H', ⟨kq_⟩, ⟨nx_ (Kd.zbe HO_6.out (fun _ hk => hk.1))⟩, ⟨vx_ (Kd.zax HO_9.out (fun _ hk => ⟨hk.1, hk.2.1⟩))⟩, ⟨q0_⟩⟩
          ·rw [if_neg c14] at H; have c14b0 := bn_ c14; have c14b1 := bn1_ c14
           by_cases c19 : x6_1.length < 2199023255552
           ·rw [if_pos c19] at H; have LMc19 := ak_ c19; clear c19; obtain ⟨y160, hy160⟩ : ∃ y_ : List (S80), y_ = (x6_1 ++ [(⟨(⟨(zak ((zah l0 x11_1).f0) a1).f0, (zak ((zah l0 x11_1).f0) a1).f1, (zak ((zah l0 x11_1).f0) a1).f2⟩ : S48), (⟨(zah l0 x11_1).f0, (zah l0 x11_1).f1⟩ : S54)⟩ : S80)]) := ⟨_, rfl⟩; replace H : (zby.l0 k1 a1 y160 l0 (l0.length : Int) (wrap64 (x11_1 + 1))) = some (r1, r2) := by first | (rw [hy160]; with_reducible exact H) | (have H2_ := (Option.bind_some _ _).symm.trans H; rw [hy160]; with_reducible exact H2_) | (have H2_ := (Option.bind_some _ _).symm.trans H; with_reducible exact H2_) | with_reducible exact H | (rw [hy160]; exact H) | exact H
            have Ny160 := ak_ hy160; clear hy160; have H' := ak_ H; clear H; try go_wp2_with (first | ((with_reducible refine gd_ 8 rfl ?_); (try (refine zbt (by rfl) ?_; dsimp only)); refine by_ #[.slice none 0 0, .int .i64 0] 54 ?_; intro gb157 hg w20 BK157 hb; have GE157 := gw_ hg; replace HO_6 := Ne_ q132_ hg hb; replace HO_9 := Ve_ q193_ hg hb; replace HL156_0 := Ve_ q112_ hg hb; replace HR156_0 := Cb_ q122_ hb; replace HB := bs_ hb; clear hb hg; have hz21 := bc2_ (w := w20) BK157.out) | ((with_reducible refine gate_store (t := 54) (p := 8) rfl ?_); refine store_event (t := 54) (p := 8) (v := ?vo_w22) (w1 := ((w20.setCell ⟨gb157, 0, none⟩ (.slice A156_0 ((zah l0 x11_1).f0).length c156_0)).setCell ⟨gb157, 1, none⟩ (.int .i64 ((zah l0 x11_1).f1)))) ?hg ?ho ?hn ?hr ?_; (case ho => rfl); (case hg => rfl); (case hn => rfl); (case hr => first | (go_simp; done) | (go_simp; rfl)); intro w22 hw; replace HO_6 : zag (Kd.N k80 80 w22 w.heap.size (fun k_ => (P0_ k_ ∨ w.heap.size ≤ k_) ∧ k_ ≠ gb157) u6 x6_1) := ⟨q140_⟩; replace HO_9 : zag (Kd.V k54 54 w22 w.heap.size (fun k_ => (P0_ k_ ∨ w.heap.size ≤ k_) ∧ some k_ ≠ (u6 : Value).ownBlock ∧ k_ ≠ gb157) (.slice (some ad156) l0.length c0) l0) := ⟨q138_⟩; replace HL156_0 : zag (Kd.V k48 48 w22 w.heap.size (fun k_ => (P0_ k_ ∨ w.heap.size ≤ k_) ∧ some k_ ≠ (u6 : Value).ownBlock ∧ k_ ≠ gb157) (.slice A156_0 ((zah l0 x11_1).f0).length c156_0) ((zah l0 x11_1).f0)) := ⟨q137_⟩; replace BK157 : zag (w22.heap[gb157]? = some (.cells #[.slice A156_0 ((zah l0 x11_1).f0).length c156_0, .int .i64 ((zah l0 x11_1).f1)] 54 (0, 0))) := ⟨q163_⟩; replace HB : zag (Below w.heap.size w w22) := ⟨(by rw [hw]; exact q0_)⟩; clear hw; have hz23 := bc2_ (w := w22) BK157.out; have p158 : 0 ≤ (a1 : Int) := of_decide_eq_true q5_; have q158 : a1 < (((zah l0 x11_1).f0).length : Int) := of_decide_eq_true q5_; obtain ⟨ad158, e158, hx158_0, hx158_1, hx158_2⟩ := zhz ((Kd.zaw HL156_0.out).2.2) a1 p158 q158; cases e158; replace p158 := eq_true p158; replace q158 := eq_true q158))
            replace HO_6 := ak_ (Kd.zcy HO_6.out); replace HO_9 := ak_ (Kd.zfe HO_9.out); replace HL156_0 := ak_ (Kd.zfe HL156_0.out); replace BK157 := dB_ BK157; replace HB := ak_ (zbh HB.out); have p159 : 0 ≤ (a1 : Int) := of_decide_eq_true q5_; have q159 : a1 < (((zah l0 x11_1).f0).length : Int) := of_decide_eq_true q5_; obtain ⟨ad159, e159, hx159_0, hx159_1, hx159_2⟩ := zhz ((Kd.zaw HL156_0.out).2.2) a1 p159 q159; obtain rfl : ad158 = ad159 := (by injection e159); replace p159 := eq_true p159; replace q159 := eq_true q159; refine zep (n := 11) (S := fun w' => w'.cell? ⟨gb157, 0, none⟩ = some (.slice (some ad158) ((zah l0 x11_1).f0).length c156_0) ∧ w'.cell? ⟨gb157, 1, none⟩ = some (.int .i64 ((zah l0 x11_1).f1)) ∧ w'.cell? (ad158.add ((a1).toNat * 3)) = some (.int .i64 ((zak ((zah l0 x11_1).f0) a1).f0)) ∧ w'.cell? ⟨(ad158.add ((a1).toNat * 3)).block, (ad158.add ((a1).toNat * 3)).off + 1, none⟩ = some (.int .i64 ((zak ((zah l0 x11_1).f0) a1).f1)) ∧ w'.cell? ⟨(ad158.add ((a1).toNat * 3)).block, (ad158.add ((a1).toNat * 3)).off + 2, none⟩ = some (.string ((zak ((zah l0 x11_1).f0) a1).f2))) (ds := [8, 9]) (bz 11 0) (by kernel_rfl) rfl rfl ⟨bt_ BK157.out 0, bt_ BK157.out 1, hx159_0, hx159_1, hx159_2⟩ (fun hHeld => ?_); refine zcv zby.tab8 zby.bits8 (fun HT_ HW_ => ?_); generalize w22.drew = w24 at HO_6 HO_9 HL156_0 BK157 HB hx159_0 hx159_1 hx159_2 hHeld ⊢; refine pz_ 0 31 (bz 11 1) ?_; refine pz_ 1 32 (bz 11 2) ?_; refine pz_ 3 34 b30_3 ?_; refine tz5_ 2 33 (bz 11 4) hHeld ?_; refine pz_ 4 35 (bz 11 5) ?_; refine tz5_ 5 36 (bz 11 6) hHeld ?_; refine tz5_ 6 37 (bz 11 7) hHeld ?_; refine pz_ 7 38 (bz 11 8) ?_; refine last_ (i := 8) (N := some 39) (bz 11 9) rfl rfl (one_of HT_.out (by kernel_rfl)) (by decide) (fun K hK => ?_); refine value_ (w1 := ?_) (v := ?_) (by rfl) rfl ?_ ?_; rotate_left 2
            ·go_simp; constructor
             ·rfl
             ·rfl
            refine hK.out _ _ ?_; clear hK K; refine nz_ ?_; refine last_ (i := 9) (N := some 40) (bz 11 10) rfl rfl (one_of HT_.out (by kernel_rfl)) (by decide) (fun K hK => ?_); refine Kd.N_append_step k80 (w0 := w) w.heap.size (by rfl) (.tmp 31) (.tmp 39) 76 80 (.agg #[(.int .i64 0), (.int .i64 0), (.string ⟨#[]⟩), (.slice none 0 0), (.int .i64 0)]) 64 rfl Tryd.underlying76 info80 rfl (by decide) (by omega) u6 x6_1 (⟨(⟨(zak ((zah l0 x11_1).f0) a1).f0, (zak ((zah l0 x11_1).f0) a1).f1, (zak ((zah l0 x11_1).f0) a1).f2⟩ : S48), (⟨(zah l0 x11_1).f0, (zah l0 x11_1).f1⟩ : S54)⟩ : S80) [.int .i64 ((zak ((zah l0 x11_1).f0) a1).f0), .int .i64 ((zak ((zah l0 x11_1).f0) a1).f1), .string ((zak ((zah l0 x11_1).f0) a1).f2), .slice (some ad158) ((zah l0 x11_1).f0).length c156_0, .int .i64 ((zah l0 x11_1).f1)] (fun k_ => (P0_ k_ ∨ w.heap.size ≤ k_) ∧ k_ ≠ gb157) (fun k_ => ((fun k_ => (P0_ k_ ∨ w.heap.size ≤ k_) ∧ k_ ≠ gb157)) k_ ∧ some k_ ≠ (u6 : Value).ownBlock) rfl rfl ?aP (fun _ hk => hk) ?aF ?aO ?aB ?aS ?aL ?_; (case aP => exact (k80_mkF _ _ (⟨(⟨(zak ((zah l0 x11_1).f0) a1).f0, (zak ((zah l0 x11_1).f0) a1).f1, (zak ((zah l0 x11_1).f0) a1).f2⟩ : S48), (⟨(zah l0 x11_1).f0, (zah l0 x11_1).f1⟩ : S54)⟩ : S80) (Kd.zaw (Kd.zax (ok' := (fun k_ => ((fun k_ => (P0_ k_ ∨ w.heap.size ≤ k_) ∧ k_ ≠ gb157)) k_ ∧ some k_ ≠ (u6 : Value).ownBlock)) (HL156_0.out) (fun k_ hk => ⟨⟨hk.1, hk.2.2⟩, hk.2.1⟩))).2.1 (Kd.V_F (Kd.zax (ok' := (fun k_ => ((fun k_ => (P0_ k_ ∨ w.heap.size ≤ k_) ∧ k_ ≠ gb157)) k_ ∧ some k_ ≠ (u6 : Value).ownBlock)) (HL156_0.out) (fun k_ hk => ⟨⟨hk.1, hk.2.2⟩, hk.2.1⟩))))); (case aB => exact q0_); (case aF => exact (fun k_ hk => ⟨(.inr (Nat.le_trans (zai q0_) hk)), Kd.zce (g := gb157) (o := .cells #[.slice (some ad158) ((zah l0 x11_1).f0).length c156_0, .int .i64 ((zah l0 x11_1).f1)] 54 (0, 0)) (by (with_reducible repeat first | apply bN_ | apply bD_ | apply bA_); exact BK157.out) k_ hk⟩)); (case aO => exact q132_); (case aS => exact (zai q0_)); (case aL => have := LMc19.out; omega); intro v161 w25 ho hb hg hat; rw [← Ny160.out] at ho; have HO162 := ak_ ho; replace HO_9 := ak_ (Kd.zgp (ok := (fun k_ => (P0_ k_ ∨ w.heap.size ≤ k_) ∧ k_ ≠ gb157)) (vx_ (Kd.zax HO_9.out (fun _ hk => ⟨⟨hk.1, hk.2.2⟩, hk.2.1⟩))) hg hat); replace HL156_0 := ak_ (Kd.zgp (ok := (fun k_ => (P0_ k_ ∨ w.heap.size ≤ k_) ∧ k_ ≠ gb157)) (vx_ (Kd.zax HL156_0.out (fun _ hk => ⟨⟨hk.1, hk.2.2⟩, hk.2.1⟩))) hg hat); replace BK157 := ak_ (zde (g := gb157) (o := .cells #[.slice (some ad158) ((zah l0 x11_1).f0).length c156_0, .int .i64 ((zah l0 x11_1).f1)] 54 (0, 0)) (by (with_reducible repeat first | apply bN_ | apply bD_ | apply bA_); exact BK157.out) hg (Kd.N_ne HO_6.out BK157.out (by decide))); replace HB := ak_ hb; clear HO_6 ho hb hg hat; refine hK.out _ _ ?_; clear hK K; refine nz_ ?_; refine pz_ 10 6 (bz 11 11) ?_
            refine zfk (zdh HT_.out (by kernel_rfl)) ?_; try go_wp2
            go_roundg k1
            case measure => have := HK1.out; omega
            case rel => exact ⟨(y160), (wrap64 (x11_1 + 1)), q6_, H', ⟨kq_⟩, ⟨nx_ (Kd.zbe HO162.out (fun _ hk => hk.1))⟩, ⟨vx_ (Kd.zax HO_9.out (fun _ hk => ⟨hk.1.1, hk.2⟩))⟩, ⟨q0_⟩⟩
           ·rw [if_neg c19] at H; exact absurd H (by simp)
         ·rw [if_neg c13] at H; exact absurd H (by simp)
        ·rw [if_neg c12] at H; exact absurd H (by simp)
     ·rw [if_neg c5] at H; exact absurd H (by simp)
    ·rw [if_neg c4] at H; exact absurd H (by simp)
   ·rw [if_neg c3] at H; have c3b0 := decide_eq_false c3; clear c3; obtain ⟨t155, A26, H⟩ := bi_ H; replace H : (some (t155, true)) = some (r1, r2) := H; simp only [Option.some.injEq, Prod.mk.injEq] at H; obtain ⟨rfl, rfl⟩ := H; obtain ⟨Ao27, co27, eo27⟩ := Kd.zcg HO_6.out; subst eo27; go_wp2_with (first | ((with_reducible refine gc_ 73 rfl ?_); refine gl_ 43 Tryd.func73 #[.slice Ao27 x6_1.length co27, (.func (.func 74) #[] #[])] ?_; (with_reducible refine (zbk.calls k1 (fun k_ => ((P0_ k_ ∨ w.heap.size ≤ k_))) (fun k_ => some k_ = (.slice Ao27 x6_1.length co27 : Value).ownBlock) (.slice Ao27 x6_1.length co27) x6_1  t155 w _ ?side1 ?side2 A26.out).mono ?_); (case side1 => exact q0_); (case side2 => exact ⟨HO_6.out, fun _ h_ => h_⟩); rintro e w28 ⟨rfl, hy0, hb, hkp⟩; refine ⟨_, rfl, ?_⟩; replace HO_6 := ak_ hy0; replace HO_9 := ak_ (Kd.zax (ok' := fun k_ => (P0_ k_ ∨ w.heap.size ≤ k_) ∧ some k_ ≠ (.slice Ao27 x6_1.length co27 : Value).ownBlock) (Kd.V_keptB (HO_9.out) hkp (fun k_ hk_ hs_ => (hk_.2) hs_)) (fun k_ hk_ => ⟨hk_.1.1, hk_.1.2⟩)); replace HB := ak_ hb; clear hb; (try clear hkp); (try clear hy0))); go_ret2; exact ⟨_, q3_, q132_, q0_⟩
def zey.f (a0 : Int) (a1 : Int) : Option (Int × Bool) := if a1 = 0 then (none) else (if (wrap64 (Int.tdiv (wrap64 (a0 * a1)) a1)) = a0 then (if (wrap64 (a0 * a1)) ≥ (-1099511627776) then (some (wrap64 (a0 * a1), decide ((wrap64 (a0 * a1)) ≤ 1099511627776))) else (some (wrap64 (a0 * a1), false))) else (some (wrap64 (a0 * a1), false)))
theorem zey.calls (a0 : Int) (a1 : Int) (r1 : Int) (r2 : Bool) (w : World) (h : zey.f a0 a1 = some (r1, r2)) :
  Calls Tryd.prog 47 #[.int .i64 a0, .int .i64 a1] w fun e w' => e = .returned (.tuple #[.int .i64 r1, .bool r2]) ∧ zeo w w' := by
 have H := h; unfold zey.f at H; clear h
 by_cases c3 : a1 = 0
 ·rw [if_pos c3] at H; exact absurd H (by simp)
 ·rw [if_neg c3] at H; have c3b0 := bn_ c3; have c3b1 := bn1_ c3
  by_cases c4 : (wrap64 (Int.tdiv (wrap64 (a0 * a1)) a1)) = a0
  ·rw [if_pos c4] at H; have c4b0 := bq_ c4; have c4b1 := bq0_ c4; clear c4
   by_cases c5 : (wrap64 (a0 * a1)) ≥ (-1099511627776)
   ·rw [if_pos c5] at H; have c5b0 : decide ((-1099511627776) ≤ (wrap64 (a0 * a1))) = true := decide_eq_true c5; clear c5; simp only [Option.some.injEq, Prod.mk.injEq] at H; obtain ⟨rfl, rfl⟩ := H; go_enter Tryd.func47, Tryd.ntmps47; go_wp2; go_ret2; exact ⟨q6_, q18_⟩
   ·rw [if_neg c5] at H; have c5b0 : decide ((-1099511627776) ≤ (wrap64 (a0 * a1))) = false := decide_eq_false c5; clear c5; simp only [Option.some.injEq, Prod.mk.injEq] at H; obtain ⟨rfl, rfl⟩ := H; go_enter Tryd.func47, Tryd.ntmps47; go_wp2; go_ret2; exact ⟨q6_, q18_⟩
  ·rw [if_neg c4] at H; have c4b0 := bn_ c4; have c4b1 := bn1_ c4; simp only [Option.some.injEq, Prod.mk.injEq] at H; obtain ⟨rfl, rfl⟩ := H; go_enter Tryd.func47, Tryd.ntmps47; go_wp2; go_ret2; exact ⟨q6_, q18_⟩
set_option maxHeartbeats 4000000 in
theorem zct.grow (n : Int) (w : World) (hn0 : 0 ≤ n) (hn : n ≤ 2000000) :
  Calls Tryd.prog 77 #[.slice none 0 0, .int .i64 n] w fun e w' => ∃ v0_ : Value, e = .returned v0_ ∧ Kd.N k48 48 w' w.heap.size (fun k_ => w.heap.size ≤ k_) v0_ [] ∧ Below w.heap.size w w' := by
 have hneg : ¬ n < 0 := by omega
 have hw : IntKind.i64.wrap (n - 0) = n := by rw [IntKind.wrap_i64]; omega
 have hw2 : IntKind.i64.wrap n = n := by rw [IntKind.wrap_i64]; omega
 by_cases hp : (0 : Int) < n
 ·go_enter Tryd.func77, Tryd.ntmps77
  go_wp2_with (refine Kd.zjp k48 (w0 := w) w.heap.size rfl _ _ 52 3 48 (.agg #[.int .i64 0, .int .i64 0, .string ByteArray.empty]) 32 rfl Tryd.underlying52 Tryd.underlying3 (by kernel_rfl) rfl (by decide) (by omega) (.slice none 0 0) ([] : List S48) z48 n (fun k_ => w.heap.size ≤ k_) rfl rfl (k48_mkF _ _ z48) (fun k hk => hk) (Kd.N_nil _ _ _ _ _) hn0 (Below.refl _ _) (Nat.le_refl _) (by simp; omega) ?_)
  intro v1 w1 hN hb hg hat
  obtain ⟨A, c, he⟩ := Kd.zcg hN
  subst he
  go_wp2
  go_ret
  exact ⟨_, rfl, Kd.N_take (m := 0) hN (Nat.zero_le _), hb⟩
 ·have hz : n = 0 := by omega
  subst hz
  go_enter Tryd.func77, Tryd.ntmps77
  go_wp2
  go_ret
  exact ⟨_, rfl, Kd.N_nil _ _ _ _ _, Below.refl _ _⟩
def zct.f (l0 : List (List S48)) : Option (List S48) := if l0.length ≤ 1000000 ∧ l0.flatten.length ≤ 1000000 then some l0.flatten else none
theorem zct.zir (l : List (List S48)) (i : Nat) (hi : i < l.length) : (l.take (i + 1)).flatten = (l.take i).flatten ++ l[i] := by
 rw [List.take_succ_eq_append_getElem hi, List.flatten_append]
 simp
theorem zct.le_ (l : List (List S48)) (i : Nat) : (l.take i).flatten.length ≤ l.flatten.length := by
 conv => rhs; rw [← List.take_append_drop i l, List.flatten_append, List.length_append]
 omega
theorem zct.callsN (P_ : Nat → Prop) (A : Option Addr) (c : Nat) (l0 : List (List S48)) (r : List S48) (w : World) (hs : Kd.V (Kd.slice 48 k48) 52 w w.heap.size (fun k_ => P_ k_) (.slice A l0.length c) l0) (h : zct.f l0 = some r) :
  Calls Tryd.prog 48 #[.slice A l0.length c] w fun e w' => ∃ v0_ : Value, e = .returned v0_ ∧ Kd.N k48 48 w' w.heap.size (fun k_ => (P_ k_ ∨ w.heap.size ≤ k_)) v0_ r ∧ Below w.heap.size w w' := by
 unfold zct.f at h; split at h
 case isFalse => cases h
 rename_i hl; obtain ⟨hl1, hl2⟩ := hl; injection h with h
 subst h; have hF := Kd.V_F hs; have hlc := (Kd.zaw hs).2.1
 have hget : ∀ (W : World), Below w.heap.size w W → ∀ i : Nat, (hi : i < l0.length) → ∃ ad A1 c1, A = some ad ∧ W.cell? (ad.add i) = some (.slice A1 (l0[i]).length c1) ∧ (l0[i]).length ≤ c1 ∧ Kd.F k48 W (fun k => P_ k ∧ k < w.heap.size) A1 (l0[i]).length (l0[i]) := by
  intro W hb i hi; have hF' : Kd.F (Kd.slice 48 k48) W (fun k => P_ k ∧ k < w.heap.size) A l0.length l0 := Kd.zfn (Kd.F_bound hF) hb; obtain ⟨ad, cs, hA, hcl, hK, hcc, _⟩ := Kd.F_get hF' [] (i : Int) (by omega) (by omega); have e : l0.getD (i : Int).toNat [] = l0[i] := by simp [List.getD, hi]
  rw [e] at hK; obtain ⟨A1, c1, hcs, hle, hFi⟩ := Kd.FK_slice_open hK; subst hcs; have h1 := hcc 0 _ rfl; rw [show (Kd.slice 48 k48).sz = 1 from rfl, Nat.mul_one, Nat.add_zero, show (i : Int).toNat = i by simp] at h1; exact ⟨ad, A1, c1, hA, h1, hle, hFi⟩
 have HG := ak_ hget; clear hget; have hn : l0.length < 9223372036854775808 := by omega
 obtain ⟨S, hS⟩ : ∃ S : Nat → Nat, ∀ i, S i = (l0.take i).flatten.length := ⟨_, fun _ => rfl⟩; have S0 : S 0 = 0 := by rw [hS]; rfl
 have S1 : ∀ i (hi : i < l0.length), S (i + 1) = S i + (l0[i]).length := fun i hi => by rw [hS, hS, zct.zir l0 i hi, List.length_append]
 have S2 : ∀ i, S i ≤ 1000000 := fun i => by rw [hS]; exact Nat.le_trans (zct.le_ l0 i) hl2
 have HS := ak_ hS; have HS0 := ak_ S0; have HS1 := ak_ S1; have HS2 := ak_ S2; clear hs hF hS S0 S1 S2; go_enter Tryd.func48, Tryd.ntmps48; go_wp2; go_loopg [3, 11] l0.length (fun kx s3 s11 wr => ∃ i : Nat, s3 = .int .i64 (S i : Nat) ∧ s11 = .int .i64 i ∧ i ≤ l0.length ∧ l0.length - i ≤ kx ∧ w = wr)
 case atStart => exact ⟨0, by rw [HS0.out]; rfl, rfl, Nat.zero_le _, Nat.le_refl _, rfl⟩
 case round =>
  obtain ⟨i, rfl, rfl, hi, hkx, rfl⟩ := hrel
  by_cases hlt : (i : Int) < (l0.length : Int)
  ·have hi' : i < l0.length := by omega
   obtain ⟨ad, A1, c1, rfl, hcell, hle, hFi⟩ := HG.out w (Below.refl _ _) i hi'; have hsum := HS1.out i hi'; have hb1 := HS2.out (i + 1); generalize l0[i] = x at hcell hle hFi hsum; have hi0 : (0 : Int) ≤ (i : Int) := by omega
   have hit : ((i : Int)).toNat = i := by omega
   have hw1 : wrap64 ((S i : Int) + (x.length : Int)) = (S (i + 1) : Nat) := by unfold wrap64; omega
   have hw2 : wrap64 ((i : Int) + 1) = (i : Int) + 1 := by unfold wrap64; omega
   have hnn2 : ¬ ((((S (i + 1) : Nat) : Int)) < 0) := Int.not_lt.mpr (Int.natCast_nonneg _); clear hle hFi hsum hb1; go_wp2; go_roundg (l0.length - (i + 1))
   case measure => omega
   case rel => exact ⟨i + 1, rfl, by simp, by omega, Nat.le_refl _, rfl⟩
  ·have e : i = l0.length := by omega
   subst e; have hgr := zct.grow ((S l0.length : Nat) : Int) w (by omega) (by have := HS2.out l0.length; omega); go_wp2_with (go_at_call 77; refine hgr.mono ?_; rintro e w1 ⟨v0, rfl, hN, hb⟩); have HN := ak_ hN; have HB := ak_ hb; clear hN hb hgr; go_loopg [6, 27] l0.length (fun kx s6 s27 w2 => ∃ i : Nat, s27 = .int .i64 i ∧ i ≤ l0.length ∧ l0.length - i ≤ kx ∧ zag (Kd.N k48 48 w2 w.heap.size (fun k_ => P_ k_ ∨ w.heap.size ≤ k_) s6 ((l0.take i).flatten)) ∧ zag (Below w.heap.size w w2))
   case atStart => exact ⟨0, rfl, Nat.zero_le _, Nat.le_refl _, ⟨Kd.zbe HN.out (fun _ h => .inr h)⟩, HB⟩
   case round =>
    clear HN HB; obtain ⟨i, rfl, hi, hkx, HN, HB⟩ := hrel
    by_cases hlt2 : (i : Int) < (l0.length : Int)
    ·have hi' : i < l0.length := by omega
     obtain ⟨ad, A1, c1, rfl, hcell, hle, hFi⟩ := HG.out _ HB.out i hi'; have hsum := zct.zir l0 i hi'; have hb1 := HS2.out (i + 1); rw [HS.out, hsum, List.length_append] at hb1; generalize l0[i] = x at hcell hle hFi hsum hb1; have hi0 : (0 : Int) ≤ (i : Int) := by omega
     have hit : ((i : Int)).toNat = i := by omega
     have hw2 : wrap64 ((i : Int) + 1) = (i : Int) + 1 := by unfold wrap64; omega
     obtain ⟨T, hT⟩ : ∃ T, T = (l0.take i).flatten := ⟨_, rfl⟩; rw [← hT] at HN hsum hb1; have HF := ak_ hFi; clear hFi; go_wp2_with ((with_reducible refine zff (b := .append) (xs := #[.tmp 31, .tmp 32]) rfl ?_); at_builtin; refine Kd.zin k48 (w0 := w) w.heap.size rfl (.tmp 31) (.tmp 32) 52 48 (.agg #[.int .i64 0, .int .i64 0, .string ByteArray.empty]) 32 rfl Tryd.underlying52 (by kernel_rfl) rfl (by decide) (by omega) _ T x A1 x.length c1 (fun k_ => P_ k_ ∨ w.heap.size ≤ k_) (fun k => P_ k ∧ k < w.heap.size) rfl rfl HN.out HF.out (fun k hk => ⟨.inl hk.1, fun he => Nat.not_le.2 hk.2 (Kd.zao HN.out k he.symm)⟩) (fun k hk => .inr (Nat.le_trans HB.out.size hk)) HB.out HB.out.size (Nat.le_trans (Nat.mul_le_mul_right 32 hb1) (by decide)) ?_; intro v2 w3 hN2 hb2 hg hat; rw [← hsum] at hN2; have HN2 := ak_ hN2; have HB2 := ak_ hb2; clear hN2 hb2 hg hat HN HB HF hsum hb1 hle hT); go_roundg (l0.length - (i + 1))
     case measure => omega
     case rel => exact ⟨i + 1, by simp, by omega, Nat.le_refl _, HN2, HB2⟩
    ·have e2 : i = l0.length := by omega
     subst e2; go_wp2; go_ret; refine ⟨_, rfl, ?_, HB.out⟩; have := HN.out; rw [List.take_length] at this; exact this
theorem zct.N_R {α : Type} {d : Kd α} {e : Nat} {w : World} {base : Nat} {ok : Nat → Prop} {v : Value} {xs : List α} (hKM : ∀ (w : World) (base : Nat) (ok : Nat → Prop) x c, d.K w x c → d.M w base ok x c) (h : Kd.N d e w base ok v xs) : d.R e w base (fun _ => True) v xs := by
 obtain ⟨h0, rows, hl, hR, hf⟩ := h
 obtain ⟨_, inner, ho, hr⟩ := hR
 refine ⟨fun _ _ => trivial, inner, by rw [← hl]; exact ho, ⟨by rw [← hl]; exact hr.1, fun j x hx => ?_⟩⟩
 have hj : j < rows.length := by have := (List.getElem?_eq_some_iff.1 hx).1; omega
 have h1 := hr.2 j _ (List.getElem?_eq_getElem hj)
 have h2 := hf j x _ hx (List.getElem?_eq_getElem hj)
 have h3 : (inner.drop (j * d.sz)).take d.sz = rows[j] := h1.1
 rw [h3]
 exact hKM _ _ _ _ _ (Kd.zgw h2)
theorem zct.calls (A0 : Option Addr) (c0 : Nat) (l0 : List (List S48)) (r : List S48) (w : World) (hr0 : Kd.C (Kd.slice 48 k48) w A0 l0.length l0) (hc0 : l0.length ≤ c0) (h : zct.f l0 = some r) :
  Calls Tryd.prog 48 #[.slice A0 l0.length c0] w fun e w' => ∃ v0_ : Value, e = .returned v0_ ∧ Kd.R k48 48 w' w.heap.size (fun _ => True) v0_ r ∧ Below w.heap.size w w' := by
 refine (zct.callsN (fun k_ => k_ < w.heap.size) A0 c0 l0 r w (Kd.V_mk hc0 (Kd.C_F (Kd.heap_slice 48 k48_heap) hr0)) h).mono ?_; rintro e w' ⟨v, rfl, hN, hb⟩; exact ⟨v, rfl, zct.N_R (fun w base ok x c hk => by rw [k48_open hk]; exact zit _ _ _ x) hN, hb⟩
def zba.p (a1 : Int) (c : S54) : Bool := decide ((c.f0.length : Int) ≠ a1)
def zba.f (l0 : List S54) (a1 : Int) : Option Bool := if l0.length ≤ 1000000 then some (l0.any fun c => decide ((c.f0.length : Int) ≠ a1)) else none
section
variable {P : Program} {ops : Array Oper} {Q : Exit → Act → World → Prop}
theorem zba.goes {rest : List Oper} {oi : Oper} {a : Act} {w : World} (N : Option Tmp) (hd : oi.dst = N) (hg : oi.guard = none) {f : FuncId} {fn : Func} {c : Operand} {as_ : Array Operand} {ts : Array TypeId} (hf : P.funcs[f]? = some fn) (hname : (fn.name == "runtime.NumGoroutine") = false) (hb : fn.body.isSome = true) (args caps : Array Value)
  (hop : oi.op = .call { callee := .value c, args := as_, argTypes := ts }) (hc : a.eval c = .func (.func f) #[] caps) (hargs : as_.map a.eval = args)
  (h : Calls P f (args ++ caps) w fun e w' => ∃ v, e = .returned v ∧ wpList P ops Q rest (a.put N v) w') : wpList P ops Q (oi :: rest) a w := by
 refine wpList_plain hg fun K hK => ?_
 have he := enters_ hf hname hb (args ++ caps) w
 have hrun : (execOp a.eval oi).run P w = .ok (.enter f (args ++ caps)) w := by
  unfold execOp
  simp [hop, resolve, hc, Deferred.ofValue, invoke, hargs, he]
 unfold Oper.wp
 rw [hrun, Oper.upon_enter]
 refine h.mono fun e w'' hh => ?_
 obtain ⟨v, rfl, hk⟩ := hh
 subst hd
 exact hK _ _ hk
end
set_option maxHeartbeats 2000000 in
theorem zba.one (A1 : Option Addr) (n c1 : Nat) (x : Int) (g1 : Nat) (a1 : Int) (w : World) (hc1 : n ≤ c1) (b : Bool) (hbb : decide ((n : Int) ≠ a1) = b) (hb1 : w.cell? ⟨g1, 0, none⟩ = some (.int .i64 a1)) :
  Calls Tryd.prog 42 #[.agg #[.slice A1 n c1, .int .i64 x], .pointer (some ⟨g1, 0, none⟩)] w fun e w' => e = .returned (.bool b) ∧ Below w.heap.size w w' := by
 have hu54 := Tryd.underlying54
 have HB1 := zag.mk hb1
 have HC := zag.mk hc1
 have HBB := zag.mk hbb
 clear hc1 hbb
 go_enter Tryd.func42, Tryd.ntmps42
 go_wp2_with ((with_reducible refine gate_dst (N := 2) rfl ?_); (try (refine zbt (by rfl) ?_; dsimp only)); refine box_event ?hg (N := 2) ?hd (cs := #[.slice A1 n c1, .int .i64 x]) (t := 54) ?hr ?_; (case hd => rfl); (case hg => rfl); (case hr => first | (go_simp; done) | (go_simp; rfl)); intro gb hg w1 hbox hb; have hz0 : w1.cell? ⟨gb, 0, none⟩ = some (.slice A1 n c1) := (zco hbox 0).trans rfl; have hz1 : w1.cell? ⟨gb, 1, none⟩ = some (.int .i64 x) := (zco hbox 1).trans rfl; have hb1' := (hb.cell (World.block_lt_of_cell? w _ HB1.out)).trans HB1.out; have HB := zag.mk hb; clear hb hbox hg hb1)
 go_ret
 exact ⟨by show Ending.returned (.bool (!decide ((n : Int) = a1))) = _; rw [← HBB.out]; simp, HB.out⟩
set_option maxHeartbeats 4000000 in
theorem zba.idx (A0 : Option Addr) (c0 : Nat) (l0 : List S54) (g1 : Nat) (a1 : Int) (w : World) (hr0 : Kd.C k54 w A0 l0.length l0) (hc0 : l0.length ≤ c0) (hb1 : w.cell? ⟨g1, 0, none⟩ = some (.int .i64 a1)) (hl : l0.length ≤ 1000000) :
  Calls Tryd.prog 72 #[.slice A0 l0.length c0, (.func (.func 42) #[] #[.pointer (some ⟨g1, 0, none⟩)])] w fun e w' => ∃ r : Int, e = .returned (.int .i64 r) ∧ decide (0 ≤ r) = (l0.any (zba.p a1)) ∧ Below w.heap.size w w' := by
 have hu54 := Tryd.underlying54
 have HR0 := zag.mk hr0
 have HC0 := zag.mk hc0
 have HB1 := zag.mk hb1
 have HL := zag.mk hl
 clear hr0 hc0 hb1 hl
 have HS0 := zag.mk (Below.refl w.heap.size w)
 go_enter Tryd.func72, Tryd.ntmps72
 go_wp2
 go_loopg [8] l0.length (fun kx s8 w' => ∃ i : Nat, s8 = .int .i64 i ∧ zag (i ≤ l0.length) ∧ zag (l0.length - i ≤ kx) ∧ zag (((l0.take i).any (zba.p a1)) = false) ∧ zag (Below w.heap.size w w'))
 case atStart => exact ⟨0, rfl, ⟨Nat.zero_le _⟩, ⟨Nat.le_refl _⟩, ⟨rfl⟩, HS0⟩
 case round =>
  clear HS0
  obtain ⟨i, rfl, hi, hkx, hany, HB⟩ := hrel
  by_cases hlt : (i : Int) < (l0.length : Int)
  ·have p1 : 0 ≤ (i : Int) := by omega
   obtain ⟨ad, A1, c1, e1, hx0, hx1, hl1, hi1⟩ := zfw HR0.out (i : Int) p1 hlt
   cases e1
   clear hi1
   replace hx0 := (HB.out.cell (World.block_lt_of_cell? w _ hx0)).trans hx0
   replace hx1 := (HB.out.cell (World.block_lt_of_cell? w _ hx1)).trans hx1
   have HC1 := zag.mk hl1
   clear hl1
   have hrd : l0[i]? = some (zah l0 (i : Int)) := by
    have hi' : i < l0.length := by omega
    rw [List.getElem?_eq_getElem hi']
    show _ = some (l0.getD (i : Int).toNat _)
    rw [Int.toNat_natCast, List.getD_eq_getElem?_getD, List.getElem?_eq_getElem hi']; rfl
   generalize zah l0 (i : Int) = x at hx0 hx1 HC1 hrd
   have HRD := zag.mk hrd
   clear hrd
   have hit : (i : Int).toNat = i := Int.toNat_natCast i
   rw [hit] at hx0 hx1
   have hw2 : wrap64 ((i : Int) + 1) = ((i + 1 : Nat) : Int) := by have := HL.out; unfold wrap64; omega
   have hcd := fun (W : World) (hW : Below w.heap.size w W) => zba.one A1 x.f0.length c1 x.f1 g1 a1 W HC1.out (zba.p a1 x) rfl ((hW.cell (World.block_lt_of_cell? w _ HB1.out)).trans HB1.out)
   have HCD := zag.mk hcd
   clear hcd
   have hst : ((l0.take (i + 1)).any (zba.p a1)) = zba.p a1 x := by
    have hi' : i < l0.length := by omega
    have hxe : l0[i] = x := by have := HRD.out; rw [List.getElem?_eq_getElem hi'] at this; exact Option.some.inj this
    rw [List.take_succ_eq_append_getElem hi', List.any_append, hany.out, hxe]; simp
   by_cases hd : zba.p a1 x = true
   ·have hd' : zba.p a1 x = true := hd
    rw [hd'] at hst
    have HST := zag.mk hst
    have HD := zag.mk hd'
    clear hst hd hd'
    go_wp2_with ((with_reducible refine zej (t := 11) rfl ?_); refine zba.goes (some 16) rfl rfl Tryd.func42 (by kernel_rfl) rfl #[.agg #[.slice A1 x.f0.length c1, .int .i64 x.f1]] #[.pointer (some ⟨g1, 0, none⟩)] rfl (by rfl) q2_ ?_; (refine (HCD.out _ HB.out).mono ?_); rintro e w2 ⟨rfl, hb⟩; rw [HD.out]; refine ⟨_, rfl, ?_⟩; have HB2 := zag.mk (below_step HB.out hb); clear hb)
    go_ret
    refine ⟨(i : Int), rfl, ?_, HB2.out⟩
    rw [decide_eq_true p1]
    refine Eq.symm (List.any_eq_true.2 ?_)
    obtain ⟨c, hc, hq⟩ := List.any_eq_true.1 HST.out
    exact ⟨c, List.mem_of_mem_take hc, hq⟩
   ·have hd' : zba.p a1 x = false := Bool.eq_false_iff.2 hd
    rw [hd'] at hst
    have HST := zag.mk hst
    have HD := zag.mk hd'
    clear hst hd hd'
    go_wp2_with ((with_reducible refine zej (t := 11) rfl ?_); refine zba.goes (some 16) rfl rfl Tryd.func42 (by kernel_rfl) rfl #[.agg #[.slice A1 x.f0.length c1, .int .i64 x.f1]] #[.pointer (some ⟨g1, 0, none⟩)] rfl (by rfl) q2_ ?_; (refine (HCD.out _ HB.out).mono ?_); rintro e w2 ⟨rfl, hb⟩; rw [HD.out]; refine ⟨_, rfl, ?_⟩; have HB2 := zag.mk (below_step HB.out hb); clear hb)
    go_roundg (l0.length - (i + 1))
    case measure => have := hkx.out; omega
    case rel => exact ⟨i + 1, by rw [hw2], ⟨by omega⟩, ⟨Nat.le_refl _⟩, HST, HB2⟩
  ·have e : i = l0.length := by have := hi.out; omega
   subst e
   go_wp2
   go_ret
   refine ⟨-1, rfl, ?_, HB.out⟩
   have := hany.out
   rw [List.take_length] at this
   rw [this]; rfl
set_option maxHeartbeats 2000000 in
theorem zba.calls (A0 : Option Addr) (c0 : Nat) (l0 : List S54) (g1 : Nat) (a1 : Int) (r : Bool) (w : World) (hr0 : Kd.C k54 w A0 l0.length l0) (hc0 : l0.length ≤ c0) (hb1 : w.heap[g1]? = some (.cells #[.int .i64 a1] 3 (0, 0))) (h : zba.f l0 a1 = some r) :
  Calls Tryd.prog 41 #[.slice A0 l0.length c0, (.func (.func 42) #[] #[.pointer (some ⟨g1, 0, none⟩)])] w fun e w' => e = .returned (.bool r) ∧ Below w.heap.size w w' := by
 unfold zba.f at h; split at h
 case isFalse => cases h
 rename_i hl; injection h with h
 subst h; have hI := zba.idx A0 c0 l0 g1 a1 w hr0 hc0 ((zco hb1 0).trans rfl) hl; have HI := ak_ hI; clear hI hr0 hc0 hb1 hl; go_enter Tryd.func41, Tryd.ntmps41; go_wp2_with ((with_reducible refine gc_ 72 rfl ?_); refine gl_ 7 Tryd.func72 #[.slice A0 l0.length c0, (.func (.func 42) #[] #[.pointer (some ⟨g1, 0, none⟩)])] ?_; (refine HI.out.mono ?_); rintro e w4 ⟨v, rfl, hv, hb⟩; refine ⟨_, rfl, ?_⟩; have HB := ak_ hb; have HV := ak_ hv; clear hb hv); go_ret; exact ⟨by show Ending.returned (.bool (decide (0 ≤ v))) = _; rw [HV.out]; rfl, HB.out⟩
def zda.f (k : Nat) (a0_0 : Int) (a0_1 : Int) (a0_2 : ByteArray) (l0_3 : List (S48)) (a0_4 : Int) (a1_0 : Int) (a1_1 : Int) (a1_2 : ByteArray) : Option (Int) := (zbw.f k a0_0 a0_1 a0_2 a1_0 a1_1 a1_2).bind fun t167 => (some t167)
theorem zda.mono : ∀ a0 a1 a2 a3 a4 a5 a6 a7 k, LeO (zda.f k a0 a1 a2 a3 a4 a5 a6 a7) (zda.f (k + 1) a0 a1 a2 a3 a4 a5 a6 a7) := by
 intro a0 a1 a2 a3 a4 a5 a6 a7 k
 unfold zda.f
 with_reducible repeat' first
   | apply zbw.mono
   | apply LeO.refl
   | apply LeO.none
   | refine LeO.ite ?_ ?_
   | refine LeO.bind ?_ (fun _ => ?_)
theorem zda.calls (k : Nat) (a0_0 : Int) (a0_1 : Int) (a0_2 : ByteArray) (A0_3 : Option Addr) (c0_3 : Nat) (l0_3 : List (S48)) (a0_4 : Int) (a1_0 : Int) (a1_1 : Int) (a1_2 : ByteArray) (r : Int) (w : World) (hr0_3 : Kd.C k48 w A0_3 l0_3.length l0_3) (hc0_3 : l0_3.length ≤ c0_3) (h : zda.f k a0_0 a0_1 a0_2 l0_3 a0_4 a1_0 a1_1 a1_2 = some r) :
  Calls Tryd.prog 45 #[.agg #[.int .i64 a0_0, .int .i64 a0_1, .string a0_2, .slice A0_3 l0_3.length c0_3, .int .i64 a0_4], .agg #[.int .i64 a1_0, .int .i64 a1_1, .string a1_2]] w fun e w' => e = .returned (.int .i64 r) ∧ Below w.heap.size w w' := by
 have hu80 := Tryd.underlying80; have hu48 := Tryd.underlying48; have HR0_3 := ak_ hr0_3; have HC0_3 := ak_ hc0_3; clear hr0_3 hc0_3; have HB := ak_ (Below.refl w.heap.size w); have H : ((zbw.f k a0_0 a0_1 a0_2 a1_0 a1_1 a1_2).bind fun t167 => (some t167)) = some r := h; clear h; obtain ⟨t167, A3, H⟩ := bi_ H; replace H : (some t167) = some r := H; obtain rfl := Option.some.inj H; go_enter Tryd.func45, Tryd.ntmps45; go_wp2_with (first | ((with_reducible refine gd_ 2 rfl ?_); refine by_ #[.int .i64 a0_0, .int .i64 a0_1, .string a0_2, .slice A0_3 l0_3.length c0_3, .int .i64 a0_4] 80 ?_; intro gb165 hg w4 BK165 hb; have GE165 := gw_ hg; replace HB := bs_ hb; clear hb hg) | ((with_reducible refine gd_ 3 rfl ?_); refine by_ #[.int .i64 a1_0, .int .i64 a1_1, .string a1_2] 48 ?_; intro gb166 hg w5 BK166 hb; have GE166 := gw_ hg; have NB165_166 := nl_ hg q205_; have NB166_165 := ne_ NB165_166; replace BK165 := bb_ q205_ hb; replace HB := bs_ hb; clear hb hg; have hn6 := np_ NB165_166; have hz7 := bc5_ (w := w5) BK165.out; have hz8 := bc3_ (w := w5) BK166.out) | ((with_reducible refine gc_ 46 rfl ?_); refine gl_ 8 Tryd.func46 #[.agg #[.int .i64 a0_0, .int .i64 a0_1, .string a0_2], .agg #[.int .i64 a1_0, .int .i64 a1_1, .string a1_2]] ?_; (with_reducible refine ca_ (zbw.calls k a0_0 a0_1 a0_2 a1_0 a1_1 a1_2 t167 _ A3.out) ?_); intro w9 hb; replace BK165 := bb_ q205_ hb; replace BK166 := ak_ (zdj (g := gb166) (o := .cells #[.int .i64 a1_0, .int .i64 a1_1, .string a1_2] 48 (0, 0)) (by (with_reducible repeat first | apply bN_ | apply bD_ | apply bA_); exact BK166.out) hb); replace HB := bs_ hb; clear hb)); go_ret; exact ⟨q3_, q0_⟩

end Go.Proofs.YtnggdcdiachkpaaDoor.P
