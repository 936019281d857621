-- HALVED
import Derived.Test.YtchpbnabbjdfgaaDoorPx0
import Derived.Test.YtchpbnabbjdfgaaDoorPx19
import Derived.Test.YtchpbnabbjdfgaaDoorPx37
namespace Go.Proofs.YtchpbnabbjdfgaaDoor.P
open Go.RowKit Go.Proofs.YtchpbnabbjdfgaaDoorW.PrintWords Go.Proofs.YtchpbnabbjdfgaaDoorW.PrintLast Go.Proofs.YtchpbnabbjdfgaaDoorW.PrintMore
attribute [local go_sem] zeb zfe zfa zfb zdl zdm zec zed   -- for this text's walks alone
set_option linter.unusedVariables false
set_option linter.unusedSimpArgs false
set_option maxHeartbeats 8000000
set_option maxRecDepth 100000
def zam.l0 : Nat → List (S81) → Int → Int → Option (Int)
 | 0, _, _, _ => none
 | k + 1, x0, x7, x8 => if x8 < x7 then (if 0 ≤ x8 then (if x8 < (x0.length : Int) then ((zda.f k ((zax x0 x8).f0) ((zax x0 x8).f1)).bind fun t169 => (if t169 = true then (some x8) else (zam.l0 k x0 x7 (wrap64 (x8 + 1))))) else (none)) else (none)) else (some (-1))
def zam.f (k : Nat) (l0 : List (S81))  : Option (Int) := zam.l0 k l0 (l0.length : Int) 0
theorem zam.zby : ∀ k, (∀ y0 y1 y2, LeO (zam.l0 k y0 y1 y2) (zam.l0 (k + 1) y0 y1 y2))
 | 0 => fun _ _ _ r h => by simp [zam.l0] at h
 | k + 1 => by
  have ih0 := zam.zby k
  ·intro y0 y1 y2
   unfold zam.l0
   with_reducible repeat' first
   | apply ih0
   | apply zda.mono
   | apply LeO.refl
   | apply LeO.none
   | refine LeO.ite ?_ ?_
   | refine LeO.bind ?_ (fun _ => ?_)
theorem zam.mono : ∀ a0 k, LeO (zam.f k a0) (zam.f (k + 1) a0) := by
 intro a0 k
 have ih0 := zam.zby k
 unfold zam.f
 with_reducible repeat' first
   | apply ih0
   | apply zda.mono
   | apply LeO.refl
   | apply LeO.none
   | refine LeO.ite ?_ ?_
   | refine LeO.bind ?_ (fun _ => ?_)
theorem zam.calls (k : Nat) (A0 : Option Addr) (c0 : Nat) (l0 : List (S81))  (r : Int) (w : World) (hr0 : Kd.C k81 w A0 l0.length l0) (hc0 : l0.length ≤ c0) (h : zam.f k l0 = some r) (hG : Glob w) :
  Calls Tryd.prog 89 #[.slice A0 l0.length c0, (.func (.func 77) #[] #[])] w fun e w' => e = .returned (.int .i64 r) ∧ Below w.heap.size w w' := by
 have hu81 := Tryd.underlying81; have HG := ak_ hG; clear hG; have HR0 := ak_ hr0; have HC0 := ak_ hc0; clear hr0 hc0; have HB := ak_ (Below.refl w.heap.size w); have H : (zam.l0 k l0 (l0.length : Int) 0) = some r := h; clear h; have H' := ak_ H; clear H; go_enter Tryd.func89, Tryd.ntmps89; go_wp2; go_loopg [8] k (fun kq v8 w' => ∃ (x8_1 : Int), v8 = .int .i64 x8_1 ∧ zab (zam.l0 kq l0 (l0.length : Int) x8_1 = some r) ∧ zab (kq ≤ k) ∧ zab (Below w.heap.size w w'))
 case atStart => exact ⟨(0), q6_, H', ⟨Nat.le_refl _⟩, ⟨q0_⟩⟩
 case round =>
  clear H'; obtain ⟨x8_1, rfl, HA, HK1, HB⟩ := hrel
  cases gk with
  | zero => exact absurd HA.out (by simp [zam.l0])
  | succ k1 =>
   have H := HA.out; clear HA; simp only [zam.l0] at H
   by_cases c3 : x8_1 < (l0.length : Int)
   ·rw [if_pos c3] at H; have c3b0 := decide_eq_true c3; clear c3
    by_cases c4 : 0 ≤ x8_1
    ·rw [if_pos c4] at H; have c4b0 := decide_eq_true c4; clear c4
     by_cases c5 : x8_1 < (l0.length : Int)
     ·rw [if_pos c5] at H; have c5b0 := decide_eq_true c5; clear c5; obtain ⟨t169, A6, H⟩ := bi_ H; try dsimp only at H
      have p168 : 0 ≤ (x8_1 : Int) := of_decide_eq_true q4_; have q168 : x8_1 < (l0.length : Int) := of_decide_eq_true q4_; obtain ⟨ad168, A168_0, c168_0, e168, hx168_0, hx168_1, hl168_0, hi168_0⟩ := zge HR0.out x8_1 p168 q168; cases e168; replace hx168_0 := hc_ HB.out hx168_0; replace hx168_1 := hc_ HB.out hx168_1; have HR168_0 := ak_ hi168_0; have HC168_0 := ak_ hl168_0; clear hi168_0 hl168_0; replace p168 := eq_true p168; replace q168 := eq_true q168
      by_cases c7 : t169 = true
      ·subst c7; replace H := ifT_ H; obtain rfl := Option.some.inj H; go_wp2_with (first | ((with_reducible refine zcg (t := 11) rfl ?_); refine zez (some 16) rfl rfl Tryd.func77 (by kernel_rfl) rfl #[.agg #[.slice A168_0 ((zax l0 x8_1).f0).length c168_0, .int .i64 ((zax l0 x8_1).f1)]] rfl (by rfl) q2_ ?_; (with_reducible refine ca_ (zda.calls k1 _ _ ((zax l0 x8_1).f0) ((zax l0 x8_1).f1) true _ ?side1 HC168_0.out A6.out q7_) ?_); (case side1 => exact cx_ (Kd.zcc HR168_0.out HB.out)); intro w8 hb; replace HB := bs_ hb; clear hb)); go_ret; exact ⟨q5_, q0_⟩
      ·replace c7 := Bool.eq_false_iff.mpr c7; subst c7; replace H := ifF_ H; have H' := ak_ H; clear H; go_wp2_with (first | ((with_reducible refine zcg (t := 11) rfl ?_); refine zez (some 16) rfl rfl Tryd.func77 (by kernel_rfl) rfl #[.agg #[.slice A168_0 ((zax l0 x8_1).f0).length c168_0, .int .i64 ((zax l0 x8_1).f1)]] rfl (by rfl) q2_ ?_; (with_reducible refine ca_ (zda.calls k1 _ _ ((zax l0 x8_1).f0) ((zax l0 x8_1).f1) false _ ?side1 HC168_0.out A6.out q7_) ?_); (case side1 => exact cx_ (Kd.zcc HR168_0.out HB.out)); intro w9 hb; replace HB := bs_ hb; clear hb)); go_roundg k1
       case measure => have := HK1.out; omega
       case rel => exact ⟨(wrap64 (x8_1 + 1)), q6_, H', ⟨kq_⟩, ⟨q0_⟩⟩
     ·rw [if_neg c5] at H; exact absurd H (by simp)
    ·rw [if_neg c4] at H; exact absurd H (by simp)
   ·rw [if_neg c3] at H; have c3b0 := decide_eq_false c3; clear c3; obtain rfl := Option.some.inj H; go_wp2; go_ret; exact ⟨q5_, q0_⟩
def zbl.f (k : Nat) (l0 : List (S81))  : Option (Bool) := (zam.f k l0).bind fun t170 => (some (decide (t170 ≥ 0)))
theorem zbl.mono : ∀ a0 k, LeO (zbl.f k a0) (zbl.f (k + 1) a0) := by
 intro a0 k
 unfold zbl.f
 with_reducible repeat' first
   | apply zam.mono
   | apply LeO.refl
   | apply LeO.none
   | refine LeO.ite ?_ ?_
   | refine LeO.bind ?_ (fun _ => ?_)
theorem zbl.calls (k : Nat) (A0 : Option Addr) (c0 : Nat) (l0 : List (S81))  (r : Bool) (w : World) (hr0 : Kd.C k81 w A0 l0.length l0) (hc0 : l0.length ≤ c0) (h : zbl.f k l0 = some r) (hG : Glob w) :
  Calls Tryd.prog 68 #[.slice A0 l0.length c0, (.func (.func 77) #[] #[])] w fun e w' => e = .returned (.bool r) ∧ Below w.heap.size w w' := by
 have HG := ak_ hG; clear hG; have HR0 := ak_ hr0; have HC0 := ak_ hc0; clear hr0 hc0; have HB := ak_ (Below.refl w.heap.size w); have H : ((zam.f k l0).bind fun t170 => (some (decide (t170 ≥ 0)))) = some r := h; clear h; obtain ⟨t170, A3, H⟩ := bi_ H; replace H : (some (decide (t170 ≥ 0))) = some r := H; obtain rfl := Option.some.inj H; go_enter Tryd.func68, Tryd.ntmps68; go_wp2_with (first | ((with_reducible refine gc_ 89 rfl ?_); refine gl_ 7 Tryd.func89 #[.slice A0 l0.length c0, (.func (.func 77) #[] #[])] ?_; (with_reducible refine ca_ (zam.calls k _ _ l0  t170 _ ?side1 HC0.out A3.out q7_) ?_); (case side1 => exact cx_ HR0.out); intro w4 hb; replace HB := bs_ hb; clear hb)); go_ret; exact ⟨q5_, q0_⟩
def zei.f (k : Nat) (l0_0 : List (S105)) (a0_1 : Int) (l1_0 : List (S105)) (a1_1 : Int) : Option (Int) := (zbe.f k l0_0 l1_0).bind fun t173 => (some t173)
theorem zei.mono : ∀ a0 a1 a2 a3 k, LeO (zei.f k a0 a1 a2 a3) (zei.f (k + 1) a0 a1 a2 a3) := by
 intro a0 a1 a2 a3 k
 unfold zei.f
 with_reducible repeat' first
   | apply zbe.mono
   | apply LeO.refl
   | apply LeO.none
   | refine LeO.ite ?_ ?_
   | refine LeO.bind ?_ (fun _ => ?_)
theorem zei.calls (k : Nat) (A0_0 : Option Addr) (c0_0 : Nat) (l0_0 : List (S105)) (a0_1 : Int) (A1_0 : Option Addr) (c1_0 : Nat) (l1_0 : List (S105)) (a1_1 : Int) (r : Int) (w : World) (hr0_0 : Kd.C k105 w A0_0 l0_0.length l0_0) (hc0_0 : l0_0.length ≤ c0_0) (hr1_0 : Kd.C k105 w A1_0 l1_0.length l1_0) (hc1_0 : l1_0.length ≤ c1_0) (h : zei.f k l0_0 a0_1 l1_0 a1_1 = some r) :
  Calls Tryd.prog 80 #[.agg #[.slice A0_0 l0_0.length c0_0, .int .i64 a0_1], .agg #[.slice A1_0 l1_0.length c1_0, .int .i64 a1_1]] w fun e w' => e = .returned (.int .i64 r) ∧ Below w.heap.size w w' := by
 have hu81 := Tryd.underlying81; have HR0_0 := ak_ hr0_0; have HC0_0 := ak_ hc0_0; clear hr0_0 hc0_0; have HR1_0 := ak_ hr1_0; have HC1_0 := ak_ hc1_0; clear hr1_0 hc1_0; have HB := ak_ (Below.refl w.heap.size w); have H : ((zbe.f k l0_0 l1_0).bind fun t173 => (some t173)) = some r := h; clear h; obtain ⟨t173, A3, H⟩ := bi_ H; replace H : (some t173) = some r := H; obtain rfl := Option.some.inj H; go_enter Tryd.func80, Tryd.ntmps80; go_wp2_with (first | ((with_reducible refine gd_ 2 rfl ?_); refine by_ #[.slice A0_0 l0_0.length c0_0, .int .i64 a0_1] 81 ?_; intro gb171 hg w4 BK171 hb; have GE171 := gw_ hg; replace HB := bs_ hb; clear hb hg) | ((with_reducible refine gd_ 3 rfl ?_); refine by_ #[.slice A1_0 l1_0.length c1_0, .int .i64 a1_1] 81 ?_; intro gb172 hg w5 BK172 hb; have GE172 := gw_ hg; have NB171_172 := nl_ hg q47_; have NB172_171 := ne_ NB171_172; replace BK171 := bb_ q47_ hb; replace HB := bs_ hb; clear hb hg; have hn6 := np_ NB171_172; have hz7 := bc2_ (w := w5) BK171.out; have hz8 := bc2_ (w := w5) BK172.out) | ((with_reducible refine gc_ 76 rfl ?_); refine gl_ 9 Tryd.func76 #[.slice A0_0 l0_0.length c0_0, .slice A1_0 l1_0.length c1_0] ?_; (with_reducible refine ca_ (zbe.calls k _ _ l0_0 _ _ l1_0 t173 _ ?side1 HC0_0.out ?side3 HC1_0.out A3.out) ?_); (case side1 => exact cx_ (Kd.zcc HR0_0.out HB.out)); (case side3 => exact cx_ (Kd.zcc HR1_0.out HB.out)); intro w9 hb; replace BK171 := bb_ q47_ hb; replace BK172 := ak_ (zfl (g := gb172) (o := .cells #[.slice A1_0 l1_0.length c1_0, .int .i64 a1_1] 81 (0, 0)) (by (with_reducible repeat first | apply bN_ | apply bD_ | apply bA_); exact BK172.out) hb); replace HB := bs_ hb; clear hb)); go_ret; exact ⟨q5_, q0_⟩
def sv_i (a b : Int) : Int := if a < b then -1 else if a > b then 1 else 0
def sv_b (a b : ByteArray) : Int := if Op.bytesLess a.toList b.toList = true then -1 else if Op.bytesLess b.toList a.toList = true then 1 else 0
def sv_o (a b c : Int) : Int := if a = 0 then (if b = 0 then c else b) else a
def sv_v (a b : S105) : Int := sv_o (sv_i a.f0 b.f0) (sv_i a.f1 b.f1) (sv_b a.f2 b.f2)
def zgy : List S105 → List S105 → Int
 | [], [] => 0
 | [], _ :: _ => -1
 | _ :: _, [] => 1
 | a :: l, b :: m => if sv_v a b = 0 then zgy l m else sv_v a b
def sv_lt (x y : S81) : Bool := decide (zgy x.f0 y.f0 < 0)
instance sv_inh : Inhabited S81 := ⟨z81⟩
def sv_ok (k : Nat) (l : List S81) : Prop := l.length ≤ 1000000 ∧ ∀ x ∈ z81 :: l, ∀ y ∈ z81 :: l, zei.f k x.f0 x.f1 y.f0 y.f1 = some (zgy x.f0 y.f0)
instance sv_dec (k : Nat) (l : List S81) : Decidable (sv_ok k l) := by unfold sv_ok; infer_instance
def zbc.f (k : Nat) (l0 : List S81) : Option (List S81) := if sv_ok k l0 then some (Go.Stb.stable sv_lt l0.toArray).toList else none
theorem zbc.mono : ∀ a0 k, LeO (zbc.f k a0) (zbc.f (k + 1) a0) := by
 intro l k r h
 unfold zbc.f at h ⊢
 split at h
 ·rename_i hk
  rw [if_pos ⟨hk.1, fun x hx y hy => zei.mono _ _ _ _ k _ (hk.2 x hx y hy)⟩]
  exact h
 ·cases h
theorem zbc.calls (k : Nat) (ok : Nat → Prop) (P_ : Nat → Prop) (u : Value) (l0 r : List S81) (w0 w : World) (hB : Below w0.heap.size w0 w) (ho : Kd.N k81 81 w w0.heap.size ok u l0 ∧ ∀ k, some k = u.ownBlock → P_ k) (h : zbc.f k l0 = some r) :
  Calls Tryd.prog 79 #[u, (.func (.func 80) #[] #[])] w fun e w' => e = .returned (.tuple #[]) ∧ Kd.N k81 81 w' w0.heap.size ok u r ∧ Below w0.heap.size w0 w' ∧ Kept w w' P_ := by
 unfold zbc.f at h; split at h
 case isFalse => cases h
 rename_i hk; injection h with h
 subst h
 exact sort_N (d := k81) (show Go.Proofs.Stb.zhs Tryd.prog k81.sz from Go.Proofs.Stb.stLays) 80 (fun x y => zgy x.f0 y.f0) _ (fun W ok => k81_mkF W ok z81 (A0 := none) (c0 := 0) (Nat.le_refl _) (Kd.F_nil _ _ _)) l0
  (fun args w => enters_of Tryd.func80 (by decide) rfl args w) Tryd.underlying51
  (fun x hx y hy W cx cy kx ky => by
   obtain ⟨A0, c0, rfl, h1, h2⟩ := k81_open kx; obtain ⟨A1, c1, rfl, h3, h4⟩ := k81_open ky; exact zei.calls k A0 c0 x.f0 x.f1 A1 c1 y.f0 y.f1 _ W h2 h1 h4 h3 (hk.2 x hx y hy))
  hk.1 P_ u w0 w hB ho.1 ho.2

end Go.Proofs.YtchpbnabbjdfgaaDoor.P
