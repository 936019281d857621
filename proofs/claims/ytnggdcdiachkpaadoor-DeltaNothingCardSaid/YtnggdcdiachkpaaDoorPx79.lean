-- HALVED
import Derived.Test.YtnggdcdiachkpaaDoorPx0
import Derived.Test.YtnggdcdiachkpaaDoorPx1
import Derived.Test.YtnggdcdiachkpaaDoorPx19
import Derived.Test.YtnggdcdiachkpaaDoorPx4
import Derived.Test.YtnggdcdiachkpaaDoorPx61
import Derived.Test.YtnggdcdiachkpaaDoorPx78
namespace Go.Proofs.YtnggdcdiachkpaaDoor.P
open Go.RowKit Go.Proofs.YtnggdcdiachkpaaDoorW.PrintWords Go.Proofs.YtnggdcdiachkpaaDoorW.PrintLast Go.Proofs.YtnggdcdiachkpaaDoorW.PrintMore
attribute [local go_sem] zdl zeh zee zed zdc zdb zdn zdk   -- for this text's walks alone
set_option linter.unusedVariables false
set_option linter.unusedSimpArgs false
set_option maxHeartbeats 8000000
set_option maxRecDepth 100000

attribute [local go_sem high] eqA48
abbrev b79_1 := sb_ (bz 6 0) 3
abbrev b79_2 := sb_ b79_1 0
abbrev b79_3 := sb_ b79_2 1
def zdi.f (k : Nat) (l0 : List (S50)) (l1 : List (S48)) : Option (Bool × Int) := if (l0.length : Int) = 0 then (some (true, 0)) else ((zav.f k l0 l1).bind fun bt365 => ((zdr.f true).bind fun bt370 => (some ((bt365.1 == bt370.1 && (bt365.2.1 == bt370.2.1 && (bt365.2.2.1.toList == bt370.2.2.toList))), bt365.2.2.2))))
theorem zdi.mono : ∀ a0 a1 k, LeO (zdi.f k a0 a1) (zdi.f (k + 1) a0 a1) := by
 intro a0 a1 k
 unfold zdi.f
 with_reducible repeat' first
   | apply zav.mono
   | apply LeO.refl
   | apply LeO.none
   | refine LeO.ite ?_ ?_
   | refine LeO.bind ?_ (fun _ => ?_)
theorem zdi.calls (k : Nat) (A0 : Option Addr) (c0 : Nat) (l0 : List (S50)) (A1 : Option Addr) (c1 : Nat) (l1 : List (S48)) (r1 : Bool) (r2 : Int) (w : World) (hr0 : Kd.C k50 w A0 l0.length l0) (hc0 : l0.length ≤ c0) (hr1 : Kd.C k48 w A1 l1.length l1) (hc1 : l1.length ≤ c1) (h : zdi.f k l0 l1 = some (r1, r2)) (hG : Glob w) :
  Calls Tryd.prog 22 #[.slice A0 l0.length c0, .slice A1 l1.length c1] w fun e w' => e = .returned (.tuple #[.bool r1, .int .i64 r2]) ∧ Below w.heap.size w w' := by
 have hu48 := Tryd.underlying48; have HG := ak_ hG; clear hG; have HR0 := ak_ hr0; have HC0 := ak_ hc0; clear hr0 hc0; have HR1 := ak_ hr1; have HC1 := ak_ hc1; clear hr1 hc1; have HB := ak_ (Below.refl w.heap.size w); have H := h; unfold zdi.f at H; clear h
 by_cases c3 : (l0.length : Int) = 0
 ·rw [if_pos c3] at H; have c3b0 := bq_ c3; have c3b1 := bq0_ c3; clear c3; simp only [Option.some.injEq, Prod.mk.injEq] at H; obtain ⟨rfl, rfl⟩ := H; go_enter Tryd.func22, Tryd.ntmps22; go_wp2; go_ret2; exact ⟨q3_, q0_⟩
 ·rw [if_neg c3] at H; have c3b0 := bn_ c3; have c3b1 := bn1_ c3; have c3b2 : ¬ (l0 = []) := fun h_ => c3 (by rw [h_]; rfl); obtain ⟨⟨t365, t366, t367, t368⟩, A4, H⟩ := bi_ H; try dsimp only at H
  obtain ⟨⟨t370, t371, t372⟩, A5, H⟩ := bi_ H; replace H : (some ((t365 == t370 && (t366 == t371 && (t367.toList == t372.toList))), t368)) = some (r1, r2) := H; simp only [Option.some.injEq, Prod.mk.injEq] at H; obtain ⟨rfl, rfl⟩ := H; go_enter Tryd.func22, Tryd.ntmps22; try go_wp2_with (first | ((with_reducible refine gc_ 23 rfl ?_); refine gl_ 14 Tryd.func23 #[.slice A0 l0.length c0, .slice A1 l1.length c1] ?_; (with_reducible refine ca_ (zav.calls k _ _ l0 _ _ l1 t365 t366 t367 t368 _ ?side1 HC0.out ?side3 HC1.out A4.out q11_) ?_); (case side1 => exact cx_ HR0.out); (case side3 => exact cx_ HR1.out); intro w6 hb; replace HB := bs_ hb; clear hb) | ((with_reducible refine gd_ 6 rfl ?_); refine by_ #[.int .i64 0, .int .i64 0, .string (⟨#[]⟩ : ByteArray)] 48 ?_; intro gb369 hg w7 BK369 hb; have GE369 := gw_ hg; replace HB := bs_ hb; clear hb hg; have hz8 := bc3_ (w := w7) BK369.out))
  have n0_ : zag ((((w7.setCell ⟨gb369, 0, none⟩ (.int .i64 t365)).setCell ⟨gb369, 1, none⟩ (.int .i64 t366)).setCell ⟨gb369, 2, none⟩ (.string t367)).heap[gb369]? = some (.cells #[.int .i64 t365, .int .i64 t366, .string t367] 48 (0, 0))) := ⟨(bp_ (bp_ (bp_ BK369.out)))⟩; have n1_ : zag (Below w.heap.size w (((w7.setCell ⟨gb369, 0, none⟩ (.int .i64 t365)).setCell ⟨gb369, 1, none⟩ (.int .i64 t366)).setCell ⟨gb369, 2, none⟩ (.string t367))) := ⟨q0_⟩; (try clear BK369 HB); generalize (((w7.setCell ⟨gb369, 0, none⟩ (.int .i64 t365)).setCell ⟨gb369, 1, none⟩ (.int .i64 t366)).setCell ⟨gb369, 2, none⟩ (.string t367)) = w9 at n0_ n1_ ⊢; have BK369 := n0_; have HB := n1_; clear n0_ n1_; replace BK369 := dB_ BK369; replace HB := ak_ (zbh HB.out); refine zep (n := 6) (S := fun w' => w'.cell? ⟨gb369, 0, none⟩ = some (.int .i64 t365) ∧ w'.cell? ⟨gb369, 1, none⟩ = some (.int .i64 t366) ∧ w'.cell? ⟨gb369, 2, none⟩ = some (.string t367)) (ds := []) (bz 6 0) (by kernel_rfl) rfl rfl (bs3_ BK369.out) (fun hHeld => ?_); generalize w9.drew = w10 at BK369 HB hHeld ⊢; refine pure_ (i := 3) (N := some 20) (v := ?_) (a' := ?_) b79_1 rfl rfl (by kernel_rfl) (fun _ _ _ h => h) (Or.inl ⟨by rfl, ?_⟩) ?_ ?_; rotate_left; (intro w'; go_simp; with_reducible rfl); rotate_left; exact qa_; refine zir (i := 0) (N := some 17) (v := ?_) (a' := ?_) b79_2 rfl rfl (by kernel_rfl) (fun _ _ _ h => h) (Or.inl ⟨by rfl, ?_⟩) hHeld ?_ ?_; rotate_left; (rintro w' ⟨s0, s1, s2⟩; go_simp; with_reducible rfl); rotate_left; exact qa_; refine one_ (i := 1) (N := some 18) b79_3 rfl rfl (by kernel_rfl) (by decide) (fun K hK => ?_); refine go1_ Tryd.func51 #[.bool true] ?_; (with_reducible refine ca_ (zdr.calls true t370 t371 t372 _ A5.out) ?_); intro w11 hb; replace BK369 := ak_ (zdj (g := gb369) (o := .cells #[.int .i64 t365, .int .i64 t366, .string t367] 48 (0, 0)) (by (with_reducible repeat first | apply bN_ | apply bD_ | apply bA_); exact BK369.out) hb); replace HB := bs_ hb; clear hb; refine hK.out _ _ (bs3_ BK369.out) (fun hHeld => ?_); clear hK K; refine nz_ ?_; refine pure_ (i := 2) (N := some 19) (v := ?_) (a' := ?_) (bz 6 4) rfl rfl (by kernel_rfl) (fun _ _ _ h => h) (Or.inl ⟨by rfl, ?_⟩) ?_ ?_; rotate_left; (intro w'; go_simp; with_reducible rfl); rotate_left; exact qa_; refine pure_ (i := 4) (N := some 4) (v := ?_) (a' := ?_) (bz 6 5) rfl rfl (by kernel_rfl) (fun _ _ _ h => h) (Or.inl ⟨by rfl, ?_⟩) ?_ ?_; rotate_left; (intro w'; go_simp; with_reducible rfl); rotate_left; exact qa_; refine pure_ (i := 5) (N := some 5) (v := ?_) (a' := ?_) (bz 6 6) rfl rfl (by kernel_rfl) (fun _ _ _ h => h) (Or.inl ⟨by rfl, ?_⟩) ?_ ?_; rotate_left; (intro w'; go_simp; with_reducible rfl); rotate_left; exact qa_; refine zfk (by kernel_rfl) ?_; try go_wp2
  go_ret2; exact ⟨q3_, q0_⟩
def zet.f (l0 : List S48) : Option (List S48) := if l0.length ≤ 1000000 then some l0 else none
set_option maxHeartbeats 2000000 in
theorem zet.calls (A : Option Addr) (c : Nat) (l0 r : List S48) (w : World) (hr : Kd.C k48 w A l0.length l0) (hc : l0.length ≤ c) (h : zet.f l0 = some r) :
  Calls Tryd.prog 40 #[.slice A l0.length c] w fun e w' => ∃ v0_ : Value, e = .returned v0_ ∧ Kd.R k48 48 w' w.heap.size (fun _ => True) v0_ r ∧ Below w.heap.size w w' := by
 unfold zet.f at h; split at h
 case isFalse => cases h
 rename_i hl; injection h with h
 subst h; have q22 : ∀ (w : World) (a : Option Addr) (n c n' c' : Nat), (binOp .eql 52 (.slice a n c) (.slice none n' c')).run Tryd.prog w = .ok (.bool a.isNone) w := fun w a n c n' c' => Lib.run_eql_slice_nil w _ _ a n c n' c' Tryd.underlying52; have HF := ak_ (Kd.zam hr (zbx (Below.refl _ _) (.cells #[] 48)))
 cases A with
 | none =>
  have e0 : l0 = [] := by
   have := hr.2.2
   cases l0 with
   | nil => rfl
   | cons x l => obtain ⟨ad, h1, _⟩ := this (by simp); cases h1
  subst e0; clear hr HF; go_enter Tryd.func40, Tryd.ntmps40; go_wp2; go_ret; exact ⟨_, rfl, Kd.R_nil _ _ _ _ _, Below.refl _ _⟩
 | some ad =>
  clear hr; go_enter Tryd.func40, Tryd.ntmps40; go_wp2_with (at_builtin; refine Kd.R_append_rows k48 (w0 := w) w.heap.size rfl _ _ 52 48 (.agg #[.int .i64 0, .int .i64 0, .string ByteArray.empty]) 32 rfl Tryd.underlying52 (by kernel_rfl) rfl (by decide) (by omega) (.slice (some ⟨w.heap.size, 0, none⟩) 0 0) ([] : List S48) l0 (some ad) l0.length c (fun _ => True) (fun _ => False) rfl rfl (cl_madeR k48 48 w) HF.out (fun x cs hk => by rw [k48_open hk]; exact zit _ _ _ x) (fun k hk => hk.elim) (fun k hk => trivial) (zbx (Below.refl _ _) _) (by simp) (by simp; omega) ?_); intro v' w1 hown hb hg hat; go_wp2; go_ret; exact ⟨v', rfl, hown, hb⟩
def zfo.f (l0 : List S54) : Option (List S54) := if l0.length ≤ 1000000 then some l0 else none
set_option maxHeartbeats 2000000 in
theorem zfo.calls (P_ : Nat → Prop) (A : Option Addr) (c : Nat) (l0 r : List S54) (w : World) (hs : Kd.V k54 54 w w.heap.size (fun k_ => P_ k_) (.slice A l0.length c) l0) (h : zfo.f l0 = some r) :
  Calls Tryd.prog 59 #[.slice A l0.length c] w fun e w' => ∃ v0_ : Value, e = .returned v0_ ∧ Kd.N k54 54 w' w.heap.size (fun k_ => (P_ k_ ∨ w.heap.size ≤ k_)) v0_ r ∧ Below w.heap.size w w' := by
 unfold zfo.f at h; split at h
 case isFalse => cases h
 rename_i hl; injection h with h
 subst h; have q22 : ∀ (w : World) (a : Option Addr) (n c n' c' : Nat), (binOp .eql 28 (.slice a n c) (.slice none n' c')).run Tryd.prog w = .ok (.bool a.isNone) w := fun w a n c n' c' => Lib.run_eql_slice_nil w _ _ a n c n' c' Tryd.underlying28; have HF := ak_ (Kd.F_alloc (Kd.F_bound (Kd.V_F hs)) (.cells #[] 54))
 cases A with
 | none =>
  have e0 : l0 = [] := by
   have := (Kd.zaw hs).2.2.2.2
   cases l0 with
   | nil => rfl
   | cons x l => obtain ⟨ad, h1, _⟩ := this (by simp); cases h1
  subst e0; clear hs HF; go_enter Tryd.func59, Tryd.ntmps59; go_wp2; go_ret; exact ⟨_, rfl, Kd.N_nil _ _ _ _ _, Below.refl _ _⟩
 | some ad =>
  clear hs; go_enter Tryd.func59, Tryd.ntmps59; go_wp2_with (at_builtin; refine Kd.zin k54 (w0 := w) w.heap.size rfl _ _ 28 54 (.agg #[(.slice none 0 0), (.int .i64 0)]) 32 rfl Tryd.underlying28 info54 rfl (by decide) (by omega) (.slice (some ⟨w.heap.size, 0, none⟩) 0 0) ([] : List S54) l0 (some ad) l0.length c (fun k_ => (P_ k_ ∨ w.heap.size ≤ k_)) (fun k => P_ k ∧ k < w.heap.size) rfl rfl (cl_made k54 54 w _ (.inr (Nat.le_refl _))) HF.out (fun k hk => ⟨.inl hk.1, by simp [Value.ownBlock]; have := hk.2; omega⟩) (fun k hk => .inr (by simp at hk; omega)) (zbx (Below.refl _ _) _) (by simp) (by simp; omega) ?_); intro v' w1 hown hb hg hat; go_wp2; go_ret; exact ⟨v', rfl, hown, hb⟩
def zdw.f (k : Nat) (l0_0 : List (S48)) (a0_1 : Int) : Option (Bool) := (zew.f a0_1).bind fun t374 => (if t374 = true then ((zbl.f k l0_0).bind fun t375 => (some t375)) else (some true))
theorem zdw.mono : ∀ a0 a1 k, LeO (zdw.f k a0 a1) (zdw.f (k + 1) a0 a1) := by
 intro a0 a1 k
 unfold zdw.f
 with_reducible repeat' first
   | apply zbl.mono
   | apply LeO.refl
   | apply LeO.none
   | refine LeO.ite ?_ ?_
   | refine LeO.bind ?_ (fun _ => ?_)
theorem zdw.calls (k : Nat) (A0_0 : Option Addr) (c0_0 : Nat) (l0_0 : List (S48)) (a0_1 : Int) (r : Bool) (w : World) (hr0_0 : Kd.C k48 w A0_0 l0_0.length l0_0) (hc0_0 : l0_0.length ≤ c0_0) (h : zdw.f k l0_0 a0_1 = some r) (hG : Glob w) :
  Calls Tryd.prog 58 #[.agg #[.slice A0_0 l0_0.length c0_0, .int .i64 a0_1]] w fun e w' => e = .returned (.bool r) ∧ Below w.heap.size w w' := by
 have hu54 := Tryd.underlying54; have HG := ak_ hG; clear hG; have HR0_0 := ak_ hr0_0; have HC0_0 := ak_ hc0_0; clear hr0_0 hc0_0; have HB := ak_ (Below.refl w.heap.size w); have H : ((zew.f a0_1).bind fun t374 => (if t374 = true then ((zbl.f k l0_0).bind fun t375 => (some t375)) else (some true))) = some r := h; clear h; obtain ⟨t374, A2, H⟩ := bi_ H; try dsimp only at H
 by_cases c3 : t374 = true
 ·subst c3; replace H := ifT_ H; obtain ⟨t375, A4, H⟩ := bi_ H; replace H : (some t375) = some r := H; obtain rfl := Option.some.inj H; go_enter Tryd.func58, Tryd.ntmps58; go_wp2_with (first | ((with_reducible refine gd_ 1 rfl ?_); refine by_ #[.slice A0_0 l0_0.length c0_0, .int .i64 a0_1] 54 ?_; intro gb373 hg w5 BK373 hb; have GE373 := gw_ hg; replace HB := bs_ hb; clear hb hg; have hz6 := bc2_ (w := w5) BK373.out) | ((with_reducible refine gc_ 36 rfl ?_); refine gl_ 5 Tryd.func36 #[.int .i64 a0_1] ?_; (with_reducible refine (zew.calls a0_1 true _ A2.out).mono ?_); rintro e w' ⟨rfl, ⟨nd, rfl⟩⟩; refine ⟨_, rfl, ?_⟩) | (go_at_call 37; (with_reducible refine (zbl.calls k _ _ l0_0  t375 _ ?side1 ?side2 A4.out (by first | exact HG.out | (refine Glob.below HG.out ?_; (exact q0_)) | (repeat (first | exact HG.out | apply Glob.drewN | apply Glob.drew | apply Glob.alloc)))).mono ?_); (case side1 => exact cx_ (Kd.zam HR0_0.out q0_)); (case side2 => exact HC0_0.out); rintro e w7 ⟨rfl, hb⟩; replace BK373 := ak_ (zdj (g := gb373) (o := .cells #[.slice A0_0 l0_0.length c0_0, .int .i64 a0_1] 54 (0, 0)) (by (with_reducible repeat first | apply bN_ | apply bD_ | apply bA_); exact BK373.out) hb); replace HB := bs_ hb; clear hb)); go_ret; exact ⟨q3_, q0_⟩
 ·replace c3 := Bool.eq_false_iff.mpr c3; subst c3; replace H := ifF_ H; obtain rfl := Option.some.inj H; go_enter Tryd.func58, Tryd.ntmps58; go_wp2_with (first | ((with_reducible refine gd_ 1 rfl ?_); refine by_ #[.slice A0_0 l0_0.length c0_0, .int .i64 a0_1] 54 ?_; intro gb373 hg w8 BK373 hb; have GE373 := gw_ hg; replace HB := bs_ hb; clear hb hg; have hz9 := bc2_ (w := w8) BK373.out) | ((with_reducible refine gc_ 36 rfl ?_); refine gl_ 5 Tryd.func36 #[.int .i64 a0_1] ?_; (with_reducible refine (zew.calls a0_1 false _ A2.out).mono ?_); rintro e w' ⟨rfl, ⟨nd, rfl⟩⟩; refine ⟨_, rfl, ?_⟩)); go_ret; exact ⟨q3_, q0_⟩
def zau.l0 : Nat → List (S54) → Int → Int → Option (Int)
 | 0, _, _, _ => none
 | k + 1, x0, x7, x8 => if x8 < x7 then (if 0 ≤ x8 then (if x8 < (x0.length : Int) then ((zdw.f k ((zah x0 x8).f0) ((zah x0 x8).f1)).bind fun t377 => (if t377 = true then (some x8) else (zau.l0 k x0 x7 (wrap64 (x8 + 1))))) else (none)) else (none)) else (some (-1))
def zau.f (k : Nat) (l0 : List (S54))  : Option (Int) := zau.l0 k l0 (l0.length : Int) 0
theorem zau.zci : ∀ k, (∀ y0 y1 y2, LeO (zau.l0 k y0 y1 y2) (zau.l0 (k + 1) y0 y1 y2))
 | 0 => fun _ _ _ r h => by simp [zau.l0] at h
 | k + 1 => by
  have ih0 := zau.zci k
  ·intro y0 y1 y2
   unfold zau.l0
   with_reducible repeat' first
   | apply ih0
   | apply zdw.mono
   | apply LeO.refl
   | apply LeO.none
   | refine LeO.ite ?_ ?_
   | refine LeO.bind ?_ (fun _ => ?_)
theorem zau.mono : ∀ a0 k, LeO (zau.f k a0) (zau.f (k + 1) a0) := by
 intro a0 k
 have ih0 := zau.zci k
 unfold zau.f
 with_reducible repeat' first
   | apply ih0
   | apply zdw.mono
   | apply LeO.refl
   | apply LeO.none
   | refine LeO.ite ?_ ?_
   | refine LeO.bind ?_ (fun _ => ?_)
theorem zau.calls (k : Nat) (A0 : Option Addr) (c0 : Nat) (l0 : List (S54))  (r : Int) (w : World) (hr0 : Kd.C k54 w A0 l0.length l0) (hc0 : l0.length ≤ c0) (h : zau.f k l0 = some r) (hG : Glob w) :
  Calls Tryd.prog 72 #[.slice A0 l0.length c0, (.func (.func 58) #[] #[])] w fun e w' => e = .returned (.int .i64 r) ∧ Below w.heap.size w w' := by
 have hu54 := Tryd.underlying54; have HG := ak_ hG; clear hG; have HR0 := ak_ hr0; have HC0 := ak_ hc0; clear hr0 hc0; have HB := ak_ (Below.refl w.heap.size w); have H : (zau.l0 k l0 (l0.length : Int) 0) = some r := h; clear h; have H' := ak_ H; clear H; go_enter Tryd.func72, Tryd.ntmps72; go_wp2; go_loopg [8] k (fun kq v8 w' => ∃ (x8_1 : Int), v8 = .int .i64 x8_1 ∧ zag (zau.l0 kq l0 (l0.length : Int) x8_1 = some r) ∧ zag (kq ≤ k) ∧ zag (Below w.heap.size w w'))
 case atStart => exact ⟨(0), q6_, H', ⟨Nat.le_refl _⟩, ⟨q0_⟩⟩
 case round =>
  clear H'; obtain ⟨x8_1, rfl, HA, HK1, HB⟩ := hrel
  cases gk with
  | zero => exact absurd HA.out (by simp [zau.l0])
  | succ k1 =>
   have H := HA.out; clear HA; simp only [zau.l0] at H
   by_cases c3 : x8_1 < (l0.length : Int)
   ·rw [if_pos c3] at H; have c3b0 := decide_eq_true c3; clear c3
    by_cases c4 : 0 ≤ x8_1
    ·rw [if_pos c4] at H; have c4b0 := decide_eq_true c4; clear c4
     by_cases c5 : x8_1 < (l0.length : Int)
     ·rw [if_pos c5] at H; have c5b0 := decide_eq_true c5; clear c5; obtain ⟨t377, A6, H⟩ := bi_ H; try dsimp only at H
      have p376 : 0 ≤ (x8_1 : Int) := of_decide_eq_true q5_; have q376 : x8_1 < (l0.length : Int) := of_decide_eq_true q5_; obtain ⟨ad376, A376_0, c376_0, e376, hx376_0, hx376_1, hl376_0, hi376_0⟩ := zfw HR0.out x8_1 p376 q376; cases e376; replace hx376_0 := hc_ HB.out hx376_0; replace hx376_1 := hc_ HB.out hx376_1; have HR376_0 := ak_ hi376_0; have HC376_0 := ak_ hl376_0; clear hi376_0 hl376_0; replace p376 := eq_true p376; replace q376 := eq_true q376
      by_cases c7 : t377 = true
      ·subst c7; replace H := ifT_ H; obtain rfl := Option.some.inj H; go_wp2_with (first | ((with_reducible refine zej (t := 11) rfl ?_); refine ziz (some 16) rfl rfl Tryd.func58 (by kernel_rfl) rfl #[.agg #[.slice A376_0 ((zah l0 x8_1).f0).length c376_0, .int .i64 ((zah l0 x8_1).f1)]] rfl (by rfl) q2_ ?_; (with_reducible refine ca_ (zdw.calls k1 _ _ ((zah l0 x8_1).f0) ((zah l0 x8_1).f1) true _ ?side1 HC376_0.out A6.out q11_) ?_); (case side1 => exact cx_ (Kd.zam HR376_0.out HB.out)); intro w8 hb; replace HB := bs_ hb; clear hb)); go_ret; exact ⟨q3_, q0_⟩
      ·replace c7 := Bool.eq_false_iff.mpr c7; subst c7; replace H := ifF_ H; have H' := ak_ H; clear H; go_wp2_with (first | ((with_reducible refine zej (t := 11) rfl ?_); refine ziz (some 16) rfl rfl Tryd.func58 (by kernel_rfl) rfl #[.agg #[.slice A376_0 ((zah l0 x8_1).f0).length c376_0, .int .i64 ((zah l0 x8_1).f1)]] rfl (by rfl) q2_ ?_; (with_reducible refine ca_ (zdw.calls k1 _ _ ((zah l0 x8_1).f0) ((zah l0 x8_1).f1) false _ ?side1 HC376_0.out A6.out q11_) ?_); (case side1 => exact cx_ (Kd.zam HR376_0.out HB.out)); intro w9 hb; replace HB := bs_ hb; clear hb)); go_roundg k1
       case measure => have := HK1.out; omega
       case rel => exact ⟨(wrap64 (x8_1 + 1)), q6_, H', ⟨kq_⟩, ⟨q0_⟩⟩
     ·rw [if_neg c5] at H; exact absurd H (by simp)
    ·rw [if_neg c4] at H; exact absurd H (by simp)
   ·rw [if_neg c3] at H; have c3b0 := decide_eq_false c3; clear c3; obtain rfl := Option.some.inj H; go_wp2; go_ret; exact ⟨q3_, q0_⟩
def zcc.f (k : Nat) (l0 : List (S54))  : Option (Bool) := (zau.f k l0).bind fun t378 => (some (decide (t378 ≥ 0)))
theorem zcc.mono : ∀ a0 k, LeO (zcc.f k a0) (zcc.f (k + 1) a0) := by
 intro a0 k
 unfold zcc.f
 with_reducible repeat' first
   | apply zau.mono
   | apply LeO.refl
   | apply LeO.none
   | refine LeO.ite ?_ ?_
   | refine LeO.bind ?_ (fun _ => ?_)
theorem zcc.calls (k : Nat) (A0 : Option Addr) (c0 : Nat) (l0 : List (S54))  (r : Bool) (w : World) (hr0 : Kd.C k54 w A0 l0.length l0) (hc0 : l0.length ≤ c0) (h : zcc.f k l0 = some r) (hG : Glob w) :
  Calls Tryd.prog 41 #[.slice A0 l0.length c0, (.func (.func 58) #[] #[])] w fun e w' => e = .returned (.bool r) ∧ Below w.heap.size w w' := by
 have HG := ak_ hG; clear hG; have HR0 := ak_ hr0; have HC0 := ak_ hc0; clear hr0 hc0; have HB := ak_ (Below.refl w.heap.size w); have H : ((zau.f k l0).bind fun t378 => (some (decide (t378 ≥ 0)))) = some r := h; clear h; obtain ⟨t378, A3, H⟩ := bi_ H; replace H : (some (decide (t378 ≥ 0))) = some r := H; obtain rfl := Option.some.inj H; go_enter Tryd.func41, Tryd.ntmps41; go_wp2_with (first | ((with_reducible refine gc_ 72 rfl ?_); refine gl_ 7 Tryd.func72 #[.slice A0 l0.length c0, (.func (.func 58) #[] #[])] ?_; (with_reducible refine ca_ (zau.calls k _ _ l0  t378 _ ?side1 HC0.out A3.out q11_) ?_); (case side1 => exact cx_ HR0.out); intro w4 hb; replace HB := bs_ hb; clear hb)); go_ret; exact ⟨q3_, q0_⟩
def zfi.f (k : Nat) (l0_0 : List (S48)) (a0_1 : Int) (l1_0 : List (S48)) (a1_1 : Int) : Option (Int) := (zbp.f k l0_0 l1_0).bind fun t381 => (some t381)
theorem zfi.mono : ∀ a0 a1 a2 a3 k, LeO (zfi.f k a0 a1 a2 a3) (zfi.f (k + 1) a0 a1 a2 a3) := by
 intro a0 a1 a2 a3 k
 unfold zfi.f
 with_reducible repeat' first
   | apply zbp.mono
   | apply LeO.refl
   | apply LeO.none
   | refine LeO.ite ?_ ?_
   | refine LeO.bind ?_ (fun _ => ?_)
theorem zfi.calls (k : Nat) (A0_0 : Option Addr) (c0_0 : Nat) (l0_0 : List (S48)) (a0_1 : Int) (A1_0 : Option Addr) (c1_0 : Nat) (l1_0 : List (S48)) (a1_1 : Int) (r : Int) (w : World) (hr0_0 : Kd.C k48 w A0_0 l0_0.length l0_0) (hc0_0 : l0_0.length ≤ c0_0) (hr1_0 : Kd.C k48 w A1_0 l1_0.length l1_0) (hc1_0 : l1_0.length ≤ c1_0) (h : zfi.f k l0_0 a0_1 l1_0 a1_1 = some r) :
  Calls Tryd.prog 60 #[.agg #[.slice A0_0 l0_0.length c0_0, .int .i64 a0_1], .agg #[.slice A1_0 l1_0.length c1_0, .int .i64 a1_1]] w fun e w' => e = .returned (.int .i64 r) ∧ Below w.heap.size w w' := by
 have hu54 := Tryd.underlying54; have HR0_0 := ak_ hr0_0; have HC0_0 := ak_ hc0_0; clear hr0_0 hc0_0; have HR1_0 := ak_ hr1_0; have HC1_0 := ak_ hc1_0; clear hr1_0 hc1_0; have HB := ak_ (Below.refl w.heap.size w); have H : ((zbp.f k l0_0 l1_0).bind fun t381 => (some t381)) = some r := h; clear h; obtain ⟨t381, A3, H⟩ := bi_ H; replace H : (some t381) = some r := H; obtain rfl := Option.some.inj H; go_enter Tryd.func60, Tryd.ntmps60; go_wp2_with (first | ((with_reducible refine gd_ 2 rfl ?_); refine by_ #[.slice A0_0 l0_0.length c0_0, .int .i64 a0_1] 54 ?_; intro gb379 hg w4 BK379 hb; have GE379 := gw_ hg; replace HB := bs_ hb; clear hb hg) | ((with_reducible refine gd_ 3 rfl ?_); refine by_ #[.slice A1_0 l1_0.length c1_0, .int .i64 a1_1] 54 ?_; intro gb380 hg w5 BK380 hb; have GE380 := gw_ hg; have NB379_380 := nl_ hg q201_; have NB380_379 := ne_ NB379_380; replace BK379 := bb_ q201_ hb; replace HB := bs_ hb; clear hb hg; have hn6 := np_ NB379_380; have hz7 := bc2_ (w := w5) BK379.out; have hz8 := bc2_ (w := w5) BK380.out) | ((with_reducible refine gc_ 39 rfl ?_); refine gl_ 9 Tryd.func39 #[.slice A0_0 l0_0.length c0_0, .slice A1_0 l1_0.length c1_0] ?_; (with_reducible refine ca_ (zbp.calls k _ _ l0_0 _ _ l1_0 t381 _ ?side1 HC0_0.out ?side3 HC1_0.out A3.out) ?_); (case side1 => exact cx_ (Kd.zam HR0_0.out HB.out)); (case side3 => exact cx_ (Kd.zam HR1_0.out HB.out)); intro w9 hb; replace BK379 := bb_ q201_ hb; replace BK380 := ak_ (zdj (g := gb380) (o := .cells #[.slice A1_0 l1_0.length c1_0, .int .i64 a1_1] 54 (0, 0)) (by (with_reducible repeat first | apply bN_ | apply bD_ | apply bA_); exact BK380.out) hb); replace HB := bs_ hb; clear hb)); go_ret; exact ⟨q3_, q0_⟩
def sv_i (a b : Int) : Int := if a < b then -1 else if a > b then 1 else 0
def sv_b (a b : ByteArray) : Int := if Op.bytesLess a.toList b.toList = true then -1 else if Op.bytesLess b.toList a.toList = true then 1 else 0
def sv_o (a b c : Int) : Int := if a = 0 then (if b = 0 then c else b) else a
def sv_v (a b : S48) : Int := sv_o (sv_i a.f0 b.f0) (sv_i a.f1 b.f1) (sv_b a.f2 b.f2)
def zhk : List S48 → List S48 → Int
 | [], [] => 0
 | [], _ :: _ => -1
 | _ :: _, [] => 1
 | a :: l, b :: m => if sv_v a b = 0 then zhk l m else sv_v a b
def sv_lt (x y : S54) : Bool := decide (zhk x.f0 y.f0 < 0)
instance sv_inh : Inhabited S54 := ⟨z54⟩
def sv_ok (k : Nat) (l : List S54) : Prop := l.length ≤ 1000000 ∧ ∀ x ∈ z54 :: l, ∀ y ∈ z54 :: l, zfi.f k x.f0 x.f1 y.f0 y.f1 = some (zhk x.f0 y.f0)
instance sv_dec (k : Nat) (l : List S54) : Decidable (sv_ok k l) := by unfold sv_ok; infer_instance
def zbu.f (k : Nat) (l0 : List S54) : Option (List S54) := if sv_ok k l0 then some (Go.Stb.stable sv_lt l0.toArray).toList else none
theorem zbu.mono : ∀ a0 k, LeO (zbu.f k a0) (zbu.f (k + 1) a0) := by
 intro l k r h
 unfold zbu.f at h ⊢
 split at h
 ·rename_i hk
  rw [if_pos ⟨hk.1, fun x hx y hy => zfi.mono _ _ _ _ k _ (hk.2 x hx y hy)⟩]
  exact h
 ·cases h
theorem zbu.calls (k : Nat) (ok : Nat → Prop) (P_ : Nat → Prop) (u : Value) (l0 r : List S54) (w0 w : World) (hB : Below w0.heap.size w0 w) (ho : Kd.N k54 54 w w0.heap.size ok u l0 ∧ ∀ k, some k = u.ownBlock → P_ k) (h : zbu.f k l0 = some r) :
  Calls Tryd.prog 49 #[u, (.func (.func 60) #[] #[])] w fun e w' => e = .returned (.tuple #[]) ∧ Kd.N k54 54 w' w0.heap.size ok u r ∧ Below w0.heap.size w0 w' ∧ Kept w w' P_ := by
 unfold zbu.f at h; split at h
 case isFalse => cases h
 rename_i hk; injection h with h
 subst h
 exact sort_N (d := k54) (show Go.Proofs.Stb.zfg Tryd.prog k54.sz from Go.Proofs.Stb.stLays) 60 (fun x y => zhk x.f0 y.f0) _ (fun W ok => ziu W ok z54 (A0 := none) (c0 := 0) (Nat.le_refl _) (Kd.F_nil _ _ _)) l0
  (fun args w => enters_of Tryd.func60 (by decide) rfl args w) Tryd.underlying104
  (fun x hx y hy W cx cy kx ky => by
   obtain ⟨A0, c0, rfl, h1, h2⟩ := zhw kx; obtain ⟨A1, c1, rfl, h3, h4⟩ := zhw ky; exact zfi.calls k A0 c0 x.f0 x.f1 A1 c1 y.f0 y.f1 _ W h2 h1 h4 h3 (hk.2 x hx y hy))
  hk.1 P_ u w0 w hB ho.1 ho.2

end Go.Proofs.YtnggdcdiachkpaaDoor.P
