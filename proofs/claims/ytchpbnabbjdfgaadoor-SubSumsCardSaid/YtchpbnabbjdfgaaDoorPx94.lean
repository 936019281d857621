-- HALVED
import Derived.Test.YtchpbnabbjdfgaaDoorPx0
import Derived.Test.YtchpbnabbjdfgaaDoorPx23
import Derived.Test.YtchpbnabbjdfgaaDoorPx70
import Derived.Test.YtchpbnabbjdfgaaDoorPx82
import Derived.Test.YtchpbnabbjdfgaaDoorPx83
namespace Go.Proofs.YtchpbnabbjdfgaaDoor.P
open Go.RowKit Go.Proofs.YtchpbnabbjdfgaaDoorW.PrintWords Go.Proofs.YtchpbnabbjdfgaaDoorW.PrintLast Go.Proofs.YtchpbnabbjdfgaaDoorW.PrintMore
attribute [local go_sem] zdz zer zel zem zdi zdj zea zeb   -- for this text's walks alone
set_option linter.unusedVariables false
set_option linter.unusedSimpArgs false
set_option maxHeartbeats 8000000
set_option maxRecDepth 100000

abbrev b94_3 := sb_ (bz 7 2) 3
mutual
def zbq.j0 : Nat → Bool → Int → Int → List (S56) → Int → Int → List (S41) → Int → Int → Int → Int → Int → List (S56) → Option (Int × Int × (List (S56)) × Int × Int × (List (S41)))
 | 0, _, _, _, _, _, _, _, _, _, _, _, _, _ => none
 | k + 1, x21, x244000, x244001, x244002, x244003, x244004, x244005, x245000, x245001, x245002, x245003, x245004, x245005 => if x21 = true then (some (x244000, x244001, x244002, x244003, x244004, x244005)) else (if x245000 = 1 then ((zck.f k x244002 x245005).bind fun bt248 => (if x245002 = (wrap64 (x244001 + 1)) then (zbq.j1 k bt248.1 (bt248.2 != 0) x244000 x244001 x244002 x244003 x244004 x244005 x245000 x245001 x245002 x245003 x245004 x245005) else (zbq.j1 k bt248.1 true x244000 x244001 x244002 x244003 x244004 x244005 x245000 x245001 x245002 x245003 x245004 x245005))) else (if x245000 = 2 then (if x245002 > x244001 then ((zbx.f k x244000 x244001 x244002 x244003 x244004 x244005 x245000 x245001 x245002 x245003 x245004 x245005).bind fun bt262 => (some (bt262.1, bt262.2.1, bt262.2.2.1, bt262.2.2.2.1, bt262.2.2.2.2.1, bt262.2.2.2.2.2))) else (some (x244000, x244001, x244002, x244003, x244004, x244005))) else (some (x244000, x244001, x244002, x244003, x244004, x244005))))
def zbq.j1 : Nat → List (S56) → Bool → Int → Int → List (S56) → Int → Int → List (S41) → Int → Int → Int → Int → Int → List (S56) → Option (Int × Int × (List (S56)) × Int × Int × (List (S41)))
 | 0, _, _, _, _, _, _, _, _, _, _, _, _, _, _ => none
 | k + 1, x5, x44, x244000, x244001, x244002, x244003, x244004, x244005, x245000, x245001, x245002, x245003, x245004, x245005 => if x44 = true then (some (x244000, x244001, x244002, x244003, x244004, x244005)) else (if x244003 ≤ x245002 then ((sub_idle.f x244000 x245002 x5 x244003 x244004 x244005).bind fun bt252 => (some (bt252.1, bt252.2.1, bt252.2.2.1, bt252.2.2.2.1, bt252.2.2.2.2.1, bt252.2.2.2.2.2))) else (some (x244000, x245002, x5, x244003, x244004, x244005)))
end
def zbq.f (k : Nat) (a0_0 : Int) (a0_1 : Int) (l0_2 : List (S56)) (a0_3 : Int) (a0_4 : Int) (l0_5 : List (S41)) (a1_0 : Int) (a1_1 : Int) (a1_2 : Int) (a1_3 : Int) (a1_4 : Int) (l1_5 : List (S56)) : Option (Int × Int × (List (S56)) × Int × Int × (List (S41))) := (zax.f k a0_0 a0_1 l0_2 a0_3 a0_4 l0_5).bind fun t246 => (if t246 = true then ((zbc.f k a1_0 a1_1 a1_2 a1_3 a1_4 l1_5).bind fun t247 => (if t247 = true then (zbq.j0 k (a1_1 != a0_0) a0_0 a0_1 l0_2 a0_3 a0_4 l0_5 a1_0 a1_1 a1_2 a1_3 a1_4 l1_5) else (zbq.j0 k true a0_0 a0_1 l0_2 a0_3 a0_4 l0_5 a1_0 a1_1 a1_2 a1_3 a1_4 l1_5))) else (zbq.j0 k true a0_0 a0_1 l0_2 a0_3 a0_4 l0_5 a1_0 a1_1 a1_2 a1_3 a1_4 l1_5))
theorem zbq.zch : ∀ k, (∀ y0 y1 y2 y3 y4 y5 y6 y7 y8 y9 y10 y11 y12, LeO (zbq.j0 k y0 y1 y2 y3 y4 y5 y6 y7 y8 y9 y10 y11 y12) (zbq.j0 (k + 1) y0 y1 y2 y3 y4 y5 y6 y7 y8 y9 y10 y11 y12)) ∧ (∀ y0 y1 y2 y3 y4 y5 y6 y7 y8 y9 y10 y11 y12 y13, LeO (zbq.j1 k y0 y1 y2 y3 y4 y5 y6 y7 y8 y9 y10 y11 y12 y13) (zbq.j1 (k + 1) y0 y1 y2 y3 y4 y5 y6 y7 y8 y9 y10 y11 y12 y13))
 | 0 => ⟨fun _ _ _ _ _ _ _ _ _ _ _ _ _ r h => by simp [zbq.j0] at h, fun _ _ _ _ _ _ _ _ _ _ _ _ _ _ r h => by simp [zbq.j1] at h⟩
 | k + 1 => by
  obtain ⟨ih0, ih1⟩ := zbq.zch k
  refine ⟨?_, ?_⟩
  all_goals intros
  all_goals first
   | unfold zbq.j0
   | unfold zbq.j1
  all_goals with_reducible repeat' first
   | apply ih0
   | apply ih1
   | apply zbc.mono
   | apply zck.mono
   | apply zax.mono
   | apply zbx.mono
   | apply LeO.refl
   | apply LeO.none
   | refine LeO.ite ?_ ?_
   | refine LeO.bind ?_ (fun _ => ?_)
theorem zbq.mono : ∀ a0 a1 a2 a3 a4 a5 a6 a7 a8 a9 a10 a11 k, LeO (zbq.f k a0 a1 a2 a3 a4 a5 a6 a7 a8 a9 a10 a11) (zbq.f (k + 1) a0 a1 a2 a3 a4 a5 a6 a7 a8 a9 a10 a11) := by
 intro a0 a1 a2 a3 a4 a5 a6 a7 a8 a9 a10 a11 k
 obtain ⟨ih0, ih1⟩ := zbq.zch k
 unfold zbq.f
 with_reducible repeat' first
   | apply ih0
   | apply ih1
   | apply zbc.mono
   | apply zck.mono
   | apply zax.mono
   | apply zbx.mono
   | apply LeO.refl
   | apply LeO.none
   | refine LeO.ite ?_ ?_
   | refine LeO.bind ?_ (fun _ => ?_)
theorem zbq.calls (k : Nat) (a0_0 : Int) (a0_1 : Int) (P0_2_ : Nat → Prop) (A0_2 : Option Addr) (c0_2 : Nat) (l0_2 : List (S56)) (a0_3 : Int) (a0_4 : Int) (P0_5_ : Nat → Prop) (A0_5 : Option Addr) (c0_5 : Nat) (l0_5 : List (S41)) (a1_0 : Int) (a1_1 : Int) (a1_2 : Int) (a1_3 : Int) (a1_4 : Int) (P1_5_ : Nat → Prop) (A1_5 : Option Addr) (c1_5 : Nat) (l1_5 : List (S56)) (r1 : Int) (r2 : Int) (r3 : List (S56)) (r4 : Int) (r5 : Int) (r6 : List (S41)) (w : World) (hs0_2 : Kd.V k56 56 w w.heap.size (fun k_ => P0_2_ k_) (.slice A0_2 l0_2.length c0_2) l0_2) (hs0_5 : Kd.V k41 41 w w.heap.size (fun k_ => P0_5_ k_) (.slice A0_5 l0_5.length c0_5) l0_5) (hs1_5 : Kd.V k56 56 w w.heap.size (fun k_ => P1_5_ k_) (.slice A1_5 l1_5.length c1_5) l1_5) (h : zbq.f k a0_0 a0_1 l0_2 a0_3 a0_4 l0_5 a1_0 a1_1 a1_2 a1_3 a1_4 l1_5 = some (r1, r2, r3, r4, r5, r6)) (hG : Glob w) :
  Calls Tryd.prog 16 #[.agg #[.int .i64 a0_0, .int .i64 a0_1, .slice A0_2 l0_2.length c0_2, .int .i64 a0_3, .int .i64 a0_4, .slice A0_5 l0_5.length c0_5], .agg #[.int .i64 a1_0, .int .i64 a1_1, .int .i64 a1_2, .int .i64 a1_3, .int .i64 a1_4, .slice A1_5 l1_5.length c1_5]] w fun e w' => ∃ v2_ v5_ : Value, e = .returned (.agg #[.int .i64 r1, .int .i64 r2, v2_, .int .i64 r4, .int .i64 r5, v5_]) ∧ Kd.V k56 56 w' w.heap.size (fun k_ => ((P0_2_ k_ ∨ P0_5_ k_ ∨ P1_5_ k_) ∨ w.heap.size ≤ k_)) v2_ r3 ∧ Kd.V k41 41 w' w.heap.size (fun k_ => ((P0_2_ k_ ∨ P0_5_ k_ ∨ P1_5_ k_) ∨ w.heap.size ≤ k_)) v5_ r6 ∧ Below w.heap.size w w' := by
 have hu33 := Tryd.underlying33
 have hu41 := Tryd.underlying41
 have HG := ak_ hG
 clear hG
 have HO0_2 := ak_ (show Kd.V k56 56 w w.heap.size (fun k_ => ((P0_2_ k_ ∨ P0_5_ k_ ∨ P1_5_ k_) ∨ w.heap.size ≤ k_)) (.slice A0_2 l0_2.length c0_2) l0_2 from Kd.zao hs0_2 (fun k_ hk => .inl (.inl hk)))
 have HO0_5 := ak_ (show Kd.V k41 41 w w.heap.size (fun k_ => ((P0_2_ k_ ∨ P0_5_ k_ ∨ P1_5_ k_) ∨ w.heap.size ≤ k_)) (.slice A0_5 l0_5.length c0_5) l0_5 from Kd.zao hs0_5 (fun k_ hk => .inl (.inr (.inl hk))))
 have HO1_5 := ak_ (show Kd.V k56 56 w w.heap.size (fun k_ => ((P0_2_ k_ ∨ P0_5_ k_ ∨ P1_5_ k_) ∨ w.heap.size ≤ k_)) (.slice A1_5 l1_5.length c1_5) l1_5 from Kd.zao hs1_5 (fun k_ hk => .inl (.inr (.inr hk))))
 have HB := ak_ (Below.refl w.heap.size w)
 have H := h
 unfold zbq.f at H
 clear h
 have HC3 := ak_ H
 clear H
 go_enter Tryd.func16, Tryd.ntmps16
 go_upto_region 1 with (first | ((with_reducible refine gd_ 2 rfl ?_); refine by_ #[.int .i64 a0_0, .int .i64 a0_1, .slice A0_2 l0_2.length c0_2, .int .i64 a0_3, .int .i64 a0_4, .slice A0_5 l0_5.length c0_5] 33 ?_; intro gb243 hg w4 BK243 hb; have GE243 := ak_ (q2_ : w.heap.size ≤ gb243); replace HO0_2 := Ve_ q37_ hg hb; replace HO0_5 := Ve_ q38_ hg hb; replace HO1_5 := Ve_ q72_ hg hb; replace HB := bs_ hb; clear hb hg) | ((with_reducible refine gd_ 3 rfl ?_); refine by_ #[.int .i64 a1_0, .int .i64 a1_1, .int .i64 a1_2, .int .i64 a1_3, .int .i64 a1_4, .slice A1_5 l1_5.length c1_5] 41 ?_; intro gb244 hg w5 BK244 hb; have GE244 := ak_ (q2_ : w.heap.size ≤ gb244); have NB243_244 := nl_ hg q36_; have NB244_243 := ne_ NB243_244; replace HO0_2 := Ve_ q37_ hg hb; replace HO0_5 := Ve_ q38_ hg hb; replace HO1_5 := Ve_ q72_ hg hb; replace BK243 := bb_ q36_ hb; replace HB := bs_ hb; clear hb hg) | ((with_reducible refine gd_ 4 rfl ?_); refine by_ #[.int .i64 0, .int .i64 0, .slice none 0 0, .int .i64 0, .int .i64 0, .slice none 0 0] 33 ?_; intro gb245 hg w6 BK245 hb; have GE245 := ak_ (q2_ : w.heap.size ≤ gb245); have NB243_245 := nl_ hg q36_; have NB245_243 := ne_ NB243_245; have NB244_245 := ak_ ((by rw [hg]; exact Nat.ne_of_lt (zdh (g := gb244) (o := .cells #[.int .i64 a1_0, .int .i64 a1_1, .int .i64 a1_2, .int .i64 a1_3, .int .i64 a1_4, .slice A1_5 l1_5.length c1_5] 41 (0, 0)) (by (with_reducible repeat first | apply bN_ | apply bD_ | apply bA_); exact BK244.out)) : gb244 ≠ gb245)); have NB245_244 := ak_ ((by rw [hg]; exact Nat.ne_of_gt (zdh (g := gb244) (o := .cells #[.int .i64 a1_0, .int .i64 a1_1, .int .i64 a1_2, .int .i64 a1_3, .int .i64 a1_4, .slice A1_5 l1_5.length c1_5] 41 (0, 0)) (by (with_reducible repeat first | apply bN_ | apply bD_ | apply bA_); exact BK244.out)) : gb245 ≠ gb244)); replace HO0_2 := Ve_ q37_ hg hb; replace HO0_5 := Ve_ q38_ hg hb; replace HO1_5 := Ve_ q72_ hg hb; replace BK243 := bb_ q36_ hb; replace BK244 := bb_ q39_ hb; replace HB := bs_ hb; clear hb hg))
 (try simp only [Act.put, List.setIfInBounds_toArray, List.set_cons_zero, List.set_cons_succ])
 go_cut [21] (fun v21 wc => ∃ (kq : Nat) (x21_2 : Bool), v21 = .bool x21_2 ∧ zab (zbq.j0 kq x21_2 a0_0 a0_1 l0_2 a0_3 a0_4 l0_5 a1_0 a1_1 a1_2 a1_3 a1_4 l1_5 = some (r1, r2, r3, r4, r5, r6)) ∧ zab (kq ≤ k) ∧ zab (Kd.V k56 56 wc w.heap.size (fun k_ => ((P0_2_ k_ ∨ P0_5_ k_ ∨ P1_5_ k_) ∨ w.heap.size ≤ k_) ∧ k_ ≠ gb243 ∧ k_ ≠ gb244 ∧ k_ ≠ gb245) (.slice A0_2 l0_2.length c0_2) l0_2) ∧ zab (Kd.V k41 41 wc w.heap.size (fun k_ => ((P0_2_ k_ ∨ P0_5_ k_ ∨ P1_5_ k_) ∨ w.heap.size ≤ k_) ∧ k_ ≠ gb243 ∧ k_ ≠ gb244 ∧ k_ ≠ gb245) (.slice A0_5 l0_5.length c0_5) l0_5) ∧ zab (Kd.V k56 56 wc w.heap.size (fun k_ => ((P0_2_ k_ ∨ P0_5_ k_ ∨ P1_5_ k_) ∨ w.heap.size ≤ k_) ∧ k_ ≠ gb243 ∧ k_ ≠ gb244 ∧ k_ ≠ gb245) (.slice A1_5 l1_5.length c1_5) l1_5) ∧ zab (wc.heap[gb243]? = some (.cells #[.int .i64 a0_0, .int .i64 a0_1, (.slice A0_2 l0_2.length c0_2), .int .i64 a0_3, .int .i64 a0_4, (.slice A0_5 l0_5.length c0_5)] 33 (0, 0))) ∧ zab (wc.heap[gb244]? = some (.cells #[.int .i64 a1_0, .int .i64 a1_1, .int .i64 a1_2, .int .i64 a1_3, .int .i64 a1_4, (.slice A1_5 l1_5.length c1_5)] 41 (0, 0))) ∧ zab (wc.heap[gb245]? = some (.cells #[.int .i64 0, .int .i64 0, (.slice none 0 0), .int .i64 0, .int .i64 0, (.slice none 0 0)] 33 (0, 0))) ∧ zab (Below w.heap.size w wc))
 case first =>
  have H := HC3.out
  clear HC3
  obtain ⟨t246, A7, H⟩ := bi_ H
  try dsimp only at H
  have hn11 := np_ NB243_244
  have hn12 := np_ NB243_245
  have hcz13_0 : w6.cell? ⟨gb243, 0, none⟩ = some (.int .i64 a0_0) := bt_ BK243.out 0
  have hcz13_1 : w6.cell? ⟨gb243, 1, none⟩ = some (.int .i64 a0_1) := bt_ BK243.out 1
  have hcz13_2 : w6.cell? ⟨gb243, 2, none⟩ = some (.slice A0_2 l0_2.length c0_2) := bt_ BK243.out 2
  have hcz13_3 : w6.cell? ⟨gb243, 3, none⟩ = some (.int .i64 a0_3) := bt_ BK243.out 3
  have hcz13_4 : w6.cell? ⟨gb243, 4, none⟩ = some (.int .i64 a0_4) := bt_ BK243.out 4
  have hcz13_5 : w6.cell? ⟨gb243, 5, none⟩ = some (.slice A0_5 l0_5.length c0_5) := bt_ BK243.out 5
  have hfz13_0 := zaf BK243.out 0
  have hfz13_1 := zaf BK243.out 1
  have hfz13_2 := zaf BK243.out 2
  have hfz13_3 := zaf BK243.out 3
  have hfz13_4 := zaf BK243.out 4
  by_cases c8 : t246 = true
  ·subst c8
   replace H := ifT_ H
   obtain ⟨t247, A9, H⟩ := bi_ H
   try dsimp only at H
   have hfz13_5 := zaf BK243.out 5
   by_cases c10 : t247 = true
   ·subst c10
    replace H := ifT_ H
    have H' := ak_ H
    clear H
    go_wp2_with (first | ((with_reducible refine gc_ 15 rfl ?_); refine zbo (some 8) rfl rfl Tryd.func15 (by kernel_rfl) rfl #[.agg #[.int .i64 a0_0, .int .i64 a0_1, .slice A0_2 l0_2.length c0_2, .int .i64 a0_3, .int .i64 a0_4, .slice A0_5 l0_5.length c0_5]] rfl q3_ ?_; (with_reducible refine ca_ (zax.calls k a0_0 a0_1 _ _ l0_2 a0_3 a0_4 _ _ l0_5 true _ ?side1 ?side2 ?side3 ?side4 A7.out q25_) ?_); (case side1 => exact cx_ ((Kd.zbb HO0_2.out).2.2)); (case side2 => exact (Kd.zbb HO0_2.out).2.1); (case side3 => exact cx_ ((Kd.zbb HO0_5.out).2.2)); (case side4 => exact (Kd.zbb HO0_5.out).2.1); intro w14 hb; replace HO0_2 := Vb_ q37_ hb; replace HO0_5 := Vb_ q38_ hb; replace HO1_5 := Vb_ q72_ hb; replace BK243 := bb_ q36_ hb; replace BK244 := bb_ q39_ hb; replace BK245 := bb_ q46_ hb; replace HB := bs_ hb; clear hb; have hn15 := np_ NB244_245; have hz16 := bc6_ (w := w14) BK244.out) | (go_at_call 37; (with_reducible refine (zbc.calls k a1_0 a1_1 a1_2 a1_3 a1_4 _ _ l1_5 true _ ?side1 ?side2 A9.out q25_).mono ?_); (case side1 => exact cx_ ((Kd.zbb HO1_5.out).2.2)); (case side2 => exact (Kd.zbb HO1_5.out).2.1); rintro e w17 ⟨rfl, hb⟩; replace HO0_2 := Vb_ q37_ hb; replace HO0_5 := Vb_ q38_ hb; replace HO1_5 := Vb_ q72_ hb; replace BK243 := bb_ q36_ hb; replace BK244 := bb_ q39_ hb; replace BK245 := bb_ q46_ hb; replace HB := bs_ hb; clear hb; have hz18 := bc6_ (w := w17) BK244.out; have hz19 := bc6_ (w := w17) BK243.out))
    go_meet
    case rel => exact ⟨_, ((a1_1 != a0_0)), q8_, H', ⟨by first | omega | exact Nat.le_refl _⟩, ⟨q136_⟩, ⟨q135_⟩, ⟨q134_⟩, ⟨q36_⟩, ⟨q39_⟩, ⟨q46_⟩, ⟨q0_⟩⟩
   ·replace c10 := Bool.eq_false_iff.mpr c10
    subst c10
    replace H := ifF_ H
    have H' := ak_ H
    clear H
    go_wp2_with (first | ((with_reducible refine gc_ 15 rfl ?_); refine zbo (some 8) rfl rfl Tryd.func15 (by kernel_rfl) rfl #[.agg #[.int .i64 a0_0, .int .i64 a0_1, .slice A0_2 l0_2.length c0_2, .int .i64 a0_3, .int .i64 a0_4, .slice A0_5 l0_5.length c0_5]] rfl q3_ ?_; (with_reducible refine ca_ (zax.calls k a0_0 a0_1 _ _ l0_2 a0_3 a0_4 _ _ l0_5 true _ ?side1 ?side2 ?side3 ?side4 A7.out q25_) ?_); (case side1 => exact cx_ ((Kd.zbb HO0_2.out).2.2)); (case side2 => exact (Kd.zbb HO0_2.out).2.1); (case side3 => exact cx_ ((Kd.zbb HO0_5.out).2.2)); (case side4 => exact (Kd.zbb HO0_5.out).2.1); intro w23 hb; replace HO0_2 := Vb_ q37_ hb; replace HO0_5 := Vb_ q38_ hb; replace HO1_5 := Vb_ q72_ hb; replace BK243 := bb_ q36_ hb; replace BK244 := bb_ q39_ hb; replace BK245 := bb_ q46_ hb; replace HB := bs_ hb; clear hb; have hn24 := np_ NB244_245; have hz25 := bc6_ (w := w23) BK244.out) | (go_at_call 37; (with_reducible refine (zbc.calls k a1_0 a1_1 a1_2 a1_3 a1_4 _ _ l1_5 false _ ?side1 ?side2 A9.out q25_).mono ?_); (case side1 => exact cx_ ((Kd.zbb HO1_5.out).2.2)); (case side2 => exact (Kd.zbb HO1_5.out).2.1); rintro e w26 ⟨rfl, hb⟩; replace HO0_2 := Vb_ q37_ hb; replace HO0_5 := Vb_ q38_ hb; replace HO1_5 := Vb_ q72_ hb; replace BK243 := bb_ q36_ hb; replace BK244 := bb_ q39_ hb; replace BK245 := bb_ q46_ hb; replace HB := bs_ hb; clear hb))
    go_meet
    case rel => exact ⟨_, (true), q8_, H', ⟨by first | omega | exact Nat.le_refl _⟩, ⟨q136_⟩, ⟨q135_⟩, ⟨q134_⟩, ⟨q36_⟩, ⟨q39_⟩, ⟨q46_⟩, ⟨q0_⟩⟩
  ·replace c8 := Bool.eq_false_iff.mpr c8
   subst c8
   replace H := ifF_ H
   have H' := ak_ H
   clear H
   have hfz29_5 := zaf BK243.out 5
   go_wp2_with (first | ((with_reducible refine gc_ 15 rfl ?_); refine zbo (some 8) rfl rfl Tryd.func15 (by kernel_rfl) rfl #[.agg #[.int .i64 a0_0, .int .i64 a0_1, .slice A0_2 l0_2.length c0_2, .int .i64 a0_3, .int .i64 a0_4, .slice A0_5 l0_5.length c0_5]] rfl q3_ ?_; (with_reducible refine ca_ (zax.calls k a0_0 a0_1 _ _ l0_2 a0_3 a0_4 _ _ l0_5 false _ ?side1 ?side2 ?side3 ?side4 A7.out q25_) ?_); (case side1 => exact cx_ ((Kd.zbb HO0_2.out).2.2)); (case side2 => exact (Kd.zbb HO0_2.out).2.1); (case side3 => exact cx_ ((Kd.zbb HO0_5.out).2.2)); (case side4 => exact (Kd.zbb HO0_5.out).2.1); intro w30 hb; replace HO0_2 := Vb_ q37_ hb; replace HO0_5 := Vb_ q38_ hb; replace HO1_5 := Vb_ q72_ hb; replace BK243 := bb_ q36_ hb; replace BK244 := bb_ q39_ hb; replace BK245 := bb_ q46_ hb; replace HB := bs_ hb; clear hb))
   go_meet
   case rel => exact ⟨_, (true), q8_, H', ⟨by first | omega | exact Nat.le_refl _⟩, ⟨q136_⟩, ⟨q135_⟩, ⟨q134_⟩, ⟨q36_⟩, ⟨q39_⟩, ⟨q46_⟩, ⟨q0_⟩⟩
 case rest =>
  clear HC3
  obtain ⟨kq, x21_2, rfl, HA, HJ2, HO_244002, HO_244005, HO_245005, BK243, BK244, BK245, HB⟩ := hcut
  cases kq with
  | zero => exact absurd HA.out (by simp [zbq.j0])
  | succ kj2 =>
   have H := HA.out
   clear HA
   simp only [zbq.j0] at H
   by_cases c31 : x21_2 = true
   ·subst c31
    replace H := ifT_ H
    simp only [Option.some.injEq, Prod.mk.injEq] at H
    obtain ⟨rfl, rfl, rfl, rfl, rfl, rfl⟩ := H
    have hn32 := np_ NB243_244
    have hn33 := np_ NB243_245
    have hz34 := bc6_ (w := wc) BK243.out
    have hn35 := np_ NB245_244
    have hz36 := bc6_ (w := wc) BK245.out
    go_wp2
    refine bodyPost_ret (results_cell_row rfl _ _ gb245 33 #[.int .i64 a0_0, .int .i64 a0_1, .slice A0_2 l0_2.length c0_2, .int .i64 a0_3, .int .i64 a0_4, .slice A0_5 l0_5.length c0_5] (0, 0) _ rfl q16_ Tryd.underlying33 rfl (by kernel_rfl)) rfl ?_
    exact ⟨_, _, q5_, q48_, q47_, q0_⟩
   ·replace c31 := Bool.eq_false_iff.mpr c31
    subst c31
    replace H := ifF_ H
    by_cases c37 : a1_0 = 1
    ·rw [if_pos c37] at H
     have c37b0 := bq_ c37
     have c37b1 := bq0_ c37
     clear c37
     obtain ⟨⟨t248, t251⟩, A38, H⟩ := bi_ H
     try dsimp only at H
     have HC39 := ak_ H
     clear H
     have hn40 := np_ NB244_243
     have hn41 := np_ NB244_245
     have hz42 := bc6_ (w := wc) BK244.out
     have hn43 := np_ NB243_245
     have hz44 := bc6_ (w := wc) BK243.out
     go_upto_region 6 with (first | ((with_reducible refine gc_ 10 rfl ?_); refine zbo (some 32) rfl rfl Tryd.func10 (by kernel_rfl) rfl #[.slice A0_2 l0_2.length c0_2, .slice A1_5 l1_5.length c1_5] rfl q3_ ?_; (with_reducible refine (zck.calls kj2 (fun k_ => (((P0_2_ k_ ∨ P0_5_ k_ ∨ P1_5_ k_) ∨ w.heap.size ≤ k_) ∧ (k_ ≠ gb243 ∧ (k_ ≠ gb244 ∧ k_ ≠ gb245)))) _ _ l0_2 (fun k_ => (((P0_2_ k_ ∨ P0_5_ k_ ∨ P1_5_ k_) ∨ w.heap.size ≤ k_) ∧ (k_ ≠ gb243 ∧ (k_ ≠ gb244 ∧ k_ ≠ gb245)))) _ _ l1_5 t248 t251 _ ?side1 ?side2 A38.out q25_).mono ?_); (case side1 => exact HO_244002.out); (case side2 => exact HO_245005.out); rintro e w45 ⟨v249, rfl, ho0, hb⟩; refine ⟨_, rfl, ?_⟩; have HO250 := ak_ (Kd.zfc (Kd.zct (ok' := fun k_ => ((P0_2_ k_ ∨ P0_5_ k_ ∨ P1_5_ k_) ∨ w.heap.size ≤ k_) ∧ k_ ≠ gb243 ∧ k_ ≠ gb244 ∧ k_ ≠ gb245) ho0 (fun k_ hk_ => ⟨Or.elim hk_ (fun hs_ => Or.elim hs_ (fun hs_ => hs_.1) (fun hs_ => hs_.1)) (fun hn_ => (.inr (Nat.le_trans (zaj q0_) hn_))), Or.elim hk_ (fun hs_ => Or.elim hs_ (fun hs_ => hs_.2.1) (fun hs_ => hs_.2.1)) (fun hn_ => (Kd.zbs (g := gb243) (o := .cells #[.int .i64 a0_0, .int .i64 a0_1, .slice A0_2 l0_2.length c0_2, .int .i64 a0_3, .int .i64 a0_4, .slice A0_5 l0_5.length c0_5] 33 (0, 0)) q36_ k_ hn_)), Or.elim hk_ (fun hs_ => Or.elim hs_ (fun hs_ => hs_.2.2.1) (fun hs_ => hs_.2.2.1)) (fun hn_ => (Kd.zbs (g := gb244) (o := .cells #[.int .i64 a1_0, .int .i64 a1_1, .int .i64 a1_2, .int .i64 a1_3, .int .i64 a1_4, .slice A1_5 l1_5.length c1_5] 41 (0, 0)) q39_ k_ hn_)), Or.elim hk_ (fun hs_ => Or.elim hs_ (fun hs_ => hs_.2.2.2) (fun hs_ => hs_.2.2.2)) (fun hn_ => (Kd.zbs (g := gb245) (o := .cells #[.int .i64 0, .int .i64 0, .slice none 0 0, .int .i64 0, .int .i64 0, .slice none 0 0] 33 (0, 0)) q46_ k_ hn_))⟩)) (zaj q0_)); replace HO_244002 := ak_ (Kd.zbz q173_ (Kd.zcy ho0) hb); replace HO_244005 := ak_ (Kd.zbz q172_ (Kd.zcy ho0) hb); replace HO_245005 := ak_ (Kd.zbz q171_ (Kd.zcy ho0) hb); replace BK243 := bb_ q36_ hb; replace BK244 := bb_ q39_ hb; replace BK245 := bb_ q46_ hb; replace HB := bs_ hb; clear hb; (try clear ho0)))
     (try simp only [Act.put, List.setIfInBounds_toArray, List.set_cons_zero, List.set_cons_succ])
     go_cut [44] (fun v44 wc => ∃ (kq : Nat) (x44_38 : Bool), v44 = .bool x44_38 ∧ zab (zbq.j1 kq t248 x44_38 a0_0 a0_1 l0_2 a0_3 a0_4 l0_5 a1_0 a1_1 a1_2 a1_3 a1_4 l1_5 = some (r1, r2, r3, r4, r5, r6)) ∧ zab (kq ≤ kj2) ∧ zab (Kd.N k56 56 wc w.heap.size (fun k_ => ((P0_2_ k_ ∨ P0_5_ k_ ∨ P1_5_ k_) ∨ w.heap.size ≤ k_) ∧ k_ ≠ gb243 ∧ k_ ≠ gb244 ∧ k_ ≠ gb245) v249 t248) ∧ zab (Kd.V k56 56 wc w.heap.size (fun k_ => ((P0_2_ k_ ∨ P0_5_ k_ ∨ P1_5_ k_) ∨ w.heap.size ≤ k_) ∧ some k_ ≠ (v249 : Value).ownBlock ∧ k_ ≠ gb243 ∧ k_ ≠ gb244 ∧ k_ ≠ gb245) (.slice A0_2 l0_2.length c0_2) l0_2) ∧ zab (Kd.V k41 41 wc w.heap.size (fun k_ => ((P0_2_ k_ ∨ P0_5_ k_ ∨ P1_5_ k_) ∨ w.heap.size ≤ k_) ∧ some k_ ≠ (v249 : Value).ownBlock ∧ k_ ≠ gb243 ∧ k_ ≠ gb244 ∧ k_ ≠ gb245) (.slice A0_5 l0_5.length c0_5) l0_5) ∧ zab (Kd.V k56 56 wc w.heap.size (fun k_ => ((P0_2_ k_ ∨ P0_5_ k_ ∨ P1_5_ k_) ∨ w.heap.size ≤ k_) ∧ some k_ ≠ (v249 : Value).ownBlock ∧ k_ ≠ gb243 ∧ k_ ≠ gb244 ∧ k_ ≠ gb245) (.slice A1_5 l1_5.length c1_5) l1_5) ∧ zab (wc.heap[gb243]? = some (.cells #[.int .i64 a0_0, .int .i64 a0_1, (.slice A0_2 l0_2.length c0_2), .int .i64 a0_3, .int .i64 a0_4, (.slice A0_5 l0_5.length c0_5)] 33 (0, 0))) ∧ zab (wc.heap[gb244]? = some (.cells #[.int .i64 a1_0, .int .i64 a1_1, .int .i64 a1_2, .int .i64 a1_3, .int .i64 a1_4, (.slice A1_5 l1_5.length c1_5)] 41 (0, 0))) ∧ zab (wc.heap[gb245]? = some (.cells #[.int .i64 0, .int .i64 0, (.slice none 0 0), .int .i64 0, .int .i64 0, (.slice none 0 0)] 33 (0, 0))) ∧ zab (Below w.heap.size w wc))
     case first =>
      have H := HC39.out
      clear HC39
      have hn47 := np_ NB244_243
      have hn48 := np_ NB244_245
      have hz49 := bc6_ (w := w45) BK244.out
      have hn50 := np_ NB243_245
      have hz51 := bc6_ (w := w45) BK243.out
      by_cases c46 : a1_2 = (wrap64 (a0_1 + 1))
      ·rw [if_pos c46] at H
       have c46b0 := bq_ c46
       have c46b1 := bq0_ c46
       clear c46
       (first | rw [c46b0] | (simp only [zhe, zij]; rw [c46b0]) | skip)
       have H' := ak_ H
       clear H
       go_wp2
       go_meet
       case rel => exact ⟨_, ((t251 != 0)), q8_, H', ⟨by have := HJ2.out; first | omega | exact Nat.le_refl _⟩, ⟨by (with_reducible repeat (first | apply Kd.zcx | apply Kd.zda | apply Kd.zdk)); exact HO250.out⟩, ⟨by (with_reducible repeat (first | apply Kd.zbg | apply Kd.zbf | apply Kd.zbl)); exact Kd.zao HO_244002.out (fun _ hk => ⟨hk.1.1, ⟨hk.2, ⟨hk.1.2.1, ⟨hk.1.2.2.1, hk.1.2.2.2⟩⟩⟩⟩)⟩, ⟨by (with_reducible repeat (first | apply Kd.zbg | apply Kd.zbf | apply Kd.zbl)); exact Kd.zao HO_244005.out (fun _ hk => ⟨hk.1.1, ⟨hk.2, ⟨hk.1.2.1, ⟨hk.1.2.2.1, hk.1.2.2.2⟩⟩⟩⟩)⟩, ⟨by (with_reducible repeat (first | apply Kd.zbg | apply Kd.zbf | apply Kd.zbl)); exact Kd.zao HO_245005.out (fun _ hk => ⟨hk.1.1, ⟨hk.2, ⟨hk.1.2.1, ⟨hk.1.2.2.1, hk.1.2.2.2⟩⟩⟩⟩)⟩, ⟨q36_⟩, ⟨q39_⟩, ⟨q46_⟩, ⟨q0_⟩⟩
      ·rw [if_neg c46] at H
       have c46b0 := bn_ c46
       have c46b1 := bn1_ c46
       (first | rw [c46b0] | (simp only [zhe, zij]; rw [c46b0]) | skip)
       have H' := ak_ H
       clear H
       go_wp2
       go_meet
       case rel => exact ⟨_, (true), q8_, H', ⟨by have := HJ2.out; first | omega | exact Nat.le_refl _⟩, ⟨by (with_reducible repeat (first | apply Kd.zcx | apply Kd.zda | apply Kd.zdk)); exact HO250.out⟩, ⟨by (with_reducible repeat (first | apply Kd.zbg | apply Kd.zbf | apply Kd.zbl)); exact Kd.zao HO_244002.out (fun _ hk => ⟨hk.1.1, ⟨hk.2, ⟨hk.1.2.1, ⟨hk.1.2.2.1, hk.1.2.2.2⟩⟩⟩⟩)⟩, ⟨by (with_reducible repeat (first | apply Kd.zbg | apply Kd.zbf | apply Kd.zbl)); exact Kd.zao HO_244005.out (fun _ hk => ⟨hk.1.1, ⟨hk.2, ⟨hk.1.2.1, ⟨hk.1.2.2.1, hk.1.2.2.2⟩⟩⟩⟩)⟩, ⟨by (with_reducible repeat (first | apply Kd.zbg | apply Kd.zbf | apply Kd.zbl)); exact Kd.zao HO_245005.out (fun _ hk => ⟨hk.1.1, ⟨hk.2, ⟨hk.1.2.1, ⟨hk.1.2.2.1, hk.1.2.2.2⟩⟩⟩⟩)⟩, ⟨q36_⟩, ⟨q39_⟩, ⟨q46_⟩, ⟨q0_⟩⟩
     case rest =>
      clear HC39
      try clear c31 c37b0 c37b1 hz42 hz44
      obtain ⟨kq, x44_38, rfl, HA, HJ38, HO_5, HO_244002, HO_244005, HO_245005, BK243, BK244, BK245, HB⟩ := hcut
      cases kq with
      | zero => exact absurd HA.out (by simp [zbq.j1])
      | succ kj38 =>
       have H := HA.out
       clear HA
       simp only [zbq.j1] at H
       by_cases c57 : x44_38 = true
       ·subst c57
        replace H := ifT_ H
        simp only [Option.some.injEq, Prod.mk.injEq] at H
        obtain ⟨rfl, rfl, rfl, rfl, rfl, rfl⟩ := H
        have hn58 := np_ NB243_244
        have hn59 := np_ NB243_245
        have hz60 := bc6_ (w := wc) BK243.out
        have hn61 := np_ NB245_244
        have hz62 := bc6_ (w := wc) BK245.out
        go_wp2
        refine bodyPost_ret (results_cell_row rfl _ _ gb245 33 #[.int .i64 a0_0, .int .i64 a0_1, .slice A0_2 l0_2.length c0_2, .int .i64 a0_3, .int .i64 a0_4, .slice A0_5 l0_5.length c0_5] (0, 0) _ rfl q16_ Tryd.underlying33 rfl (by kernel_rfl)) rfl ?_
        exact ⟨_, _, q5_, by (with_reducible repeat (first | apply Kd.zbg | apply Kd.zbf | apply Kd.zbl)); exact Kd.zao (Vf_ (Vf_ (Vf_ (Vf_ (Vf_ (Vf_ (Kd.zao HO_244002.out (fun k_ hk => (⟨hk, hk.2.2.2.2⟩ : _ ∧ k_ ≠ gb245))))))))) (fun _ hk => hk.1.1), by (with_reducible repeat (first | apply Kd.zbg | apply Kd.zbf | apply Kd.zbl)); exact Kd.zao (Vf_ (Vf_ (Vf_ (Vf_ (Vf_ (Vf_ (Kd.zao HO_244005.out (fun k_ hk => (⟨hk, hk.2.2.2.2⟩ : _ ∧ k_ ≠ gb245))))))))) (fun _ hk => hk.1.1), q0_⟩
       ·replace c57 := Bool.eq_false_iff.mpr c57
        subst c57
        replace H := ifF_ H
        try go_wp2
        replace HO_5 := ak_ (Kd.zdk HO_5.out)
        replace HO_244002 := ak_ (Kd.zbl HO_244002.out)
        replace HO_244005 := ak_ (Kd.zbl HO_244005.out)
        replace HO_245005 := ak_ (Kd.zbl HO_245005.out)
        replace BK243 := dB_ BK243
        replace BK244 := dB_ BK244
        replace BK245 := dB_ BK245
        replace HB := ak_ (zbn HB.out)
        obtain ⟨Ao66, co66, eo66⟩ := Kd.zdl HO_5.out
        (first | subst eo66 | (injection eo66 with f1_ f2_ f3_; have f4_ := f1_.symm; have f5_ := f3_.symm; clear f1_ f2_ f3_; subst f4_; subst f5_))
        refine zeq (n := 7) (S := fun w' => w'.cell? ⟨gb244, 0, none⟩ = some (.int .i64 a1_0) ∧ w'.cell? ⟨gb244, 1, none⟩ = some (.int .i64 a1_1) ∧ w'.cell? ⟨gb244, 2, none⟩ = some (.int .i64 a1_2) ∧ w'.cell? ⟨gb244, 3, none⟩ = some (.int .i64 a1_3) ∧ w'.cell? ⟨gb244, 4, none⟩ = some (.int .i64 a1_4) ∧ w'.cell? ⟨gb244, 5, none⟩ = some (.slice A1_5 l1_5.length c1_5)) (ds := []) (bz 7 0) (by kernel_rfl) rfl rfl (bs6_ BK244.out) (fun hHeld => ?_)
        generalize wc.drew = w65 at HO_5 HO_244002 HO_244005 HO_245005 BK243 BK244 BK245 HB hHeld ⊢
        refine pure_ (i := 0) (N := some 46) (v := ?_) (a' := ?_) (bz 7 1) rfl rfl (by kernel_rfl) (fun _ _ _ h => h) (Or.inl ⟨by rfl, ?_⟩) ?_ ?_
        rotate_left
        (intro w'; go_simp; with_reducible rfl)
        rotate_left
        exact qa_
        refine pure_ (i := 1) (N := some 47) (v := ?_) (a' := ?_) (bz 7 2) rfl rfl (by kernel_rfl) (fun _ _ _ h => h) (Or.inl ⟨by rfl, ?_⟩) ?_ ?_
        rotate_left
        (intro w'; go_simp; with_reducible rfl)
        rotate_left
        exact qa_
        refine pure_ (i := 3) (N := some 49) (v := ?_) (a' := ?_) b94_3 rfl rfl (by kernel_rfl) (fun _ _ _ h => h) (Or.inl ⟨by rfl, ?_⟩) ?_ ?_
        rotate_left
        (intro w'; go_simp; with_reducible rfl)
        rotate_left
        exact qa_
        refine take_ (i := 2) (N := some 48) (v := ?_) (a' := ?_) (bz 7 4) rfl rfl (by kernel_rfl) (fun _ _ _ h => h) (Or.inl ⟨by rfl, ?_⟩) hHeld ?_ ?_
        rotate_left
        (rintro w' ⟨s0, s1, s2, s3, s4, s5⟩; go_simp; with_reducible rfl)
        rotate_left
        exact qa_
        refine one_ (i := 4) (N := none) (bz 7 5) rfl rfl (by kernel_rfl) (by decide) (fun K hK => ?_)
        by_cases c63 : a0_3 ≤ a1_2
        ·rw [if_pos c63] at H
         have c63b0 := decide_eq_true c63
         clear c63
         obtain ⟨⟨t252, t253, t254, t257, t258, t259⟩, A64, H⟩ := bi_ H
         replace H : (some (t252, t253, t254, t257, t258, t259)) = some (r1, r2, r3, r4, r5, r6) := H
         simp only [Option.some.injEq, Prod.mk.injEq] at H
         obtain ⟨rfl, rfl, rfl, rfl, rfl, rfl⟩ := H
         have hs67 : w65.cell? ⟨gb243, 2, none⟩ = some (.slice A0_2 l0_2.length c0_2) := bt_ BK243.out 2
         have hfs67 := zaf BK243.out 2
         have hns67_1 := NB244_243.out
         have hns67_2 := NB245_243.out
         have hms67_1 := NB243_244.out
         have hms67_2 := NB243_245.out
         refine skip_ (w1 := ?_) (by rfl) rfl ?_ ?_
         rotate_left
         ·go_simp
          rfl
         refine hK.out _ _ ⟨((cell_far (p := ⟨gb243, _, none⟩) NB244_243.out _).trans (hHeld.1)), ((cell_far (p := ⟨gb243, _, none⟩) NB244_243.out _).trans (hHeld.2.1)), ((cell_far (p := ⟨gb243, _, none⟩) NB244_243.out _).trans (hHeld.2.2.1)), ((cell_far (p := ⟨gb243, _, none⟩) NB244_243.out _).trans (hHeld.2.2.2.1)), ((cell_far (p := ⟨gb243, _, none⟩) NB244_243.out _).trans (hHeld.2.2.2.2.1)), ((cell_far (p := ⟨gb243, _, none⟩) NB244_243.out _).trans (hHeld.2.2.2.2.2))⟩ (fun hHeld => ?_)
         clear hK K
         refine pure_ (i := 5) (N := some 50) (v := ?_) (a' := ?_) (bz 7 6) rfl rfl (by kernel_rfl) (fun _ _ _ h => h) (Or.inl ⟨by rfl, ?_⟩) ?_ ?_
         rotate_left
         (intro w'; go_simp; with_reducible rfl)
         rotate_left
         exact qa_
         refine one_ (i := 6) (N := none) (bz 7 7) rfl rfl (by kernel_rfl) (by decide) (fun K hK => ?_)
         have hs68 : w65.cell? ⟨gb243, 1, none⟩ = some (.int .i64 a0_1) := bt_ BK243.out 1
         have hfs68 := zaf BK243.out 1
         have hns68_1 := NB244_243.out
         have hns68_2 := NB245_243.out
         have hms68_1 := NB243_244.out
         have hms68_2 := NB243_245.out
         refine skip_ (w1 := ?_) (by rfl) rfl ?_ ?_
         rotate_left
         ·go_simp
          rfl
         refine hK.out _ _ ⟨((cell_far (p := ⟨gb243, _, none⟩) NB244_243.out _).trans (hHeld.1)), ((cell_far (p := ⟨gb243, _, none⟩) NB244_243.out _).trans (hHeld.2.1)), ((cell_far (p := ⟨gb243, _, none⟩) NB244_243.out _).trans (hHeld.2.2.1)), ((cell_far (p := ⟨gb243, _, none⟩) NB244_243.out _).trans (hHeld.2.2.2.1)), ((cell_far (p := ⟨gb243, _, none⟩) NB244_243.out _).trans (hHeld.2.2.2.2.1)), ((cell_far (p := ⟨gb243, _, none⟩) NB244_243.out _).trans (hHeld.2.2.2.2.2))⟩ (fun hHeld => ?_)
         clear hK K
         refine zey (by kernel_rfl) ?_
         have n0_ : zab (Kd.N k56 56 ((w65.setCell ⟨gb243, 2, none⟩ (.slice Ao66 t248.length co66)).setCell ⟨gb243, 1, none⟩ (.int .i64 a1_2)) w.heap.size (fun k_ => ((P0_2_ k_ ∨ P0_5_ k_ ∨ P1_5_ k_) ∨ w.heap.size ≤ k_) ∧ k_ ≠ gb243 ∧ k_ ≠ gb244 ∧ k_ ≠ gb245) (.slice Ao66 t248.length co66) t248) := ⟨by (with_reducible repeat (first | apply Kd.zcx | apply Kd.zda | apply Kd.zdk)); exact Kd.zct (Nf_ (Nf_ (Kd.zct HO_5.out (fun k_ hk => (⟨hk, hk.2.1⟩ : _ ∧ k_ ≠ gb243))))) (fun _ hk => ⟨hk.1.1, ⟨hk.1.2.1, ⟨hk.1.2.2.1, hk.1.2.2.2⟩⟩⟩)⟩
         have n1_ : zab (Kd.V k56 56 ((w65.setCell ⟨gb243, 2, none⟩ (.slice Ao66 t248.length co66)).setCell ⟨gb243, 1, none⟩ (.int .i64 a1_2)) w.heap.size (fun k_ => ((P0_2_ k_ ∨ P0_5_ k_ ∨ P1_5_ k_) ∨ w.heap.size ≤ k_) ∧ some k_ ≠ (.slice Ao66 t248.length co66 : Value).ownBlock ∧ k_ ≠ gb243 ∧ k_ ≠ gb244 ∧ k_ ≠ gb245) (.slice A0_2 l0_2.length c0_2) l0_2) := ⟨by (with_reducible repeat (first | apply Kd.zbg | apply Kd.zbf | apply Kd.zbl)); exact Kd.zao (Vf_ (Vf_ (Kd.zao HO_244002.out (fun k_ hk => (⟨hk, hk.2.2.1⟩ : _ ∧ k_ ≠ gb243))))) (fun _ hk => ⟨hk.1.1, ⟨hk.1.2.1, ⟨hk.1.2.2.1, ⟨hk.1.2.2.2.1, hk.1.2.2.2.2⟩⟩⟩⟩)⟩
         have n2_ : zab (Kd.V k41 41 ((w65.setCell ⟨gb243, 2, none⟩ (.slice Ao66 t248.length co66)).setCell ⟨gb243, 1, none⟩ (.int .i64 a1_2)) w.heap.size (fun k_ => ((P0_2_ k_ ∨ P0_5_ k_ ∨ P1_5_ k_) ∨ w.heap.size ≤ k_) ∧ some k_ ≠ (.slice Ao66 t248.length co66 : Value).ownBlock ∧ k_ ≠ gb243 ∧ k_ ≠ gb244 ∧ k_ ≠ gb245) (.slice A0_5 l0_5.length c0_5) l0_5) := ⟨by (with_reducible repeat (first | apply Kd.zbg | apply Kd.zbf | apply Kd.zbl)); exact Kd.zao (Vf_ (Vf_ (Kd.zao HO_244005.out (fun k_ hk => (⟨hk, hk.2.2.1⟩ : _ ∧ k_ ≠ gb243))))) (fun _ hk => ⟨hk.1.1, ⟨hk.1.2.1, ⟨hk.1.2.2.1, ⟨hk.1.2.2.2.1, hk.1.2.2.2.2⟩⟩⟩⟩)⟩
         have n3_ : zab (Kd.V k56 56 ((w65.setCell ⟨gb243, 2, none⟩ (.slice Ao66 t248.length co66)).setCell ⟨gb243, 1, none⟩ (.int .i64 a1_2)) w.heap.size (fun k_ => ((P0_2_ k_ ∨ P0_5_ k_ ∨ P1_5_ k_) ∨ w.heap.size ≤ k_) ∧ some k_ ≠ (.slice Ao66 t248.length co66 : Value).ownBlock ∧ k_ ≠ gb243 ∧ k_ ≠ gb244 ∧ k_ ≠ gb245) (.slice A1_5 l1_5.length c1_5) l1_5) := ⟨by (with_reducible repeat (first | apply Kd.zbg | apply Kd.zbf | apply Kd.zbl)); exact Kd.zao (Vf_ (Vf_ (Kd.zao HO_245005.out (fun k_ hk => (⟨hk, hk.2.2.1⟩ : _ ∧ k_ ≠ gb243))))) (fun _ hk => ⟨hk.1.1, ⟨hk.1.2.1, ⟨hk.1.2.2.1, ⟨hk.1.2.2.2.1, hk.1.2.2.2.2⟩⟩⟩⟩)⟩
         have n4_ : zab (((w65.setCell ⟨gb243, 2, none⟩ (.slice Ao66 t248.length co66)).setCell ⟨gb243, 1, none⟩ (.int .i64 a1_2)).heap[gb243]? = some (.cells #[.int .i64 a0_0, .int .i64 a1_2, .slice Ao66 t248.length co66, .int .i64 a0_3, .int .i64 a0_4, .slice A0_5 l0_5.length c0_5] 33 (0, 0))) := ⟨(bp_ (bp_ BK243.out))⟩
         have n5_ : zab (((w65.setCell ⟨gb243, 2, none⟩ (.slice Ao66 t248.length co66)).setCell ⟨gb243, 1, none⟩ (.int .i64 a1_2)).heap[gb244]? = some (.cells #[.int .i64 a1_0, .int .i64 a1_1, .int .i64 a1_2, .int .i64 a1_3, .int .i64 a1_4, .slice A1_5 l1_5.length c1_5] 41 (0, 0))) := ⟨by (with_reducible repeat first | apply bN_ | apply bD_ | apply bA_); refine zcp ?_ NB244_243.out _; (with_reducible repeat first | apply bN_ | apply bD_ | apply bA_); refine zcp ?_ NB244_243.out _; (with_reducible repeat first | apply bN_ | apply bD_ | apply bA_); exact BK244.out⟩
         have n6_ : zab (((w65.setCell ⟨gb243, 2, none⟩ (.slice Ao66 t248.length co66)).setCell ⟨gb243, 1, none⟩ (.int .i64 a1_2)).heap[gb245]? = some (.cells #[.int .i64 0, .int .i64 0, .slice none 0 0, .int .i64 0, .int .i64 0, .slice none 0 0] 33 (0, 0))) := ⟨by (with_reducible repeat first | apply bN_ | apply bD_ | apply bA_); refine zcp ?_ NB245_243.out _; (with_reducible repeat first | apply bN_ | apply bD_ | apply bA_); refine zcp ?_ NB245_243.out _; (with_reducible repeat first | apply bN_ | apply bD_ | apply bA_); exact BK245.out⟩
         have n7_ : zab (Below w.heap.size w ((w65.setCell ⟨gb243, 2, none⟩ (.slice Ao66 t248.length co66)).setCell ⟨gb243, 1, none⟩ (.int .i64 a1_2))) := ⟨q0_⟩
         try clear HO_5 HO_244002 HO_244005 HO_245005 BK243 BK244 BK245 HB
         generalize ((w65.setCell ⟨gb243, 2, none⟩ (.slice Ao66 t248.length co66)).setCell ⟨gb243, 1, none⟩ (.int .i64 a1_2)) = w69 at n0_ n1_ n2_ n3_ n4_ n5_ n6_ n7_ ⊢
         have HO_5 := n0_
         have HO_244002 := n1_
         have HO_244005 := n2_
         have HO_245005 := n3_
         have BK243 := n4_
         have BK244 := n5_
         have BK245 := n6_
         have HB := n7_
         clear n0_ n1_ n2_ n3_ n4_ n5_ n6_ n7_
         have hn70 := np_ NB243_244
         have hn71 := np_ NB243_245
         have hz72 := bc6_ (w := w69) BK243.out
         try go_wp2_with (first | ((with_reducible refine gc_ 38 rfl ?_); refine zbo (some 57) rfl rfl Tryd.func38 (by kernel_rfl) rfl #[.agg #[.int .i64 a0_0, .int .i64 a1_2, .slice Ao66 t248.length co66, .int .i64 a0_3, .int .i64 a0_4, .slice A0_5 l0_5.length c0_5]] rfl q3_ ?_; (with_reducible refine (sub_idle.calls a0_0 a1_2 (fun k_ => (((P0_2_ k_ ∨ P0_5_ k_ ∨ P1_5_ k_) ∨ w.heap.size ≤ k_) ∧ (k_ ≠ gb243 ∧ (k_ ≠ gb244 ∧ k_ ≠ gb245)))) _ _ t248 a0_3 a0_4 _ _ l0_5 t252 t253 t254 t257 t258 t259 _ ?side1 ?side2 ?side3 A64.out).mono ?_); (case side1 => exact Kd.N_V (HO_5.out)); (case side2 => exact cx_ ((Kd.zbb HO_244005.out).2.2)); (case side3 => exact (Kd.zbb HO_244005.out).2.1); rintro e w73 ⟨v255, v260, rfl, ho0, ho1r, hb⟩; have ho1 := Kd.R_N ho1r; clear ho1r; refine ⟨_, rfl, ?_⟩; have HO256 := ak_ (Kd.zcq (Kd.zao (ok' := fun k_ => ((P0_2_ k_ ∨ P0_5_ k_ ∨ P1_5_ k_) ∨ w.heap.size ≤ k_) ∧ some k_ ≠ (v260 : Value).ownBlock ∧ k_ ≠ gb243 ∧ k_ ≠ gb244 ∧ k_ ≠ gb245) ho0 (fun k_ hk_ => ⟨Or.elim hk_.1 (fun hs_ => hs_.1) (fun hn_ => (.inr (Nat.le_trans (zaj q0_) hn_))), hk_.2, Or.elim hk_.1 (fun hs_ => hs_.2.1) (fun hn_ => (Kd.zbs (g := gb243) (o := .cells #[.int .i64 a0_0, .int .i64 a1_2, .slice Ao66 t248.length co66, .int .i64 a0_3, .int .i64 a0_4, .slice A0_5 l0_5.length c0_5] 33 (0, 0)) q36_ k_ hn_)), Or.elim hk_.1 (fun hs_ => hs_.2.2.1) (fun hn_ => (Kd.zbs (g := gb244) (o := .cells #[.int .i64 a1_0, .int .i64 a1_1, .int .i64 a1_2, .int .i64 a1_3, .int .i64 a1_4, .slice A1_5 l1_5.length c1_5] 41 (0, 0)) q39_ k_ hn_)), Or.elim hk_.1 (fun hs_ => hs_.2.2.2) (fun hn_ => (Kd.zbs (g := gb245) (o := .cells #[.int .i64 0, .int .i64 0, .slice none 0 0, .int .i64 0, .int .i64 0, .slice none 0 0] 33 (0, 0)) q46_ k_ hn_))⟩)) (zaj q0_)); have HO261 := ak_ (Kd.zfc (Kd.zct (ok' := fun k_ => ((P0_2_ k_ ∨ P0_5_ k_ ∨ P1_5_ k_) ∨ w.heap.size ≤ k_) ∧ k_ ≠ gb243 ∧ k_ ≠ gb244 ∧ k_ ≠ gb245) ho1 (fun k_ hn_ => ⟨(.inr (Nat.le_trans (zaj q0_) hn_)), (Kd.zbs (g := gb243) (o := .cells #[.int .i64 a0_0, .int .i64 a1_2, .slice Ao66 t248.length co66, .int .i64 a0_3, .int .i64 a0_4, .slice A0_5 l0_5.length c0_5] 33 (0, 0)) q36_ k_ hn_), (Kd.zbs (g := gb244) (o := .cells #[.int .i64 a1_0, .int .i64 a1_1, .int .i64 a1_2, .int .i64 a1_3, .int .i64 a1_4, .slice A1_5 l1_5.length c1_5] 41 (0, 0)) q39_ k_ hn_), (Kd.zbs (g := gb245) (o := .cells #[.int .i64 0, .int .i64 0, .slice none 0 0, .int .i64 0, .int .i64 0, .slice none 0 0] 33 (0, 0)) q46_ k_ hn_)⟩)) (zaj q0_)); replace HO_5 := ak_ (Kd.zgv (by (with_reducible repeat (first | apply Kd.zcx | apply Kd.zda | apply Kd.zdk)); exact HO_5.out) (Kd.zcy ho1) hb); replace HO_244002 := ak_ (Kd.zbz q173_ (Kd.zcy ho1) hb); replace HO_244005 := ak_ (Kd.zbz q172_ (Kd.zcy ho1) hb); replace HO_245005 := ak_ (Kd.zbz q171_ (Kd.zcy ho1) hb); replace BK243 := bb_ q36_ hb; replace BK244 := bb_ q39_ hb; replace BK245 := bb_ q46_ hb; replace HB := bs_ hb; clear hb; (try clear ho0); (try clear ho1); have hz74 := bc6_ (w := w73) BK243.out; obtain ⟨Ao75, co75, eo75⟩ := Kd.zcs HO256.out; subst eo75; obtain ⟨Ao76, co76, eo76⟩ := Kd.zdl HO261.out; subst eo76; have hn77 := np_ NB245_244; have hz78 := bc6_ (w := w73) BK245.out))
         refine bodyPost_ret (results_cell_row rfl _ _ gb245 33 #[.int .i64 t252, .int .i64 t253, .slice Ao75 t254.length co75, .int .i64 t257, .int .i64 t258, .slice Ao76 t259.length co76] (0, 0) _ rfl (by (with_reducible repeat first | apply bN_ | apply bD_ | apply bA_); refine zci (cs := #[.int .i64 t252, .int .i64 t253, .slice Ao75 t254.length co75, .int .i64 t257, .int .i64 t258, .slice none 0 0]) ?_ 5 _ rfl; (with_reducible repeat first | apply bN_ | apply bD_ | apply bA_); refine zci (cs := #[.int .i64 t252, .int .i64 t253, .slice Ao75 t254.length co75, .int .i64 t257, .int .i64 0, .slice none 0 0]) ?_ 4 _ rfl; (with_reducible repeat first | apply bN_ | apply bD_ | apply bA_); refine zci (cs := #[.int .i64 t252, .int .i64 t253, .slice Ao75 t254.length co75, .int .i64 0, .int .i64 0, .slice none 0 0]) ?_ 3 _ rfl; (with_reducible repeat first | apply bN_ | apply bD_ | apply bA_); refine zci (cs := #[.int .i64 t252, .int .i64 t253, .slice none 0 0, .int .i64 0, .int .i64 0, .slice none 0 0]) ?_ 2 _ rfl; (with_reducible repeat first | apply bN_ | apply bD_ | apply bA_); refine zci (cs := #[.int .i64 t252, .int .i64 0, .slice none 0 0, .int .i64 0, .int .i64 0, .slice none 0 0]) ?_ 1 _ rfl; (with_reducible repeat first | apply bN_ | apply bD_ | apply bA_); refine zci (cs := #[.int .i64 0, .int .i64 0, .slice none 0 0, .int .i64 0, .int .i64 0, .slice none 0 0]) ?_ 0 _ rfl; (with_reducible repeat first | apply bN_ | apply bD_ | apply bA_); refine zcp ?_ NB245_243.out _; (with_reducible repeat first | apply bN_ | apply bD_ | apply bA_); refine zcp ?_ NB245_243.out _; (with_reducible repeat first | apply bN_ | apply bD_ | apply bA_); refine zcp ?_ NB245_243.out _; (with_reducible repeat first | apply bN_ | apply bD_ | apply bA_); refine zcp ?_ NB245_243.out _; (with_reducible repeat first | apply bN_ | apply bD_ | apply bA_); refine zcp ?_ NB245_243.out _; (with_reducible repeat first | apply bN_ | apply bD_ | apply bA_); refine zcp ?_ NB245_243.out _; (with_reducible repeat first | apply bN_ | apply bD_ | apply bA_); exact BK245.out) Tryd.underlying33 rfl (by kernel_rfl)) rfl ?_
         exact ⟨_, _, q5_, by (with_reducible repeat (first | apply Kd.zbg | apply Kd.zbf | apply Kd.zbl)); exact Kd.zao (Vf_ (Vf_ (Vf_ (Vf_ (Vf_ (Vf_ (Kd.zcr (p := ⟨gb243, 5, none⟩) (Kd.zcr (p := ⟨gb243, 4, none⟩) (Kd.zcr (p := ⟨gb243, 3, none⟩) (Kd.zcr (p := ⟨gb243, 2, none⟩) (Kd.zcr (p := ⟨gb243, 1, none⟩) (Kd.zcr (p := ⟨gb243, 0, none⟩) (Kd.zao (Kd.zao HO256.out (fun k_ hk => (⟨hk, hk.2.2.1⟩ : _ ∧ k_ ≠ gb243))) (fun k_ hk => (⟨hk, hk.1.2.2.2.2⟩ : _ ∧ k_ ≠ gb245))) (fun _ hk => hk.1.2) (.int .i64 t252)) (fun _ hk => hk.1.2) (.int .i64 t253)) (fun _ hk => hk.1.2) (.slice Ao75 t254.length co75)) (fun _ hk => hk.1.2) (.int .i64 t257)) (fun _ hk => hk.1.2) (.int .i64 t258)) (fun _ hk => hk.1.2) (.slice Ao76 t259.length co76)))))))) (fun _ hk => hk.1.1.1), Kd.N_V (by (with_reducible repeat (first | apply Kd.zcx | apply Kd.zda | apply Kd.zdk)); exact Kd.zct (Nf_ (Nf_ (Nf_ (Nf_ (Nf_ (Nf_ (Kd.N_far (p := ⟨gb243, 5, none⟩) (Kd.N_far (p := ⟨gb243, 4, none⟩) (Kd.N_far (p := ⟨gb243, 3, none⟩) (Kd.N_far (p := ⟨gb243, 2, none⟩) (Kd.N_far (p := ⟨gb243, 1, none⟩) (Kd.N_far (p := ⟨gb243, 0, none⟩) (Kd.zct (Kd.zct HO261.out (fun k_ hk => (⟨hk, hk.2.1⟩ : _ ∧ k_ ≠ gb243))) (fun k_ hk => (⟨hk, hk.1.2.2.2⟩ : _ ∧ k_ ≠ gb245))) (fun _ hk => hk.1.2) (.int .i64 t252)) (fun _ hk => hk.1.2) (.int .i64 t253)) (fun _ hk => hk.1.2) (.slice Ao75 t254.length co75)) (fun _ hk => hk.1.2) (.int .i64 t257)) (fun _ hk => hk.1.2) (.int .i64 t258)) (fun _ hk => hk.1.2) (.slice Ao76 t259.length co76)))))))) (fun _ hk => hk.1.1.1)), q0_⟩
        ·rw [if_neg c63] at H
         have c63b0 := decide_eq_false c63
         clear c63
         simp only [Option.some.injEq, Prod.mk.injEq] at H
         obtain ⟨rfl, rfl, rfl, rfl, rfl, rfl⟩ := H
         have hs81 : w65.cell? ⟨gb243, 2, none⟩ = some (.slice A0_2 l0_2.length c0_2) := bt_ BK243.out 2
         have hfs81 := zaf BK243.out 2
         have hns81_1 := NB244_243.out
         have hns81_2 := NB245_243.out
         have hms81_1 := NB243_244.out
         have hms81_2 := NB243_245.out
         refine skip_ (w1 := ?_) (by rfl) rfl ?_ ?_
         rotate_left
         ·go_simp
          rfl
         refine hK.out _ _ ⟨((cell_far (p := ⟨gb243, _, none⟩) NB244_243.out _).trans (hHeld.1)), ((cell_far (p := ⟨gb243, _, none⟩) NB244_243.out _).trans (hHeld.2.1)), ((cell_far (p := ⟨gb243, _, none⟩) NB244_243.out _).trans (hHeld.2.2.1)), ((cell_far (p := ⟨gb243, _, none⟩) NB244_243.out _).trans (hHeld.2.2.2.1)), ((cell_far (p := ⟨gb243, _, none⟩) NB244_243.out _).trans (hHeld.2.2.2.2.1)), ((cell_far (p := ⟨gb243, _, none⟩) NB244_243.out _).trans (hHeld.2.2.2.2.2))⟩ (fun hHeld => ?_)
         clear hK K
         refine pure_ (i := 5) (N := some 50) (v := ?_) (a' := ?_) (bz 7 6) rfl rfl (by kernel_rfl) (fun _ _ _ h => h) (Or.inl ⟨by rfl, ?_⟩) ?_ ?_
         rotate_left
         (intro w'; go_simp; with_reducible rfl)
         rotate_left
         exact qa_
         refine one_ (i := 6) (N := none) (bz 7 7) rfl rfl (by kernel_rfl) (by decide) (fun K hK => ?_)
         have hs82 : w65.cell? ⟨gb243, 1, none⟩ = some (.int .i64 a0_1) := bt_ BK243.out 1
         have hfs82 := zaf BK243.out 1
         have hns82_1 := NB244_243.out
         have hns82_2 := NB245_243.out
         have hms82_1 := NB243_244.out
         have hms82_2 := NB243_245.out
         refine skip_ (w1 := ?_) (by rfl) rfl ?_ ?_
         rotate_left
         ·go_simp
          rfl
         refine hK.out _ _ ⟨((cell_far (p := ⟨gb243, _, none⟩) NB244_243.out _).trans (hHeld.1)), ((cell_far (p := ⟨gb243, _, none⟩) NB244_243.out _).trans (hHeld.2.1)), ((cell_far (p := ⟨gb243, _, none⟩) NB244_243.out _).trans (hHeld.2.2.1)), ((cell_far (p := ⟨gb243, _, none⟩) NB244_243.out _).trans (hHeld.2.2.2.1)), ((cell_far (p := ⟨gb243, _, none⟩) NB244_243.out _).trans (hHeld.2.2.2.2.1)), ((cell_far (p := ⟨gb243, _, none⟩) NB244_243.out _).trans (hHeld.2.2.2.2.2))⟩ (fun hHeld => ?_)
         clear hK K
         refine zey (by kernel_rfl) ?_
         have hn83 := np_ NB243_244
         have hn84 := np_ NB243_245
         have hz85 := bc6_ (w := w65) BK243.out
         have hn86 := np_ NB245_244
         have hz87 := bc6_ (w := w65) BK245.out
         try go_wp2
         refine bodyPost_ret (results_cell_row rfl _ _ gb245 33 #[.int .i64 a0_0, .int .i64 a1_2, .slice Ao66 t248.length co66, .int .i64 a0_3, .int .i64 a0_4, .slice A0_5 l0_5.length c0_5] (0, 0) _ rfl (by (with_reducible repeat first | apply bN_ | apply bD_ | apply bA_); refine zci (cs := #[.int .i64 a0_0, .int .i64 a1_2, .slice Ao66 t248.length co66, .int .i64 a0_3, .int .i64 a0_4, .slice none 0 0]) ?_ 5 _ rfl; (with_reducible repeat first | apply bN_ | apply bD_ | apply bA_); refine zci (cs := #[.int .i64 a0_0, .int .i64 a1_2, .slice Ao66 t248.length co66, .int .i64 a0_3, .int .i64 0, .slice none 0 0]) ?_ 4 _ rfl; (with_reducible repeat first | apply bN_ | apply bD_ | apply bA_); refine zci (cs := #[.int .i64 a0_0, .int .i64 a1_2, .slice Ao66 t248.length co66, .int .i64 0, .int .i64 0, .slice none 0 0]) ?_ 3 _ rfl; (with_reducible repeat first | apply bN_ | apply bD_ | apply bA_); refine zci (cs := #[.int .i64 a0_0, .int .i64 a1_2, .slice none 0 0, .int .i64 0, .int .i64 0, .slice none 0 0]) ?_ 2 _ rfl; (with_reducible repeat first | apply bN_ | apply bD_ | apply bA_); refine zci (cs := #[.int .i64 a0_0, .int .i64 0, .slice none 0 0, .int .i64 0, .int .i64 0, .slice none 0 0]) ?_ 1 _ rfl; (with_reducible repeat first | apply bN_ | apply bD_ | apply bA_); refine zci (cs := #[.int .i64 0, .int .i64 0, .slice none 0 0, .int .i64 0, .int .i64 0, .slice none 0 0]) ?_ 0 _ rfl; (with_reducible repeat first | apply bN_ | apply bD_ | apply bA_); refine zcp ?_ NB245_243.out _; (with_reducible repeat first | apply bN_ | apply bD_ | apply bA_); refine zcp ?_ NB245_243.out _; (with_reducible repeat first | apply bN_ | apply bD_ | apply bA_); exact BK245.out) Tryd.underlying33 rfl (by kernel_rfl)) rfl ?_
         exact ⟨_, _, q5_, Kd.N_V (by (with_reducible repeat (first | apply Kd.zcx | apply Kd.zda | apply Kd.zdk)); exact Kd.zct (Nf_ (Nf_ (Nf_ (Nf_ (Nf_ (Nf_ (Kd.N_far (p := ⟨gb243, 1, none⟩) (Kd.N_far (p := ⟨gb243, 2, none⟩) (Kd.zct (Kd.zct HO_5.out (fun k_ hk => (⟨hk, hk.2.1⟩ : _ ∧ k_ ≠ gb243))) (fun k_ hk => (⟨hk, hk.1.2.2.2⟩ : _ ∧ k_ ≠ gb245))) (fun _ hk => hk.1.2) (.slice Ao66 t248.length co66)) (fun _ hk => hk.1.2) (.int .i64 a1_2)))))))) (fun _ hk => hk.1.1.1)), by (with_reducible repeat (first | apply Kd.zbg | apply Kd.zbf | apply Kd.zbl)); exact Kd.zao (Vf_ (Vf_ (Vf_ (Vf_ (Vf_ (Vf_ (Kd.zcr (p := ⟨gb243, 1, none⟩) (Kd.zcr (p := ⟨gb243, 2, none⟩) (Kd.zao (Kd.zao HO_244005.out (fun k_ hk => (⟨hk, hk.2.2.1⟩ : _ ∧ k_ ≠ gb243))) (fun k_ hk => (⟨hk, hk.1.2.2.2.2⟩ : _ ∧ k_ ≠ gb245))) (fun _ hk => hk.1.2) (.slice Ao66 t248.length co66)) (fun _ hk => hk.1.2) (.int .i64 a1_2)))))))) (fun _ hk => hk.1.1.1), q0_⟩
    ·rw [if_neg c37] at H
     have c37b0 := bn_ c37
     have c37b1 := bn1_ c37
     have hn91 := np_ NB244_243
     have hn92 := np_ NB244_245
     have hz93 := bc6_ (w := wc) BK244.out
     have hn94 := np_ NB243_245
     have hcz95_0 : wc.cell? ⟨gb243, 0, none⟩ = some (.int .i64 a0_0) := bt_ BK243.out 0
     have hcz95_1 : wc.cell? ⟨gb243, 1, none⟩ = some (.int .i64 a0_1) := bt_ BK243.out 1
     have hcz95_2 : wc.cell? ⟨gb243, 2, none⟩ = some (.slice A0_2 l0_2.length c0_2) := bt_ BK243.out 2
     have hcz95_3 : wc.cell? ⟨gb243, 3, none⟩ = some (.int .i64 a0_3) := bt_ BK243.out 3
     have hcz95_4 : wc.cell? ⟨gb243, 4, none⟩ = some (.int .i64 a0_4) := bt_ BK243.out 4
     have hcz95_5 : wc.cell? ⟨gb243, 5, none⟩ = some (.slice A0_5 l0_5.length c0_5) := bt_ BK243.out 5
     have hfz95_0 := zaf BK243.out 0
     have hfz95_1 := zaf BK243.out 1
     have hfz95_2 := zaf BK243.out 2
     have hfz95_3 := zaf BK243.out 3
     have hfz95_4 := zaf BK243.out 4
     by_cases c88 : a1_0 = 2
     ·rw [if_pos c88] at H
      have c88b0 := bq_ c88
      have c88b1 := bq0_ c88
      clear c88
      have hfz95_5 := zaf BK243.out 5
      by_cases c89 : a1_2 > a0_1
      ·rw [if_pos c89] at H
       have c89b0 : decide (a0_1 < a1_2) = true := decide_eq_true c89
       clear c89
       obtain ⟨⟨t262, t263, t264, t267, t268, t269⟩, A90, H⟩ := bi_ H
       replace H : (some (t262, t263, t264, t267, t268, t269)) = some (r1, r2, r3, r4, r5, r6) := H
       simp only [Option.some.injEq, Prod.mk.injEq] at H
       obtain ⟨rfl, rfl, rfl, rfl, rfl, rfl⟩ := H
       go_wp2_with (first | ((with_reducible refine gc_ 39 rfl ?_); refine zbo (some 67) rfl rfl Tryd.func39 (by kernel_rfl) rfl #[.agg #[.int .i64 a0_0, .int .i64 a0_1, .slice A0_2 l0_2.length c0_2, .int .i64 a0_3, .int .i64 a0_4, .slice A0_5 l0_5.length c0_5], .agg #[.int .i64 a1_0, .int .i64 a1_1, .int .i64 a1_2, .int .i64 a1_3, .int .i64 a1_4, .slice A1_5 l1_5.length c1_5]] rfl q3_ ?_; (with_reducible refine (zbx.calls kj2 a0_0 a0_1 (fun k_ => (((P0_2_ k_ ∨ P0_5_ k_ ∨ P1_5_ k_) ∨ w.heap.size ≤ k_) ∧ (k_ ≠ gb243 ∧ (k_ ≠ gb244 ∧ k_ ≠ gb245)))) _ _ l0_2 a0_3 a0_4 (fun k_ => (((P0_2_ k_ ∨ P0_5_ k_ ∨ P1_5_ k_) ∨ w.heap.size ≤ k_) ∧ (k_ ≠ gb243 ∧ (k_ ≠ gb244 ∧ k_ ≠ gb245)))) _ _ l0_5 a1_0 a1_1 a1_2 a1_3 a1_4 (fun k_ => (((P0_2_ k_ ∨ P0_5_ k_ ∨ P1_5_ k_) ∨ w.heap.size ≤ k_) ∧ (k_ ≠ gb243 ∧ (k_ ≠ gb244 ∧ k_ ≠ gb245)))) _ _ l1_5 t262 t263 t264 t267 t268 t269 _ ?side1 ?side2 ?side3 A90.out q25_).mono ?_); (case side1 => exact HO_244002.out); (case side2 => exact HO_244005.out); (case side3 => exact HO_245005.out); rintro e w96 ⟨v265, v270, rfl, ho0, ho1, hb⟩; refine ⟨_, rfl, ?_⟩; have HO266 := ak_ (Kd.zcq (Kd.zao (ok' := fun k_ => ((P0_2_ k_ ∨ P0_5_ k_ ∨ P1_5_ k_) ∨ w.heap.size ≤ k_) ∧ k_ ≠ gb243 ∧ k_ ≠ gb244 ∧ k_ ≠ gb245) ho0 (fun k_ hk_ => ⟨Or.elim hk_ (fun hs_ => Or.elim hs_ (fun hs_ => hs_.1) (fun hs_ => Or.elim hs_ (fun hs_ => hs_.1) (fun hs_ => hs_.1))) (fun hn_ => (.inr (Nat.le_trans (zaj q0_) hn_))), Or.elim hk_ (fun hs_ => Or.elim hs_ (fun hs_ => hs_.2.1) (fun hs_ => Or.elim hs_ (fun hs_ => hs_.2.1) (fun hs_ => hs_.2.1))) (fun hn_ => (Kd.zbs (g := gb243) (o := .cells #[.int .i64 a0_0, .int .i64 a0_1, .slice A0_2 l0_2.length c0_2, .int .i64 a0_3, .int .i64 a0_4, .slice A0_5 l0_5.length c0_5] 33 (0, 0)) q36_ k_ hn_)), Or.elim hk_ (fun hs_ => Or.elim hs_ (fun hs_ => hs_.2.2.1) (fun hs_ => Or.elim hs_ (fun hs_ => hs_.2.2.1) (fun hs_ => hs_.2.2.1))) (fun hn_ => (Kd.zbs (g := gb244) (o := .cells #[.int .i64 a1_0, .int .i64 a1_1, .int .i64 a1_2, .int .i64 a1_3, .int .i64 a1_4, .slice A1_5 l1_5.length c1_5] 41 (0, 0)) q39_ k_ hn_)), Or.elim hk_ (fun hs_ => Or.elim hs_ (fun hs_ => hs_.2.2.2) (fun hs_ => Or.elim hs_ (fun hs_ => hs_.2.2.2) (fun hs_ => hs_.2.2.2))) (fun hn_ => (Kd.zbs (g := gb245) (o := .cells #[.int .i64 0, .int .i64 0, .slice none 0 0, .int .i64 0, .int .i64 0, .slice none 0 0] 33 (0, 0)) q46_ k_ hn_))⟩)) (zaj q0_)); have HO271 := ak_ (Kd.zcq (Kd.zao (ok' := fun k_ => ((P0_2_ k_ ∨ P0_5_ k_ ∨ P1_5_ k_) ∨ w.heap.size ≤ k_) ∧ k_ ≠ gb243 ∧ k_ ≠ gb244 ∧ k_ ≠ gb245) ho1 (fun k_ hk_ => ⟨Or.elim hk_ (fun hs_ => Or.elim hs_ (fun hs_ => hs_.1) (fun hs_ => Or.elim hs_ (fun hs_ => hs_.1) (fun hs_ => hs_.1))) (fun hn_ => (.inr (Nat.le_trans (zaj q0_) hn_))), Or.elim hk_ (fun hs_ => Or.elim hs_ (fun hs_ => hs_.2.1) (fun hs_ => Or.elim hs_ (fun hs_ => hs_.2.1) (fun hs_ => hs_.2.1))) (fun hn_ => (Kd.zbs (g := gb243) (o := .cells #[.int .i64 a0_0, .int .i64 a0_1, .slice A0_2 l0_2.length c0_2, .int .i64 a0_3, .int .i64 a0_4, .slice A0_5 l0_5.length c0_5] 33 (0, 0)) q36_ k_ hn_)), Or.elim hk_ (fun hs_ => Or.elim hs_ (fun hs_ => hs_.2.2.1) (fun hs_ => Or.elim hs_ (fun hs_ => hs_.2.2.1) (fun hs_ => hs_.2.2.1))) (fun hn_ => (Kd.zbs (g := gb244) (o := .cells #[.int .i64 a1_0, .int .i64 a1_1, .int .i64 a1_2, .int .i64 a1_3, .int .i64 a1_4, .slice A1_5 l1_5.length c1_5] 41 (0, 0)) q39_ k_ hn_)), Or.elim hk_ (fun hs_ => Or.elim hs_ (fun hs_ => hs_.2.2.2) (fun hs_ => Or.elim hs_ (fun hs_ => hs_.2.2.2) (fun hs_ => hs_.2.2.2))) (fun hn_ => (Kd.zbs (g := gb245) (o := .cells #[.int .i64 0, .int .i64 0, .slice none 0 0, .int .i64 0, .int .i64 0, .slice none 0 0] 33 (0, 0)) q46_ k_ hn_))⟩)) (zaj q0_)); replace HO_244002 := Vb_ q173_ hb; replace HO_244005 := Vb_ q172_ hb; replace HO_245005 := Vb_ q171_ hb; replace BK243 := bb_ q36_ hb; replace BK244 := bb_ q39_ hb; replace BK245 := bb_ q46_ hb; replace HB := bs_ hb; clear hb; (try clear ho0); (try clear ho1); have hz97 := bc6_ (w := w96) BK245.out; obtain ⟨Ao98, co98, eo98⟩ := Kd.zcs HO266.out; subst eo98; obtain ⟨Ao99, co99, eo99⟩ := Kd.zcs HO271.out; subst eo99))
       refine bodyPost_ret (results_cell_row rfl _ _ gb245 33 #[.int .i64 t262, .int .i64 t263, .slice Ao98 t264.length co98, .int .i64 t267, .int .i64 t268, .slice Ao99 t269.length co99] (0, 0) _ rfl (bp_ (bp_ (bp_ (bp_ (bp_ (bp_ BK245.out)))))) Tryd.underlying33 rfl (by kernel_rfl)) rfl ?_
       exact ⟨_, _, q5_, by (with_reducible repeat (first | apply Kd.zbg | apply Kd.zbf | apply Kd.zbl)); exact Kd.zao (Vf_ (Vf_ (Vf_ (Vf_ (Vf_ (Vf_ (Kd.zao HO266.out (fun k_ hk => (⟨hk, hk.2.2.2⟩ : _ ∧ k_ ≠ gb245))))))))) (fun _ hk => hk.1.1), by (with_reducible repeat (first | apply Kd.zbg | apply Kd.zbf | apply Kd.zbl)); exact Kd.zao (Vf_ (Vf_ (Vf_ (Vf_ (Vf_ (Vf_ (Kd.zao HO271.out (fun k_ hk => (⟨hk, hk.2.2.2⟩ : _ ∧ k_ ≠ gb245))))))))) (fun _ hk => hk.1.1), q0_⟩
      ·rw [if_neg c89] at H
       have c89b0 : decide (a0_1 < a1_2) = false := decide_eq_false c89
       clear c89
       simp only [Option.some.injEq, Prod.mk.injEq] at H
       obtain ⟨rfl, rfl, rfl, rfl, rfl, rfl⟩ := H
       have hz105 := bc6_ (w := wc) BK245.out
       go_wp2
       refine bodyPost_ret (results_cell_row rfl _ _ gb245 33 #[.int .i64 a0_0, .int .i64 a0_1, .slice A0_2 l0_2.length c0_2, .int .i64 a0_3, .int .i64 a0_4, .slice A0_5 l0_5.length c0_5] (0, 0) _ rfl q16_ Tryd.underlying33 rfl (by kernel_rfl)) rfl ?_
       exact ⟨_, _, q5_, q48_, q47_, q0_⟩
     ·rw [if_neg c88] at H
      have c88b0 := bn_ c88
      have c88b1 := bn1_ c88
      simp only [Option.some.injEq, Prod.mk.injEq] at H
      obtain ⟨rfl, rfl, rfl, rfl, rfl, rfl⟩ := H
      have hfz110_5 := zaf BK243.out 5
      have hz111 := bc6_ (w := wc) BK245.out
      go_wp2
      refine bodyPost_ret (results_cell_row rfl _ _ gb245 33 #[.int .i64 a0_0, .int .i64 a0_1, .slice A0_2 l0_2.length c0_2, .int .i64 a0_3, .int .i64 a0_4, .slice A0_5 l0_5.length c0_5] (0, 0) _ rfl q16_ Tryd.underlying33 rfl (by kernel_rfl)) rfl ?_
      exact ⟨_, _, q5_, q48_, q47_, q0_⟩

end Go.Proofs.YtchpbnabbjdfgaaDoor.P
