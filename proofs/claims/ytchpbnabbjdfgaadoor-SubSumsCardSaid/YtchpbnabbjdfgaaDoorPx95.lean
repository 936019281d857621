-- HALVED
import Derived.Test.YtchpbnabbjdfgaaDoorPx0
import Derived.Test.YtchpbnabbjdfgaaDoorPx82
namespace Go.Proofs.YtchpbnabbjdfgaaDoor.P
open Go.RowKit Go.Proofs.YtchpbnabbjdfgaaDoorW.PrintWords Go.Proofs.YtchpbnabbjdfgaaDoorW.PrintLast Go.Proofs.YtchpbnabbjdfgaaDoorW.PrintMore
attribute [local go_sem] zdz zer zel zem zdi zdj zea zeb   -- for this text's walks alone
set_option linter.unusedVariables false
set_option linter.unusedSimpArgs false
set_option maxHeartbeats 8000000
set_option maxRecDepth 100000
def zie.f (a0 : Int) : Option (Int × Int × (List (S56)) × Int × Int × (List (S41)) × Int) := if a0 < 1 then (some (0, 0, ([] : List (S56)), 0, 0, ([] : List (S41)), 1)) else (if a0 > 4 then (some (0, 0, ([] : List (S56)), 0, 0, ([] : List (S41)), 1)) else (some (a0, 0, ([] : List (S56)), 0, 0, ([] : List (S41)), 0)))
theorem zie.calls (a0 : Int) (r1 : Int) (r2 : Int) (r3 : List (S56)) (r4 : Int) (r5 : Int) (r6 : List (S41)) (r7 : Int) (w : World) (h : zie.f a0 = some (r1, r2, r3, r4, r5, r6, r7)) :
  Calls Tryd.prog 18 #[.int .i64 a0] w fun e w' => ∃ v2_ v5_ : Value, e = .returned (.tuple #[.agg #[.int .i64 r1, .int .i64 r2, v2_, .int .i64 r4, .int .i64 r5, v5_], .int .i64 r7]) ∧ Kd.R k56 56 w' w.heap.size (fun _ => True) v2_ r3 ∧ Kd.R k41 41 w' w.heap.size (fun k_ => some k_ ≠ (v2_ : Value).ownBlock) v5_ r6 ∧ Below w.heap.size w w' := by
 have hu33 := Tryd.underlying33
 have HB := ak_ (Below.refl w.heap.size w)
 have H := h
 unfold zie.f at H
 clear h
 by_cases c2 : a0 < 1
 ·rw [if_pos c2] at H
  have c2b0 := decide_eq_true c2
  clear c2
  simp only [Option.some.injEq, Prod.mk.injEq] at H
  obtain ⟨rfl, rfl, rfl, rfl, rfl, rfl, rfl⟩ := H
  go_enter Tryd.func18, Tryd.ntmps18
  go_wp2_with (first | ((with_reducible refine gd_ 2 rfl ?_); refine by_ #[.int .i64 0, .int .i64 0, .slice none 0 0, .int .i64 0, .int .i64 0, .slice none 0 0] 33 ?_; intro gb272 hg w3 BK272 hb; have GE272 := ak_ (q2_ : w.heap.size ≤ gb272); replace HB := bs_ hb; clear hb hg; have hz4 := bc6_ (w := w3) BK272.out))
  refine bodyPost_ret (zil rfl _ _ gb272 33 #[.int .i64 0, .int .i64 0, .slice none 0 0, .int .i64 0, .int .i64 0, .slice none 0 0] (0, 0) _ rfl q53_ Tryd.underlying33 rfl (by kernel_rfl)) rfl ?_
  exact ⟨_, _, q5_, q52_, q52_, q0_⟩
 ·rw [if_neg c2] at H
  have c2b0 := decide_eq_false c2
  clear c2
  by_cases c5 : a0 > 4
  ·rw [if_pos c5] at H
   have c5b0 : decide (4 < a0) = true := decide_eq_true c5
   clear c5
   simp only [Option.some.injEq, Prod.mk.injEq] at H
   obtain ⟨rfl, rfl, rfl, rfl, rfl, rfl, rfl⟩ := H
   go_enter Tryd.func18, Tryd.ntmps18
   go_wp2_with (first | ((with_reducible refine gd_ 2 rfl ?_); refine by_ #[.int .i64 0, .int .i64 0, .slice none 0 0, .int .i64 0, .int .i64 0, .slice none 0 0] 33 ?_; intro gb272 hg w6 BK272 hb; have GE272 := ak_ (q2_ : w.heap.size ≤ gb272); replace HB := bs_ hb; clear hb hg; have hz7 := bc6_ (w := w6) BK272.out))
   refine bodyPost_ret (zil rfl _ _ gb272 33 #[.int .i64 0, .int .i64 0, .slice none 0 0, .int .i64 0, .int .i64 0, .slice none 0 0] (0, 0) _ rfl q53_ Tryd.underlying33 rfl (by kernel_rfl)) rfl ?_
   exact ⟨_, _, q5_, q52_, q52_, q0_⟩
  ·rw [if_neg c5] at H
   have c5b0 : decide (4 < a0) = false := decide_eq_false c5
   clear c5
   simp only [Option.some.injEq, Prod.mk.injEq] at H
   obtain ⟨rfl, rfl, rfl, rfl, rfl, rfl, rfl⟩ := H
   go_enter Tryd.func18, Tryd.ntmps18
   go_wp2_with (first | ((with_reducible refine gd_ 2 rfl ?_); refine by_ #[.int .i64 0, .int .i64 0, .slice none 0 0, .int .i64 0, .int .i64 0, .slice none 0 0] 33 ?_; intro gb272 hg w8 BK272 hb; have GE272 := ak_ (q2_ : w.heap.size ≤ gb272); replace HB := bs_ hb; clear hb hg; have hz9 := bc6_ (w := w8) BK272.out))
   refine bodyPost_ret (zil rfl _ _ gb272 33 #[.int .i64 a0, .int .i64 0, .slice none 0 0, .int .i64 0, .int .i64 0, .slice none 0 0] (0, 0) _ rfl (bp_ (bp_ (bp_ (bp_ (bp_ (bp_ BK272.out)))))) Tryd.underlying33 rfl (by kernel_rfl)) rfl ?_
   exact ⟨_, _, q5_, q52_, q52_, q0_⟩
def zgf.f (k : Nat) (a0_0 : Int) (a0_1 : Int) (l0_2 : List (S56)) (a0_3 : Int) (a0_4 : Int) (l0_5 : List (S41)) : Option (Int × Int × Int × Int × Int × (List (S56)) × Bool) := (zax.f k a0_0 a0_1 l0_2 a0_3 a0_4 l0_5).bind fun t275 => (if t275 = true then (some (3, a0_0, a0_1, 0, 0, ([] : List (S56)), true)) else (some (0, 0, 0, 0, 0, ([] : List (S56)), false)))
theorem zgf.mono : ∀ a0 a1 a2 a3 a4 a5 k, LeO (zgf.f k a0 a1 a2 a3 a4 a5) (zgf.f (k + 1) a0 a1 a2 a3 a4 a5) := by
 intro a0 a1 a2 a3 a4 a5 k
 unfold zgf.f
 with_reducible repeat' first
   | apply zax.mono
   | apply LeO.refl
   | apply LeO.none
   | refine LeO.ite ?_ ?_
   | refine LeO.bind ?_ (fun _ => ?_)
theorem zgf.calls (k : Nat) (a0_0 : Int) (a0_1 : Int) (A0_2 : Option Addr) (c0_2 : Nat) (l0_2 : List (S56)) (a0_3 : Int) (a0_4 : Int) (A0_5 : Option Addr) (c0_5 : Nat) (l0_5 : List (S41)) (r1 : Int) (r2 : Int) (r3 : Int) (r4 : Int) (r5 : Int) (r6 : List (S56)) (r7 : Bool) (w : World) (hr0_2 : Kd.C k56 w A0_2 l0_2.length l0_2) (hc0_2 : l0_2.length ≤ c0_2) (hr0_5 : Kd.C k41 w A0_5 l0_5.length l0_5) (hc0_5 : l0_5.length ≤ c0_5) (h : zgf.f k a0_0 a0_1 l0_2 a0_3 a0_4 l0_5 = some (r1, r2, r3, r4, r5, r6, r7)) (hG : Glob w) :
  Calls Tryd.prog 21 #[.agg #[.int .i64 a0_0, .int .i64 a0_1, .slice A0_2 l0_2.length c0_2, .int .i64 a0_3, .int .i64 a0_4, .slice A0_5 l0_5.length c0_5]] w fun e w' => ∃ v5_ : Value, e = .returned (.tuple #[.agg #[.int .i64 r1, .int .i64 r2, .int .i64 r3, .int .i64 r4, .int .i64 r5, v5_], .bool r7]) ∧ Kd.R k56 56 w' w.heap.size (fun _ => True) v5_ r6 ∧ Below w.heap.size w w' := by
 have hu33 := Tryd.underlying33
 have hu41 := Tryd.underlying41
 have HG := ak_ hG
 clear hG
 have HR0_2 := ak_ hr0_2
 have HC0_2 := ak_ hc0_2
 clear hr0_2 hc0_2
 have HR0_5 := ak_ hr0_5
 have HC0_5 := ak_ hc0_5
 clear hr0_5 hc0_5
 have HB := ak_ (Below.refl w.heap.size w)
 have H : ((zax.f k a0_0 a0_1 l0_2 a0_3 a0_4 l0_5).bind fun t275 => (if t275 = true then (some (3, a0_0, a0_1, 0, 0, ([] : List (S56)), true)) else (some (0, 0, 0, 0, 0, ([] : List (S56)), false)))) = some (r1, r2, r3, r4, r5, r6, r7) := h
 clear h
 obtain ⟨t275, A2, H⟩ := bi_ H
 try dsimp only at H
 go_enter Tryd.func21, Tryd.ntmps21
 by_cases c3 : t275 = true
 ·subst c3
  replace H := ifT_ H
  simp only [Option.some.injEq, Prod.mk.injEq] at H
  obtain ⟨rfl, rfl, rfl, rfl, rfl, rfl, rfl⟩ := H
  go_wp2_with (first | ((with_reducible refine gd_ 1 rfl ?_); refine by_ #[.int .i64 a0_0, .int .i64 a0_1, .slice A0_2 l0_2.length c0_2, .int .i64 a0_3, .int .i64 a0_4, .slice A0_5 l0_5.length c0_5] 33 ?_; intro gb273 hg w4 BK273 hb; have GE273 := ak_ (q2_ : w.heap.size ≤ gb273); replace HB := bs_ hb; clear hb hg) | ((with_reducible refine gd_ 2 rfl ?_); refine by_ #[.int .i64 0, .int .i64 0, .int .i64 0, .int .i64 0, .int .i64 0, .slice none 0 0] 41 ?_; intro gb274 hg w5 BK274 hb; have GE274 := ak_ (q2_ : w.heap.size ≤ gb274); have NB273_274 := nl_ hg q110_; have NB274_273 := ne_ NB273_274; replace BK273 := bb_ q110_ hb; replace HB := bs_ hb; clear hb hg; have hn6 := np_ NB273_274; have hz7 := bc6_ (w := w5) BK273.out) | ((with_reducible refine gc_ 15 rfl ?_); refine zbo (some 5) rfl rfl Tryd.func15 (by kernel_rfl) rfl #[.agg #[.int .i64 a0_0, .int .i64 a0_1, .slice A0_2 l0_2.length c0_2, .int .i64 a0_3, .int .i64 a0_4, .slice A0_5 l0_5.length c0_5]] rfl q3_ ?_; (with_reducible refine ca_ (zax.calls k a0_0 a0_1 _ _ l0_2 a0_3 a0_4 _ _ l0_5 true _ ?side1 HC0_2.out ?side3 HC0_5.out A2.out q137_) ?_); (case side1 => exact cx_ (Kd.zcc HR0_2.out HB.out)); (case side3 => exact cx_ (Kd.zcc HR0_5.out HB.out)); intro w8 hb; replace BK273 := bb_ q110_ hb; replace BK274 := ak_ (zdb (g := gb274) (o := .cells #[.int .i64 0, .int .i64 0, .int .i64 0, .int .i64 0, .int .i64 0, .slice none 0 0] 41 (0, 0)) (by (with_reducible repeat first | apply bN_ | apply bD_ | apply bA_); exact BK274.out) hb); replace HB := bs_ hb; clear hb; have hz9 := bc6_ (w := w8) BK273.out; have hz10 := bc6_ (w := w8) BK274.out))
  refine bodyPost_ret (zil rfl _ _ gb274 41 #[.int .i64 3, .int .i64 a0_0, .int .i64 a0_1, .int .i64 0, .int .i64 0, .slice none 0 0] (0, 0) _ rfl (bp_ (bp_ (bp_ (bp_ (bp_ (bp_ BK274.out)))))) Tryd.underlying41 rfl (by kernel_rfl)) rfl ?_
  exact ⟨_, q5_, q52_, q0_⟩
 ·replace c3 := Bool.eq_false_iff.mpr c3
  subst c3
  replace H := ifF_ H
  simp only [Option.some.injEq, Prod.mk.injEq] at H
  obtain ⟨rfl, rfl, rfl, rfl, rfl, rfl, rfl⟩ := H
  go_wp2_with (first | ((with_reducible refine gd_ 1 rfl ?_); refine by_ #[.int .i64 a0_0, .int .i64 a0_1, .slice A0_2 l0_2.length c0_2, .int .i64 a0_3, .int .i64 a0_4, .slice A0_5 l0_5.length c0_5] 33 ?_; intro gb273 hg w11 BK273 hb; have GE273 := ak_ (q2_ : w.heap.size ≤ gb273); replace HB := bs_ hb; clear hb hg) | ((with_reducible refine gd_ 2 rfl ?_); refine by_ #[.int .i64 0, .int .i64 0, .int .i64 0, .int .i64 0, .int .i64 0, .slice none 0 0] 41 ?_; intro gb274 hg w12 BK274 hb; have GE274 := ak_ (q2_ : w.heap.size ≤ gb274); have NB273_274 := nl_ hg q110_; have NB274_273 := ne_ NB273_274; replace BK273 := bb_ q110_ hb; replace HB := bs_ hb; clear hb hg; have hn13 := np_ NB273_274; have hz14 := bc6_ (w := w12) BK273.out) | ((with_reducible refine gc_ 15 rfl ?_); refine zbo (some 5) rfl rfl Tryd.func15 (by kernel_rfl) rfl #[.agg #[.int .i64 a0_0, .int .i64 a0_1, .slice A0_2 l0_2.length c0_2, .int .i64 a0_3, .int .i64 a0_4, .slice A0_5 l0_5.length c0_5]] rfl q3_ ?_; (with_reducible refine ca_ (zax.calls k a0_0 a0_1 _ _ l0_2 a0_3 a0_4 _ _ l0_5 false _ ?side1 HC0_2.out ?side3 HC0_5.out A2.out q137_) ?_); (case side1 => exact cx_ (Kd.zcc HR0_2.out HB.out)); (case side3 => exact cx_ (Kd.zcc HR0_5.out HB.out)); intro w15 hb; replace BK273 := bb_ q110_ hb; replace BK274 := ak_ (zdb (g := gb274) (o := .cells #[.int .i64 0, .int .i64 0, .int .i64 0, .int .i64 0, .int .i64 0, .slice none 0 0] 41 (0, 0)) (by (with_reducible repeat first | apply bN_ | apply bD_ | apply bA_); exact BK274.out) hb); replace HB := bs_ hb; clear hb; have hz16 := bc6_ (w := w15) BK274.out))
  refine bodyPost_ret (zil rfl _ _ gb274 41 #[.int .i64 0, .int .i64 0, .int .i64 0, .int .i64 0, .int .i64 0, .slice none 0 0] (0, 0) _ rfl (bp_ (bp_ (bp_ (bp_ (bp_ (bp_ BK274.out)))))) Tryd.underlying41 rfl (by kernel_rfl)) rfl ?_
  exact ⟨_, q5_, q52_, q0_⟩

end Go.Proofs.YtchpbnabbjdfgaaDoor.P
