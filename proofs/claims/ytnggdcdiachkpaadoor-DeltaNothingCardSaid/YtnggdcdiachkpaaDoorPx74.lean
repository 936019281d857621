-- HALVED
import Derived.Test.YtnggdcdiachkpaaDoorPx0
import Derived.Test.YtnggdcdiachkpaaDoorPx4
import Derived.Test.YtnggdcdiachkpaaDoorPx61
import Derived.Test.YtnggdcdiachkpaaDoorPx68
import Derived.Test.YtnggdcdiachkpaaDoorPx70
namespace Go.Proofs.YtnggdcdiachkpaaDoor.P
open Go.RowKit Go.Proofs.YtnggdcdiachkpaaDoorW.PrintWords Go.Proofs.YtnggdcdiachkpaaDoorW.PrintLast Go.Proofs.YtnggdcdiachkpaaDoorW.PrintMore
attribute [local go_sem] zdl zeh zee zed zdc zdb zdn zdk   -- for this text's walks alone
set_option linter.unusedVariables false
set_option linter.unusedSimpArgs false
set_option maxHeartbeats 8000000
set_option maxRecDepth 100000
mutual
def zcx.j0 : Nat → Int → Bool → Int → Bool → Int → Int → ByteArray → Int → Int → ByteArray → Option (Int × Int × ByteArray × Int)
 | 0, _, _, _, _, _, _, _, _, _, _ => none
 | k + 1, x0, x8, x12, x40, x298000, x298001, x298002, x299000, x299001, x299002 => if x40 = true then ((zcp.f k x0 x298000 x298001 x298002 x299000 x299001 x299002).bind fun bt316 => (some (bt316.1, bt316.2.1, bt316.2.2, 0))) else (if x12 = 16 then ((zdr.f x8).bind fun bt319 => (some (bt319.1, bt319.2.1, bt319.2.2, 0))) else (if x8 = true then (zcx.j1 k x0 true x298000 x298001 x298002 x299000 x299001 x299002) else (zcx.j1 k x0 (x299000 == 0) x298000 x298001 x298002 x299000 x299001 x299002)))
def zcx.j1 : Nat → Int → Bool → Int → Int → ByteArray → Int → Int → ByteArray → Option (Int × Int × ByteArray × Int)
 | 0, _, _, _, _, _, _, _, _ => none
 | k + 1, x0, x51, x298000, x298001, x298002, x299000, x299001, x299002 => if x51 = true then (some (0, 0, (⟨#[]⟩ : ByteArray), 0)) else (if x0 = 15 then ((zdr.f (x298001 == 0)).bind fun bt322 => (some (bt322.1, bt322.2.1, bt322.2.2, 0))) else ((zbw.f k x298000 x298001 x298002 x299000 x299001 x299002).bind fun t325 => ((zfp.f x0 t325).bind fun t326 => ((zdr.f t326).bind fun bt327 => (some (bt327.1, bt327.2.1, bt327.2.2, 0))))))
end
def zcx.f (k : Nat) (a0 : Int) (a1_0 : Int) (a1_1 : Int) (a1_2 : ByteArray) (a2_0 : Int) (a2_1 : Int) (a2_2 : ByteArray) : Option (Int × Int × ByteArray × Int) := if a0 = 3 then ((zfd.f k a1_0 a1_1 a1_2 a2_0 a2_1 a2_2).bind fun bt300 => (some (bt300.1, bt300.2.1, bt300.2.2.1, bt300.2.2.2))) else (if a0 = 4 then ((zdz.f k a1_0 a1_1 a1_2 a2_0 a2_1 a2_2).bind fun bt304 => (some (bt304.1, bt304.2.1, bt304.2.2.1, bt304.2.2.2))) else (if a0 = 5 then ((zcb.f k a1_0 a1_1 a1_2 a2_0 a2_1 a2_2).bind fun bt308 => (some (bt308.1, bt308.2.1, bt308.2.2.1, bt308.2.2.2))) else (if a0 = 6 then ((zfh.f k a1_0 a1_1 a1_2).bind fun bt312 => (some (bt312.1, bt312.2.1, bt312.2.2.1, bt312.2.2.2))) else (if a0 = 13 then (zcx.j0 k a0 (a1_0 == 0) a0 (a0 == 13) a1_0 a1_1 a1_2 a2_0 a2_1 a2_2) else (zcx.j0 k a0 (a1_0 == 0) a0 (a0 == 14) a1_0 a1_1 a1_2 a2_0 a2_1 a2_2)))))
theorem zcx.zci : ∀ k, (∀ y0 y1 y2 y3 y4 y5 y6 y7 y8 y9, LeO (zcx.j0 k y0 y1 y2 y3 y4 y5 y6 y7 y8 y9) (zcx.j0 (k + 1) y0 y1 y2 y3 y4 y5 y6 y7 y8 y9)) ∧ (∀ y0 y1 y2 y3 y4 y5 y6 y7, LeO (zcx.j1 k y0 y1 y2 y3 y4 y5 y6 y7) (zcx.j1 (k + 1) y0 y1 y2 y3 y4 y5 y6 y7))
 | 0 => ⟨fun _ _ _ _ _ _ _ _ _ _ r h => by simp [zcx.j0] at h, fun _ _ _ _ _ _ _ _ r h => by simp [zcx.j1] at h⟩
 | k + 1 => by
  obtain ⟨ih0, ih1⟩ := zcx.zci k
  refine ⟨?_, ?_⟩
  all_goals intros
  all_goals first
   | unfold zcx.j0
   | unfold zcx.j1
  all_goals with_reducible repeat' first
   | apply ih0
   | apply ih1
   | apply zcp.mono
   | apply zfd.mono
   | apply zbw.mono
   | apply zcb.mono
   | apply zfh.mono
   | apply zdz.mono
   | apply LeO.refl
   | apply LeO.none
   | refine LeO.ite ?_ ?_
   | refine LeO.bind ?_ (fun _ => ?_)
theorem zcx.mono : ∀ a0 a1 a2 a3 a4 a5 a6 k, LeO (zcx.f k a0 a1 a2 a3 a4 a5 a6) (zcx.f (k + 1) a0 a1 a2 a3 a4 a5 a6) := by
 intro a0 a1 a2 a3 a4 a5 a6 k
 obtain ⟨ih0, ih1⟩ := zcx.zci k
 unfold zcx.f
 with_reducible repeat' first
   | apply ih0
   | apply ih1
   | apply zcp.mono
   | apply zfd.mono
   | apply zbw.mono
   | apply zcb.mono
   | apply zfh.mono
   | apply zdz.mono
   | apply LeO.refl
   | apply LeO.none
   | refine LeO.ite ?_ ?_
   | refine LeO.bind ?_ (fun _ => ?_)
theorem zcx.calls (k : Nat) (a0 : Int) (a1_0 : Int) (a1_1 : Int) (a1_2 : ByteArray) (a2_0 : Int) (a2_1 : Int) (a2_2 : ByteArray) (r1 : Int) (r2 : Int) (r3 : ByteArray) (r4 : Int) (w : World) (h : zcx.f k a0 a1_0 a1_1 a1_2 a2_0 a2_1 a2_2 = some (r1, r2, r3, r4)) (hG : Glob w) :
  Calls Tryd.prog 57 #[.int .i64 a0, .agg #[.int .i64 a1_0, .int .i64 a1_1, .string a1_2], .agg #[.int .i64 a2_0, .int .i64 a2_1, .string a2_2]] w fun e w' => e = .returned (.tuple #[.agg #[.int .i64 r1, .int .i64 r2, .string r3], .int .i64 r4]) ∧ Below w.heap.size w w' := by
 have hu48 := Tryd.underlying48; have HG := ak_ hG; clear hG; have HB := ak_ (Below.refl w.heap.size w); have H := h; unfold zcx.f at H; clear h
 by_cases c4 : a0 = 3
 ·rw [if_pos c4] at H; have c4b0 := bq_ c4; have c4b1 := bq0_ c4; clear c4; obtain ⟨⟨t300, t301, t302, t303⟩, A5, H⟩ := bi_ H; replace H : (some (t300, t301, t302, t303)) = some (r1, r2, r3, r4) := H; simp only [Option.some.injEq, Prod.mk.injEq] at H; obtain ⟨rfl, rfl, rfl, rfl⟩ := H; go_enter Tryd.func57, Tryd.ntmps57; go_wp2_with (first | ((with_reducible refine gd_ 4 rfl ?_); refine by_ #[.int .i64 a1_0, .int .i64 a1_1, .string a1_2] 48 ?_; intro gb297 hg w6 BK297 hb; have GE297 := gw_ hg; replace HB := bs_ hb; clear hb hg) | ((with_reducible refine gd_ 5 rfl ?_); refine by_ #[.int .i64 a2_0, .int .i64 a2_1, .string a2_2] 48 ?_; intro gb298 hg w7 BK298 hb; have GE298 := gw_ hg; have NB297_298 := nl_ hg q19_; have NB298_297 := ne_ NB297_298; replace BK297 := bb_ q19_ hb; replace HB := bs_ hb; clear hb hg) | ((with_reducible refine gd_ 6 rfl ?_); refine by_ #[.int .i64 0, .int .i64 0, .string (⟨#[]⟩ : ByteArray)] 48 ?_; intro gb299 hg w8 BK299 hb; have GE299 := gw_ hg; have NB297_299 := nl_ hg q19_; have NB299_297 := ne_ NB297_299; have NB298_299 := nl_ hg q35_; have NB299_298 := ne_ NB298_299; replace BK297 := bb_ q19_ hb; replace BK298 := bb_ q35_ hb; replace HB := bs_ hb; clear hb hg; have hn9 := np_ NB297_298; have hn10 := np_ NB297_299; have hz11 := bc3_ (w := w8) BK297.out; have hn12 := np_ NB298_299; have hz13 := bc3_ (w := w8) BK298.out) | ((with_reducible refine gc_ 81 rfl ?_); refine gl_ 17 Tryd.func81 #[.agg #[.int .i64 a1_0, .int .i64 a1_1, .string a1_2], .agg #[.int .i64 a2_0, .int .i64 a2_1, .string a2_2]] ?_; (with_reducible refine ca_ (zfd.calls k a1_0 a1_1 a1_2 a2_0 a2_1 a2_2 t300 t301 t302 t303 _ A5.out q69_) ?_); intro w14 hb; replace BK297 := bb_ q19_ hb; replace BK298 := bb_ q35_ hb; replace BK299 := bb_ q70_ hb; replace HB := bs_ hb; clear hb; have hz15 := bc3_ (w := w14) BK299.out)); refine bodyPost_ret (zcs rfl _ _ gb299 48 #[.int .i64 t300, .int .i64 t301, .string t302] (0, 0) _ rfl (bp_ (bp_ (bp_ BK299.out))) Tryd.underlying48 rfl (by kernel_rfl)) rfl ?_; exact ⟨q3_, q0_⟩
 ·rw [if_neg c4] at H; have c4b0 := bn_ c4; have c4b1 := bn1_ c4
  by_cases c16 : a0 = 4
  ·rw [if_pos c16] at H; have c16b0 := bq_ c16; have c16b1 := bq0_ c16; clear c16; obtain ⟨⟨t304, t305, t306, t307⟩, A17, H⟩ := bi_ H; replace H : (some (t304, t305, t306, t307)) = some (r1, r2, r3, r4) := H; simp only [Option.some.injEq, Prod.mk.injEq] at H; obtain ⟨rfl, rfl, rfl, rfl⟩ := H; go_enter Tryd.func57, Tryd.ntmps57; go_wp2_with (first | ((with_reducible refine gd_ 4 rfl ?_); refine by_ #[.int .i64 a1_0, .int .i64 a1_1, .string a1_2] 48 ?_; intro gb297 hg w18 BK297 hb; have GE297 := gw_ hg; replace HB := bs_ hb; clear hb hg) | ((with_reducible refine gd_ 5 rfl ?_); refine by_ #[.int .i64 a2_0, .int .i64 a2_1, .string a2_2] 48 ?_; intro gb298 hg w19 BK298 hb; have GE298 := gw_ hg; have NB297_298 := nl_ hg q19_; have NB298_297 := ne_ NB297_298; replace BK297 := bb_ q19_ hb; replace HB := bs_ hb; clear hb hg) | ((with_reducible refine gd_ 6 rfl ?_); refine by_ #[.int .i64 0, .int .i64 0, .string (⟨#[]⟩ : ByteArray)] 48 ?_; intro gb299 hg w20 BK299 hb; have GE299 := gw_ hg; have NB297_299 := nl_ hg q19_; have NB299_297 := ne_ NB297_299; have NB298_299 := nl_ hg q35_; have NB299_298 := ne_ NB298_299; replace BK297 := bb_ q19_ hb; replace BK298 := bb_ q35_ hb; replace HB := bs_ hb; clear hb hg; have hn21 := np_ NB297_298; have hn22 := np_ NB297_299; have hz23 := bc3_ (w := w20) BK297.out; have hn24 := np_ NB298_299; have hz25 := bc3_ (w := w20) BK298.out) | ((with_reducible refine gc_ 82 rfl ?_); refine gl_ 24 Tryd.func82 #[.agg #[.int .i64 a1_0, .int .i64 a1_1, .string a1_2], .agg #[.int .i64 a2_0, .int .i64 a2_1, .string a2_2]] ?_; (with_reducible refine ca_ (zdz.calls k a1_0 a1_1 a1_2 a2_0 a2_1 a2_2 t304 t305 t306 t307 _ A17.out q69_) ?_); intro w26 hb; replace BK297 := bb_ q19_ hb; replace BK298 := bb_ q35_ hb; replace BK299 := bb_ q70_ hb; replace HB := bs_ hb; clear hb; have hz27 := bc3_ (w := w26) BK299.out)); refine bodyPost_ret (zcs rfl _ _ gb299 48 #[.int .i64 t304, .int .i64 t305, .string t306] (0, 0) _ rfl (bp_ (bp_ (bp_ BK299.out))) Tryd.underlying48 rfl (by kernel_rfl)) rfl ?_; exact ⟨q3_, q0_⟩
  ·rw [if_neg c16] at H; have c16b0 := bn_ c16; have c16b1 := bn1_ c16
   by_cases c28 : a0 = 5
   ·rw [if_pos c28] at H; have c28b0 := bq_ c28; have c28b1 := bq0_ c28; clear c28; obtain ⟨⟨t308, t309, t310, t311⟩, A29, H⟩ := bi_ H; replace H : (some (t308, t309, t310, t311)) = some (r1, r2, r3, r4) := H; simp only [Option.some.injEq, Prod.mk.injEq] at H; obtain ⟨rfl, rfl, rfl, rfl⟩ := H; go_enter Tryd.func57, Tryd.ntmps57; go_wp2_with (first | ((with_reducible refine gd_ 4 rfl ?_); refine by_ #[.int .i64 a1_0, .int .i64 a1_1, .string a1_2] 48 ?_; intro gb297 hg w30 BK297 hb; have GE297 := gw_ hg; replace HB := bs_ hb; clear hb hg) | ((with_reducible refine gd_ 5 rfl ?_); refine by_ #[.int .i64 a2_0, .int .i64 a2_1, .string a2_2] 48 ?_; intro gb298 hg w31 BK298 hb; have GE298 := gw_ hg; have NB297_298 := nl_ hg q19_; have NB298_297 := ne_ NB297_298; replace BK297 := bb_ q19_ hb; replace HB := bs_ hb; clear hb hg) | ((with_reducible refine gd_ 6 rfl ?_); refine by_ #[.int .i64 0, .int .i64 0, .string (⟨#[]⟩ : ByteArray)] 48 ?_; intro gb299 hg w32 BK299 hb; have GE299 := gw_ hg; have NB297_299 := nl_ hg q19_; have NB299_297 := ne_ NB297_299; have NB298_299 := nl_ hg q35_; have NB299_298 := ne_ NB298_299; replace BK297 := bb_ q19_ hb; replace BK298 := bb_ q35_ hb; replace HB := bs_ hb; clear hb hg; have hn33 := np_ NB297_298; have hn34 := np_ NB297_299; have hz35 := bc3_ (w := w32) BK297.out; have hn36 := np_ NB298_299; have hz37 := bc3_ (w := w32) BK298.out) | ((with_reducible refine gc_ 83 rfl ?_); refine gl_ 31 Tryd.func83 #[.agg #[.int .i64 a1_0, .int .i64 a1_1, .string a1_2], .agg #[.int .i64 a2_0, .int .i64 a2_1, .string a2_2]] ?_; (with_reducible refine ca_ (zcb.calls k a1_0 a1_1 a1_2 a2_0 a2_1 a2_2 t308 t309 t310 t311 _ A29.out q69_) ?_); intro w38 hb; replace BK297 := bb_ q19_ hb; replace BK298 := bb_ q35_ hb; replace BK299 := bb_ q70_ hb; replace HB := bs_ hb; clear hb; have hz39 := bc3_ (w := w38) BK299.out)); refine bodyPost_ret (zcs rfl _ _ gb299 48 #[.int .i64 t308, .int .i64 t309, .string t310] (0, 0) _ rfl (bp_ (bp_ (bp_ BK299.out))) Tryd.underlying48 rfl (by kernel_rfl)) rfl ?_; exact ⟨q3_, q0_⟩
   ·rw [if_neg c28] at H; have c28b0 := bn_ c28; have c28b1 := bn1_ c28
    by_cases c40 : a0 = 6
    ·rw [if_pos c40] at H; have c40b0 := bq_ c40; have c40b1 := bq0_ c40; clear c40; obtain ⟨⟨t312, t313, t314, t315⟩, A41, H⟩ := bi_ H; replace H : (some (t312, t313, t314, t315)) = some (r1, r2, r3, r4) := H; simp only [Option.some.injEq, Prod.mk.injEq] at H; obtain ⟨rfl, rfl, rfl, rfl⟩ := H; go_enter Tryd.func57, Tryd.ntmps57; go_wp2_with (first | ((with_reducible refine gd_ 4 rfl ?_); refine by_ #[.int .i64 a1_0, .int .i64 a1_1, .string a1_2] 48 ?_; intro gb297 hg w42 BK297 hb; have GE297 := gw_ hg; replace HB := bs_ hb; clear hb hg) | ((with_reducible refine gd_ 5 rfl ?_); refine by_ #[.int .i64 a2_0, .int .i64 a2_1, .string a2_2] 48 ?_; intro gb298 hg w43 BK298 hb; have GE298 := gw_ hg; have NB297_298 := nl_ hg q19_; have NB298_297 := ne_ NB297_298; replace BK297 := bb_ q19_ hb; replace HB := bs_ hb; clear hb hg) | ((with_reducible refine gd_ 6 rfl ?_); refine by_ #[.int .i64 0, .int .i64 0, .string (⟨#[]⟩ : ByteArray)] 48 ?_; intro gb299 hg w44 BK299 hb; have GE299 := gw_ hg; have NB297_299 := nl_ hg q19_; have NB299_297 := ne_ NB297_299; have NB298_299 := nl_ hg q35_; have NB299_298 := ne_ NB298_299; replace BK297 := bb_ q19_ hb; replace BK298 := bb_ q35_ hb; replace HB := bs_ hb; clear hb hg; have hn45 := np_ NB297_298; have hn46 := np_ NB297_299; have hz47 := bc3_ (w := w44) BK297.out) | ((with_reducible refine gc_ 84 rfl ?_); refine gl_ 37 Tryd.func84 #[.agg #[.int .i64 a1_0, .int .i64 a1_1, .string a1_2]] ?_; (with_reducible refine ca_ (zfh.calls k a1_0 a1_1 a1_2 t312 t313 t314 t315 _ A41.out q69_) ?_); intro w48 hb; replace BK297 := bb_ q19_ hb; replace BK298 := bb_ q35_ hb; replace BK299 := bb_ q70_ hb; replace HB := bs_ hb; clear hb; have hn49 := np_ NB299_298; have hz50 := bc3_ (w := w48) BK299.out)); refine bodyPost_ret (zcs rfl _ _ gb299 48 #[.int .i64 t312, .int .i64 t313, .string t314] (0, 0) _ rfl (bp_ (bp_ (bp_ BK299.out))) Tryd.underlying48 rfl (by kernel_rfl)) rfl ?_; exact ⟨q3_, q0_⟩
    ·rw [if_neg c40] at H; have c40b0 := bn_ c40; have c40b1 := bn1_ c40; have HC51 := ak_ H; clear H; go_enter Tryd.func57, Tryd.ntmps57; go_upto_if 40 with (first | ((with_reducible refine gd_ 4 rfl ?_); refine by_ #[.int .i64 a1_0, .int .i64 a1_1, .string a1_2] 48 ?_; intro gb297 hg w52 BK297 hb; have GE297 := gw_ hg; replace HB := bs_ hb; clear hb hg) | ((with_reducible refine gd_ 5 rfl ?_); refine by_ #[.int .i64 a2_0, .int .i64 a2_1, .string a2_2] 48 ?_; intro gb298 hg w53 BK298 hb; have GE298 := gw_ hg; have NB297_298 := nl_ hg q19_; have NB298_297 := ne_ NB297_298; replace BK297 := bb_ q19_ hb; replace HB := bs_ hb; clear hb hg) | ((with_reducible refine gd_ 6 rfl ?_); refine by_ #[.int .i64 0, .int .i64 0, .string (⟨#[]⟩ : ByteArray)] 48 ?_; intro gb299 hg w54 BK299 hb; have GE299 := gw_ hg; have NB297_299 := nl_ hg q19_; have NB299_297 := ne_ NB297_299; have NB298_299 := nl_ hg q35_; have NB299_298 := ne_ NB298_299; replace BK297 := bb_ q19_ hb; replace BK298 := bb_ q35_ hb; replace HB := bs_ hb; clear hb hg; have hn55 := np_ NB297_298; have hn56 := np_ NB297_299; have hz57 := bc3_ (w := w54) BK297.out))
     (try simp only [Act.put, List.setIfInBounds_toArray, List.set_cons_zero, List.set_cons_succ]); go_cut [40] (fun v40 wc => ∃ (kq : Nat) (x40_50 : Bool), v40 = .bool x40_50 ∧ zag (zcx.j0 kq a0 (a1_0 == 0) a0 x40_50 a1_0 a1_1 a1_2 a2_0 a2_1 a2_2 = some (r1, r2, r3, r4)) ∧ zag (kq ≤ k) ∧ zag (wc.heap[gb297]? = some (.cells #[.int .i64 a1_0, .int .i64 a1_1, .string a1_2] 48 (0, 0))) ∧ zag (wc.heap[gb298]? = some (.cells #[.int .i64 a2_0, .int .i64 a2_1, .string a2_2] 48 (0, 0))) ∧ zag (wc.heap[gb299]? = some (.cells #[.int .i64 0, .int .i64 0, .string (⟨#[]⟩ : ByteArray)] 48 (0, 0))) ∧ zag (Below w.heap.size w wc))
     case first =>
      have H := HC51.out; clear HC51
      by_cases c58 : a0 = 13
      ·rw [if_pos c58] at H; have c58b0 := bq_ c58; have c58b1 := bq0_ c58; clear c58; (first | rw [c58b0] | (simp only [zef, zen]; rw [c58b0]) | skip); have H' := ak_ H; clear H; go_wp2; go_meet
       case rel => exact ⟨_, ((a0 == 13)), q6_, H', ⟨by first | omega | exact Nat.le_refl _⟩, ⟨q19_⟩, ⟨q35_⟩, ⟨q70_⟩, ⟨q0_⟩⟩
      ·rw [if_neg c58] at H; have c58b0 := bn_ c58; have c58b1 := bn1_ c58; (first | rw [c58b0] | (simp only [zef, zen]; rw [c58b0]) | skip); have H' := ak_ H; clear H; go_wp2; go_meet
       case rel => exact ⟨_, ((a0 == 14)), q6_, H', ⟨by first | omega | exact Nat.le_refl _⟩, ⟨q19_⟩, ⟨q35_⟩, ⟨q70_⟩, ⟨q0_⟩⟩
     case rest =>
      clear HC51; (try clear c4b0 c4b1 c16b0 c16b1 c28b0 c28b1 c40b0 c40b1 hz57); obtain ⟨kq, x40_50, rfl, HA, HJ50, BK297, BK298, BK299, HB⟩ := hcut
      cases kq with
      | zero => exact absurd HA.out (by simp [zcx.j0])
      | succ kj50 =>
       have H := HA.out; clear HA; simp only [zcx.j0] at H
       by_cases c59 : x40_50 = true
       ·subst c59; replace H := ifT_ H; obtain ⟨⟨t316, t317, t318⟩, A60, H⟩ := bi_ H; replace H : (some (t316, t317, t318, 0)) = some (r1, r2, r3, r4) := H; simp only [Option.some.injEq, Prod.mk.injEq] at H; obtain ⟨rfl, rfl, rfl, rfl⟩ := H; have hn61 := np_ NB297_298; have hn62 := np_ NB297_299; have hz63 := bc3_ (w := wc) BK297.out; have hn64 := np_ NB298_299; have hz65 := bc3_ (w := wc) BK298.out; go_wp2_with (first | ((with_reducible refine gc_ 85 rfl ?_); refine gl_ 46 Tryd.func85 #[.int .i64 a0, .agg #[.int .i64 a1_0, .int .i64 a1_1, .string a1_2], .agg #[.int .i64 a2_0, .int .i64 a2_1, .string a2_2]] ?_; (with_reducible refine ca_ (zcp.calls kj50 a0 a1_0 a1_1 a1_2 a2_0 a2_1 a2_2 t316 t317 t318 _ A60.out) ?_); intro w66 hb; replace BK297 := bb_ q19_ hb; replace BK298 := bb_ q35_ hb; replace BK299 := bb_ q70_ hb; replace HB := bs_ hb; clear hb; have hz67 := bc3_ (w := w66) BK299.out)); refine bodyPost_ret (zcs rfl _ _ gb299 48 #[.int .i64 t316, .int .i64 t317, .string t318] (0, 0) _ rfl (bp_ (bp_ (bp_ BK299.out))) Tryd.underlying48 rfl (by kernel_rfl)) rfl ?_; exact ⟨q3_, q0_⟩
       ·replace c59 := Bool.eq_false_iff.mpr c59; subst c59; replace H := ifF_ H
        by_cases c68 : a0 = 16
        ·rw [if_pos c68] at H; have c68b0 := bq_ c68; have c68b1 := bq0_ c68; clear c68; obtain ⟨⟨t319, t320, t321⟩, A69, H⟩ := bi_ H; replace H : (some (t319, t320, t321, 0)) = some (r1, r2, r3, r4) := H; simp only [Option.some.injEq, Prod.mk.injEq] at H; obtain ⟨rfl, rfl, rfl, rfl⟩ := H; go_wp2_with (first | ((with_reducible refine gc_ 51 rfl ?_); refine gl_ 50 Tryd.func51 #[.bool (a1_0 == 0)] ?_; (with_reducible refine ca_ (zdr.calls (a1_0 == 0) t319 t320 t321 _ A69.out) ?_); intro w70 hb; replace BK297 := bb_ q19_ hb; replace BK298 := bb_ q35_ hb; replace BK299 := bb_ q70_ hb; replace HB := bs_ hb; clear hb; have hn71 := np_ NB299_297; have hn72 := np_ NB299_298; have hz73 := bc3_ (w := w70) BK299.out)); refine bodyPost_ret (zcs rfl _ _ gb299 48 #[.int .i64 t319, .int .i64 t320, .string t321] (0, 0) _ rfl (bp_ (bp_ (bp_ BK299.out))) Tryd.underlying48 rfl (by kernel_rfl)) rfl ?_; exact ⟨q3_, q0_⟩
        ·rw [if_neg c68] at H; have c68b0 := bn_ c68; have c68b1 := bn1_ c68; have HC74 := ak_ H; clear H; go_upto_region 16 with (fail)
         go_cut [51] (fun v51 wc => ∃ (kq : Nat) (x51_73 : Bool), v51 = .bool x51_73 ∧ zag (zcx.j1 kq a0 x51_73 a1_0 a1_1 a1_2 a2_0 a2_1 a2_2 = some (r1, r2, r3, r4)) ∧ zag (kq ≤ kj50) ∧ zag (wc.heap[gb297]? = some (.cells #[.int .i64 a1_0, .int .i64 a1_1, .string a1_2] 48 (0, 0))) ∧ zag (wc.heap[gb298]? = some (.cells #[.int .i64 a2_0, .int .i64 a2_1, .string a2_2] 48 (0, 0))) ∧ zag (wc.heap[gb299]? = some (.cells #[.int .i64 0, .int .i64 0, .string (⟨#[]⟩ : ByteArray)] 48 (0, 0))) ∧ zag (Below w.heap.size w wc))
         case first =>
          have H := HC74.out; clear HC74
          by_cases c75 : (a1_0 == 0) = true
          ·rw [if_pos c75] at H; have c75b0 : (a1_0 == 0) = true := c75; (try (have c75b1 : decide (a1_0 = 0) = true := by simpa using c75)); (try (have c75b2 : (a1_0 == 0) = true := by simpa using c75)); clear c75; (first | (rw [c75b0]; try simp only [c75b0] at *) | (simp only [zef, zen]; rw [c75b0]) | skip); have H' := ak_ H; clear H; go_wp2; go_meet
           case rel => exact ⟨_, (true), q6_, H', ⟨by have := HJ50.out; first | omega | exact Nat.le_refl _⟩, ⟨q19_⟩, ⟨q35_⟩, ⟨q70_⟩, ⟨q0_⟩⟩
          ·rw [if_neg c75] at H; have c75b0 : (a1_0 == 0) = false := by simpa using c75
           (try (have c75b1 : decide (a1_0 = 0) = false := by simpa using c75)); (try (have c75b2 : (a1_0 == 0) = false := by simpa using c75)); (try (have c75b3 : ¬ (a1_0 = 0) := by simpa using c75)); clear c75; (first | (rw [c75b0]; try simp only [c75b0] at *) | (simp only [zef, zen]; rw [c75b0]) | skip); have H' := ak_ H; clear H; have hn76 := np_ NB298_297; have hn77 := np_ NB298_299; have hz78 := bc3_ (w := wc) BK298.out; go_wp2; go_meet
           case rel => exact ⟨_, ((a2_0 == 0)), q6_, H', ⟨by have := HJ50.out; first | omega | exact Nat.le_refl _⟩, ⟨q19_⟩, ⟨q35_⟩, ⟨q70_⟩, ⟨q0_⟩⟩
         case rest =>
          clear HC74; (try clear c59 c68b0 c68b1); obtain ⟨kq, x51_73, rfl, HA, HJ73, BK297, BK298, BK299, HB⟩ := hcut
          cases kq with
          | zero => exact absurd HA.out (by simp [zcx.j1])
          | succ kj73 =>
           have H := HA.out; clear HA; simp only [zcx.j1] at H
           by_cases c79 : x51_73 = true
           ·subst c79; replace H := ifT_ H; simp only [Option.some.injEq, Prod.mk.injEq] at H; obtain ⟨rfl, rfl, rfl, rfl⟩ := H; have hn80 := np_ NB299_297; have hn81 := np_ NB299_298; have hz82 := bc3_ (w := wc) BK299.out; go_wp2; refine bodyPost_ret (zcs rfl _ _ gb299 48 #[.int .i64 0, .int .i64 0, .string (⟨#[]⟩ : ByteArray)] (0, 0) _ rfl (bp_ (bp_ (bp_ BK299.out))) Tryd.underlying48 rfl (by kernel_rfl)) rfl ?_; exact ⟨q3_, q0_⟩
           ·replace c79 := Bool.eq_false_iff.mpr c79; subst c79; replace H := ifF_ H; have hn85 := np_ NB297_298; have hn86 := np_ NB297_299; have hz87 := bc3_ (w := wc) BK297.out
            by_cases c83 : a0 = 15
            ·rw [if_pos c83] at H; have c83b0 := bq_ c83; have c83b1 := bq0_ c83; clear c83; obtain ⟨⟨t322, t323, t324⟩, A84, H⟩ := bi_ H; replace H : (some (t322, t323, t324, 0)) = some (r1, r2, r3, r4) := H; simp only [Option.some.injEq, Prod.mk.injEq] at H; obtain ⟨rfl, rfl, rfl, rfl⟩ := H; go_wp2_with (first | ((with_reducible refine gc_ 51 rfl ?_); refine gl_ 65 Tryd.func51 #[.bool (a1_1 == 0)] ?_; (with_reducible refine ca_ (zdr.calls (a1_1 == 0) t322 t323 t324 _ A84.out) ?_); intro w88 hb; replace BK297 := bb_ q19_ hb; replace BK298 := bb_ q35_ hb; replace BK299 := bb_ q70_ hb; replace HB := bs_ hb; clear hb; have hn89 := np_ NB299_298; have hz90 := bc3_ (w := w88) BK299.out)); refine bodyPost_ret (zcs rfl _ _ gb299 48 #[.int .i64 t322, .int .i64 t323, .string t324] (0, 0) _ rfl (bp_ (bp_ (bp_ BK299.out))) Tryd.underlying48 rfl (by kernel_rfl)) rfl ?_; exact ⟨q3_, q0_⟩
            ·rw [if_neg c83] at H; have c83b0 := bn_ c83; have c83b1 := bn1_ c83; obtain ⟨t325, A91, H⟩ := bi_ H; try dsimp only at H
             obtain ⟨t326, A92, H⟩ := bi_ H; replace H : ((zdr.f t326).bind fun bt327 => (some (bt327.1, bt327.2.1, bt327.2.2, 0))) = some (r1, r2, r3, r4) := H; obtain ⟨⟨t327, t328, t329⟩, A93, H⟩ := bi_ H; replace H : (some (t327, t328, t329, 0)) = some (r1, r2, r3, r4) := H; simp only [Option.some.injEq, Prod.mk.injEq] at H; obtain ⟨rfl, rfl, rfl, rfl⟩ := H; have hn97 := np_ NB298_299; have hz98 := bc3_ (w := wc) BK298.out; go_wp2_with (first | ((with_reducible refine gc_ 46 rfl ?_); refine gl_ 69 Tryd.func46 #[.agg #[.int .i64 a1_0, .int .i64 a1_1, .string a1_2], .agg #[.int .i64 a2_0, .int .i64 a2_1, .string a2_2]] ?_; (with_reducible refine ca_ (zbw.calls kj73 a1_0 a1_1 a1_2 a2_0 a2_1 a2_2 t325 _ A91.out) ?_); intro w99 hb; replace BK297 := bb_ q19_ hb; replace BK298 := bb_ q35_ hb; replace BK299 := bb_ q70_ hb; replace HB := bs_ hb; clear hb) | ((with_reducible refine gc_ 86 rfl ?_); refine gl_ 70 Tryd.func86 #[.int .i64 a0, .int .i64 t325] ?_; (with_reducible refine (zfp.calls a0 t325 t326 _ A92.out).mono ?_); rintro e w' ⟨rfl, ⟨nd, rfl⟩⟩; refine ⟨_, rfl, ?_⟩; (try (rw [drewN_self w99]; generalize hq_ : World.drewN w99 _ = w99; replace BK297 := ba_ hq_ q19_; replace BK298 := ba_ hq_ q35_; replace BK299 := ba_ hq_ q70_; replace HB : zag (Below w.heap.size w w99) := ⟨q153_⟩; clear hq_))) | ((with_reducible refine gc_ 51 rfl ?_); refine gl_ 71 Tryd.func51 #[.bool t326] ?_; (with_reducible refine ca_ (zdr.calls t326 t327 t328 t329 _ A93.out) ?_); intro w100 hb; replace BK297 := bb_ q19_ hb; replace BK298 := bb_ q35_ hb; replace BK299 := bb_ q70_ hb; replace HB := bs_ hb; clear hb; have hz101 := bc3_ (w := w100) BK299.out)); refine bodyPost_ret (zcs rfl _ _ gb299 48 #[.int .i64 t327, .int .i64 t328, .string t329] (0, 0) _ rfl (bp_ (bp_ (bp_ BK299.out))) Tryd.underlying48 rfl (by kernel_rfl)) rfl ?_; exact ⟨q3_, q0_⟩
def zgr.f (a0_0 : Int) (a0_1 : Int) (a0_2 : ByteArray) : Option (Bool) := (zcu.f a0_0 a0_1 a0_2).bind fun t331 => (some (!t331))
theorem zgr.calls (a0_0 : Int) (a0_1 : Int) (a0_2 : ByteArray) (r : Bool) (w : World) (h : zgr.f a0_0 a0_1 a0_2 = some r) (hG : Glob w) :
  Calls Tryd.prog 52 #[.agg #[.int .i64 a0_0, .int .i64 a0_1, .string a0_2]] w fun e w' => e = .returned (.bool r) ∧ Below w.heap.size w w' := by
 have hu48 := Tryd.underlying48; have HG := ak_ hG; clear hG; have HB := ak_ (Below.refl w.heap.size w); have H : ((zcu.f a0_0 a0_1 a0_2).bind fun t331 => (some (!t331))) = some r := h; clear h; obtain ⟨t331, A2, H⟩ := bi_ H; replace H : (some (!t331)) = some r := H; obtain rfl := Option.some.inj H; go_enter Tryd.func52, Tryd.ntmps52; go_wp2_with (first | ((with_reducible refine gd_ 1 rfl ?_); refine by_ #[.int .i64 a0_0, .int .i64 a0_1, .string a0_2] 48 ?_; intro gb330 hg w3 BK330 hb; have GE330 := gw_ hg; replace HB := bs_ hb; clear hb hg; have hz4 := bc3_ (w := w3) BK330.out) | ((with_reducible refine gc_ 53 rfl ?_); refine gl_ 4 Tryd.func53 #[.agg #[.int .i64 a0_0, .int .i64 a0_1, .string a0_2]] ?_; (with_reducible refine (zcu.calls a0_0 a0_1 a0_2 t331 _ A2.out (by first | exact HG.out | (refine Glob.below HG.out ?_; (exact q0_)) | (repeat (first | exact HG.out | apply Glob.drewN | apply Glob.drew | apply Glob.alloc)))).mono ?_); rintro e w5 ⟨rfl, hb⟩; refine ⟨_, rfl, ?_⟩; replace BK330 := ak_ (zdj (g := gb330) (o := .cells #[.int .i64 a0_0, .int .i64 a0_1, .string a0_2] 48 (0, 0)) (by (with_reducible repeat first | apply bN_ | apply bD_ | apply bA_); exact BK330.out) hb); replace HB := bs_ hb; clear hb)); go_ret; exact ⟨q3_, q0_⟩
def zap.l0 : Nat → List (S48) → Int → Int → Option (Int)
 | 0, _, _, _ => none
 | k + 1, x0, x7, x8 => if x8 < x7 then (if 0 ≤ x8 then (if x8 < (x0.length : Int) then ((zgr.f ((zak x0 x8).f0) ((zak x0 x8).f1) ((zak x0 x8).f2)).bind fun t333 => (if t333 = true then (some x8) else (zap.l0 k x0 x7 (wrap64 (x8 + 1))))) else (none)) else (none)) else (some (-1))
def zap.f (k : Nat) (l0 : List (S48))  : Option (Int) := zap.l0 k l0 (l0.length : Int) 0
theorem zap.zci : ∀ k, (∀ y0 y1 y2, LeO (zap.l0 k y0 y1 y2) (zap.l0 (k + 1) y0 y1 y2))
 | 0 => fun _ _ _ r h => by simp [zap.l0] at h
 | k + 1 => by
  have ih0 := zap.zci k
  ·intro y0 y1 y2
   unfold zap.l0
   with_reducible repeat' first
   | apply ih0
   | apply LeO.refl
   | apply LeO.none
   | refine LeO.ite ?_ ?_
   | refine LeO.bind ?_ (fun _ => ?_)
theorem zap.mono : ∀ a0 k, LeO (zap.f k a0) (zap.f (k + 1) a0) := by
 intro a0 k
 have ih0 := zap.zci k
 unfold zap.f
 with_reducible repeat' first
   | apply ih0
   | apply LeO.refl
   | apply LeO.none
   | refine LeO.ite ?_ ?_
   | refine LeO.bind ?_ (fun _ => ?_)
theorem zap.calls (k : Nat) (A0 : Option Addr) (c0 : Nat) (l0 : List (S48))  (r : Int) (w : World) (hr0 : Kd.C k48 w A0 l0.length l0) (hc0 : l0.length ≤ c0) (h : zap.f k l0 = some r) (hG : Glob w) :
  Calls Tryd.prog 70 #[.slice A0 l0.length c0, (.func (.func 52) #[] #[])] w fun e w' => e = .returned (.int .i64 r) ∧ Below w.heap.size w w' := by
 have hu48 := Tryd.underlying48; have HG := ak_ hG; clear hG; have HR0 := ak_ hr0; have HC0 := ak_ hc0; clear hr0 hc0; have HB := ak_ (Below.refl w.heap.size w); have H : (zap.l0 k l0 (l0.length : Int) 0) = some r := h; clear h; have H' := ak_ H; clear H; go_enter Tryd.func70, Tryd.ntmps70; go_wp2; go_loopg [8] k (fun kq v8 w' => ∃ (x8_1 : Int), v8 = .int .i64 x8_1 ∧ zag (zap.l0 kq l0 (l0.length : Int) x8_1 = some r) ∧ zag (kq ≤ k) ∧ zag (Below w.heap.size w w'))
 case atStart => exact ⟨(0), q6_, H', ⟨Nat.le_refl _⟩, ⟨q0_⟩⟩
 case round =>
  clear H'; obtain ⟨x8_1, rfl, HA, HK1, HB⟩ := hrel
  cases gk with
  | zero => exact absurd HA.out (by simp [zap.l0])
  | succ k1 =>
   have H := HA.out; clear HA; simp only [zap.l0] at H
   by_cases c3 : x8_1 < (l0.length : Int)
   ·rw [if_pos c3] at H; have c3b0 := decide_eq_true c3; clear c3
    by_cases c4 : 0 ≤ x8_1
    ·rw [if_pos c4] at H; have c4b0 := decide_eq_true c4; clear c4
     by_cases c5 : x8_1 < (l0.length : Int)
     ·rw [if_pos c5] at H; have c5b0 := decide_eq_true c5; clear c5; obtain ⟨t333, A6, H⟩ := bi_ H; try dsimp only at H
      have p332 : 0 ≤ (x8_1 : Int) := of_decide_eq_true q5_; have q332 : x8_1 < (l0.length : Int) := of_decide_eq_true q5_; obtain ⟨ad332, e332, hx332_0, hx332_1, hx332_2⟩ := zhz HR0.out x8_1 p332 q332; cases e332; replace hx332_0 := hc_ HB.out hx332_0; replace hx332_1 := hc_ HB.out hx332_1; replace hx332_2 := hc_ HB.out hx332_2; replace p332 := eq_true p332; replace q332 := eq_true q332
      by_cases c7 : t333 = true
      ·subst c7; replace H := ifT_ H; obtain rfl := Option.some.inj H; go_wp2_with (first | ((with_reducible refine zej (t := 11) rfl ?_); refine ziz (some 16) rfl rfl Tryd.func52 (by kernel_rfl) rfl #[.agg #[.int .i64 ((zak l0 x8_1).f0), .int .i64 ((zak l0 x8_1).f1), .string ((zak l0 x8_1).f2)]] rfl (by rfl) q2_ ?_; (with_reducible refine ca_ (zgr.calls ((zak l0 x8_1).f0) ((zak l0 x8_1).f1) ((zak l0 x8_1).f2) true _ A6.out q11_) ?_); intro w8 hb; replace HB := bs_ hb; clear hb)); go_ret; exact ⟨q3_, q0_⟩
      ·replace c7 := Bool.eq_false_iff.mpr c7; subst c7; replace H := ifF_ H; have H' := ak_ H; clear H; go_wp2_with (first | ((with_reducible refine zej (t := 11) rfl ?_); refine ziz (some 16) rfl rfl Tryd.func52 (by kernel_rfl) rfl #[.agg #[.int .i64 ((zak l0 x8_1).f0), .int .i64 ((zak l0 x8_1).f1), .string ((zak l0 x8_1).f2)]] rfl (by rfl) q2_ ?_; (with_reducible refine ca_ (zgr.calls ((zak l0 x8_1).f0) ((zak l0 x8_1).f1) ((zak l0 x8_1).f2) false _ A6.out q11_) ?_); intro w9 hb; replace HB := bs_ hb; clear hb)); go_roundg k1
       case measure => have := HK1.out; omega
       case rel => exact ⟨(wrap64 (x8_1 + 1)), q6_, H', ⟨kq_⟩, ⟨q0_⟩⟩
     ·rw [if_neg c5] at H; exact absurd H (by simp)
    ·rw [if_neg c4] at H; exact absurd H (by simp)
   ·rw [if_neg c3] at H; have c3b0 := decide_eq_false c3; clear c3; obtain rfl := Option.some.inj H; go_wp2; go_ret; exact ⟨q3_, q0_⟩
def zbv.f (k : Nat) (l0 : List (S48))  : Option (Bool) := (zap.f k l0).bind fun t334 => (some (decide (t334 ≥ 0)))
theorem zbv.mono : ∀ a0 k, LeO (zbv.f k a0) (zbv.f (k + 1) a0) := by
 intro a0 k
 unfold zbv.f
 with_reducible repeat' first
   | apply zap.mono
   | apply LeO.refl
   | apply LeO.none
   | refine LeO.ite ?_ ?_
   | refine LeO.bind ?_ (fun _ => ?_)
theorem zbv.calls (k : Nat) (A0 : Option Addr) (c0 : Nat) (l0 : List (S48))  (r : Bool) (w : World) (hr0 : Kd.C k48 w A0 l0.length l0) (hc0 : l0.length ≤ c0) (h : zbv.f k l0 = some r) (hG : Glob w) :
  Calls Tryd.prog 37 #[.slice A0 l0.length c0, (.func (.func 52) #[] #[])] w fun e w' => e = .returned (.bool r) ∧ Below w.heap.size w w' := by
 have HG := ak_ hG; clear hG; have HR0 := ak_ hr0; have HC0 := ak_ hc0; clear hr0 hc0; have HB := ak_ (Below.refl w.heap.size w); have H : ((zap.f k l0).bind fun t334 => (some (decide (t334 ≥ 0)))) = some r := h; clear h; obtain ⟨t334, A3, H⟩ := bi_ H; replace H : (some (decide (t334 ≥ 0))) = some r := H; obtain rfl := Option.some.inj H; go_enter Tryd.func37, Tryd.ntmps37; go_wp2_with (first | ((with_reducible refine gc_ 70 rfl ?_); refine gl_ 7 Tryd.func70 #[.slice A0 l0.length c0, (.func (.func 52) #[] #[])] ?_; (with_reducible refine ca_ (zap.calls k _ _ l0  t334 _ ?side1 HC0.out A3.out q11_) ?_); (case side1 => exact cx_ HR0.out); intro w4 hb; replace HB := bs_ hb; clear hb)); go_ret; exact ⟨q3_, q0_⟩

end Go.Proofs.YtnggdcdiachkpaaDoor.P
