-- HALVED
import Derived.Test.YtnggdcdiachkpaaDoorPx0
import Derived.Test.YtnggdcdiachkpaaDoorPx1
import Derived.Test.YtnggdcdiachkpaaDoorPx61
import Derived.Test.YtnggdcdiachkpaaDoorPx68
namespace Go.Proofs.YtnggdcdiachkpaaDoor.P
open Go.RowKit Go.Proofs.YtnggdcdiachkpaaDoorW.PrintWords Go.Proofs.YtnggdcdiachkpaaDoorW.PrintLast Go.Proofs.YtnggdcdiachkpaaDoorW.PrintMore
attribute [local go_sem] zdl zeh zee zed zdc zdb zdn zdk   -- for this text's walks alone
set_option linter.unusedVariables false
set_option linter.unusedSimpArgs false
set_option maxHeartbeats 8000000
set_option maxRecDepth 100000

abbrev b70_4 := sb_ (bz 13 3) 5
abbrev b70_5 := sb_ b70_4 3
mutual
def zcb.j0 : Nat → Bool → Int → Int → ByteArray → Int → Int → ByteArray → Option (Int × Int × ByteArray × Int)
 | 0, _, _, _, _, _, _, _ => none
 | k + 1, x25, x261000, x261001, x261002, x262000, x262001, x262002 => if x25 = true then ((zei.f 0 false).bind fun bt265 => (some (bt265.1, bt265.2.1, bt265.2.2.1, bt265.2.2.2))) else (if x261001 = (-9223372036854775808) then (zcb.j1 k true x261000 x261001 x261002 x262000 x262001 x262002) else (zcb.j1 k (x262001 == (-9223372036854775808)) x261000 x261001 x261002 x262000 x262001 x262002))
def zcb.j1 : Nat → Bool → Int → Int → ByteArray → Int → Int → ByteArray → Option (Int × Int × ByteArray × Int)
 | 0, _, _, _, _, _, _, _ => none
 | k + 1, x36, x261000, x261001, x261002, x262000, x262001, x262002 => if x36 = true then (if x261001 = 1 then ((zei.f (-9223372036854775808) false).bind fun bt269 => (some (bt269.1, bt269.2.1, bt269.2.2.1, bt269.2.2.2))) else ((zei.f (-9223372036854775808) (x262001 != 1)).bind fun bt273 => (some (bt273.1, bt273.2.1, bt273.2.2.1, bt273.2.2.2)))) else (if x262001 = 0 then (none) else ((zei.f (wrap64 (x261001 * x262001)) ((wrap64 (Int.tdiv (wrap64 (x261001 * x262001)) x262001)) != x261001)).bind fun bt277 => (some (bt277.1, bt277.2.1, bt277.2.2.1, bt277.2.2.2))))
end
def zcb.f (k : Nat) (a0_0 : Int) (a0_1 : Int) (a0_2 : ByteArray) (a1_0 : Int) (a1_1 : Int) (a1_2 : ByteArray) : Option (Int × Int × ByteArray × Int) := (zbs.f k a0_0 a0_1 a0_2 a1_0 a1_1 a1_2).bind fun bt263 => (if bt263.1 = true then (some (0, 0, (⟨#[]⟩ : ByteArray), bt263.2)) else (if a0_1 = 0 then (zcb.j0 k true a0_0 a0_1 a0_2 a1_0 a1_1 a1_2) else (zcb.j0 k (a1_1 == 0) a0_0 a0_1 a0_2 a1_0 a1_1 a1_2)))
theorem zcb.zci : ∀ k, (∀ y0 y1 y2 y3 y4 y5 y6, LeO (zcb.j0 k y0 y1 y2 y3 y4 y5 y6) (zcb.j0 (k + 1) y0 y1 y2 y3 y4 y5 y6)) ∧ (∀ y0 y1 y2 y3 y4 y5 y6, LeO (zcb.j1 k y0 y1 y2 y3 y4 y5 y6) (zcb.j1 (k + 1) y0 y1 y2 y3 y4 y5 y6))
 | 0 => ⟨fun _ _ _ _ _ _ _ r h => by simp [zcb.j0] at h, fun _ _ _ _ _ _ _ r h => by simp [zcb.j1] at h⟩
 | k + 1 => by
  obtain ⟨ih0, ih1⟩ := zcb.zci k
  refine ⟨?_, ?_⟩
  all_goals intros
  all_goals first
   | unfold zcb.j0
   | unfold zcb.j1
  all_goals with_reducible repeat' first
   | apply ih0
   | apply ih1
   | apply zbs.mono
   | apply LeO.refl
   | apply LeO.none
   | refine LeO.ite ?_ ?_
   | refine LeO.bind ?_ (fun _ => ?_)
theorem zcb.mono : ∀ a0 a1 a2 a3 a4 a5 k, LeO (zcb.f k a0 a1 a2 a3 a4 a5) (zcb.f (k + 1) a0 a1 a2 a3 a4 a5) := by
 intro a0 a1 a2 a3 a4 a5 k
 obtain ⟨ih0, ih1⟩ := zcb.zci k
 unfold zcb.f
 with_reducible repeat' first
   | apply ih0
   | apply ih1
   | apply zbs.mono
   | apply LeO.refl
   | apply LeO.none
   | refine LeO.ite ?_ ?_
   | refine LeO.bind ?_ (fun _ => ?_)
def zcb.T9 : Bool × List (List Nat × List Nat) := (true, [([], []), ([], []), ([], []), ([2], [2]), ([1, 3], [1, 3]), ([], []), ([5], [5]), ([4, 6], [4, 6]), ([0, 7], [0, 7]), ([8], [8]), ([8], [8]), ([9, 8, 0, 1, 2, 3, 4, 5, 6, 7, 8, 9, 10], [9]), ([10, 11, 0, 1, 2, 3, 4, 5, 6, 7, 8, 9, 10, 11], [10])])
def zcb.B9 : List Nat := [0, 0, 0, 4, 14, 0, 32, 126, 255, 511, 511, 2047, 4095]
theorem zcb.tab9 : rtab .any (opsOf Tryd.f83 9) = zcb.T9 := by kernel_rfl
theorem zcb.bits9 : zfc zcb.T9.2 zcb.B9 = true := by kernel_rfl
theorem zcb.calls (k : Nat) (a0_0 : Int) (a0_1 : Int) (a0_2 : ByteArray) (a1_0 : Int) (a1_1 : Int) (a1_2 : ByteArray) (r1 : Int) (r2 : Int) (r3 : ByteArray) (r4 : Int) (w : World) (h : zcb.f k a0_0 a0_1 a0_2 a1_0 a1_1 a1_2 = some (r1, r2, r3, r4)) (hG : Glob w) :
  Calls Tryd.prog 83 #[.agg #[.int .i64 a0_0, .int .i64 a0_1, .string a0_2], .agg #[.int .i64 a1_0, .int .i64 a1_1, .string a1_2]] w fun e w' => e = .returned (.tuple #[.agg #[.int .i64 r1, .int .i64 r2, .string r3], .int .i64 r4]) ∧ Below w.heap.size w w' := by
 have hu48 := Tryd.underlying48; have HG := ak_ hG; clear hG; have HB := ak_ (Below.refl w.heap.size w); have H := h; unfold zcb.f at H; clear h; obtain ⟨⟨t263, t264⟩, A3, H⟩ := bi_ H; try dsimp only at H
 by_cases c4 : t263 = true
 ·subst c4; replace H := ifT_ H; simp only [Option.some.injEq, Prod.mk.injEq] at H; obtain ⟨rfl, rfl, rfl, rfl⟩ := H; go_enter Tryd.func83, Tryd.ntmps83; go_wp2_with (first | ((with_reducible refine gd_ 2 rfl ?_); refine by_ #[.int .i64 a0_0, .int .i64 a0_1, .string a0_2] 48 ?_; intro gb260 hg w5 BK260 hb; have GE260 := gw_ hg; replace HB := bs_ hb; clear hb hg) | ((with_reducible refine gd_ 3 rfl ?_); refine by_ #[.int .i64 a1_0, .int .i64 a1_1, .string a1_2] 48 ?_; intro gb261 hg w6 BK261 hb; have GE261 := gw_ hg; have NB260_261 := nl_ hg q46_; have NB261_260 := ne_ NB260_261; replace BK260 := bb_ q46_ hb; replace HB := bs_ hb; clear hb hg) | ((with_reducible refine gd_ 4 rfl ?_); refine by_ #[.int .i64 0, .int .i64 0, .string (⟨#[]⟩ : ByteArray)] 48 ?_; intro gb262 hg w7 BK262 hb; have GE262 := gw_ hg; have NB260_262 := nl_ hg q46_; have NB262_260 := ne_ NB260_262; have NB261_262 := nl_ hg q61_; have NB262_261 := ne_ NB261_262; replace BK260 := bb_ q46_ hb; replace BK261 := bb_ q61_ hb; replace HB := bs_ hb; clear hb hg; have hn8 := np_ NB260_261; have hn9 := np_ NB260_262; have hz10 := bc3_ (w := w7) BK260.out; have hn11 := np_ NB261_262; have hz12 := bc3_ (w := w7) BK261.out) | ((with_reducible refine gc_ 98 rfl ?_); refine gl_ 12 Tryd.func98 #[.agg #[.int .i64 a0_0, .int .i64 a0_1, .string a0_2], .agg #[.int .i64 a1_0, .int .i64 a1_1, .string a1_2]] ?_; (with_reducible refine ca_ (zbs.calls k a0_0 a0_1 a0_2 a1_0 a1_1 a1_2 true t264 _ A3.out q171_) ?_); intro w13 hb; replace BK260 := bb_ q46_ hb; replace BK261 := bb_ q61_ hb; replace BK262 := bb_ q100_ hb; replace HB := bs_ hb; clear hb; have hz14 := bc3_ (w := w13) BK262.out)); refine bodyPost_ret (zcs rfl _ _ gb262 48 #[.int .i64 0, .int .i64 0, .string (⟨#[]⟩ : ByteArray)] (0, 0) _ rfl (bp_ (bp_ (bp_ BK262.out))) Tryd.underlying48 rfl (by kernel_rfl)) rfl ?_; exact ⟨q3_, q0_⟩
 ·replace c4 := Bool.eq_false_iff.mpr c4; subst c4; replace H := ifF_ H; have HC15 := ak_ H; clear H; go_enter Tryd.func83, Tryd.ntmps83; go_upto_region 4 with (first | ((with_reducible refine gd_ 2 rfl ?_); refine by_ #[.int .i64 a0_0, .int .i64 a0_1, .string a0_2] 48 ?_; intro gb260 hg w16 BK260 hb; have GE260 := gw_ hg; replace HB := bs_ hb; clear hb hg) | ((with_reducible refine gd_ 3 rfl ?_); refine by_ #[.int .i64 a1_0, .int .i64 a1_1, .string a1_2] 48 ?_; intro gb261 hg w17 BK261 hb; have GE261 := gw_ hg; have NB260_261 := nl_ hg q46_; have NB261_260 := ne_ NB260_261; replace BK260 := bb_ q46_ hb; replace HB := bs_ hb; clear hb hg) | ((with_reducible refine gd_ 4 rfl ?_); refine by_ #[.int .i64 0, .int .i64 0, .string (⟨#[]⟩ : ByteArray)] 48 ?_; intro gb262 hg w18 BK262 hb; have GE262 := gw_ hg; have NB260_262 := nl_ hg q46_; have NB262_260 := ne_ NB260_262; have NB261_262 := nl_ hg q61_; have NB262_261 := ne_ NB261_262; replace BK260 := bb_ q46_ hb; replace BK261 := bb_ q61_ hb; replace HB := bs_ hb; clear hb hg; have hn19 := np_ NB260_261; have hn20 := np_ NB260_262; have hz21 := bc3_ (w := w18) BK260.out; have hn22 := np_ NB261_262; have hz23 := bc3_ (w := w18) BK261.out) | ((with_reducible refine gc_ 98 rfl ?_); refine gl_ 12 Tryd.func98 #[.agg #[.int .i64 a0_0, .int .i64 a0_1, .string a0_2], .agg #[.int .i64 a1_0, .int .i64 a1_1, .string a1_2]] ?_; (with_reducible refine ca_ (zbs.calls k a0_0 a0_1 a0_2 a1_0 a1_1 a1_2 false t264 _ A3.out q171_) ?_); intro w24 hb; replace BK260 := bb_ q46_ hb; replace BK261 := bb_ q61_ hb; replace BK262 := bb_ q100_ hb; replace HB := bs_ hb; clear hb))
  (try simp only [Act.put, List.setIfInBounds_toArray, List.set_cons_zero, List.set_cons_succ]); go_cut [25] (fun v25 wc => ∃ (kq : Nat) (x25_14 : Bool), v25 = .bool x25_14 ∧ zag (zcb.j0 kq x25_14 a0_0 a0_1 a0_2 a1_0 a1_1 a1_2 = some (r1, r2, r3, r4)) ∧ zag (kq ≤ k) ∧ zag (wc.heap[gb260]? = some (.cells #[.int .i64 a0_0, .int .i64 a0_1, .string a0_2] 48 (0, 0))) ∧ zag (wc.heap[gb261]? = some (.cells #[.int .i64 a1_0, .int .i64 a1_1, .string a1_2] 48 (0, 0))) ∧ zag (wc.heap[gb262]? = some (.cells #[.int .i64 0, .int .i64 0, .string (⟨#[]⟩ : ByteArray)] 48 (0, 0))) ∧ zag (Below w.heap.size w wc))
  case first =>
   have H := HC15.out; clear HC15; have hn26 := np_ NB260_261; have hn27 := np_ NB260_262; have hz28 := bc3_ (w := w24) BK260.out
   by_cases c25 : a0_1 = 0
   ·rw [if_pos c25] at H; have c25b0 := bq_ c25; have c25b1 := bq0_ c25; clear c25; (first | rw [c25b0] | (simp only [zef, zen]; rw [c25b0]) | skip); have H' := ak_ H; clear H; go_wp2; go_meet
    case rel => exact ⟨_, (true), q6_, H', ⟨by first | omega | exact Nat.le_refl _⟩, ⟨q46_⟩, ⟨q61_⟩, ⟨q100_⟩, ⟨q0_⟩⟩
   ·rw [if_neg c25] at H; have c25b0 := bn_ c25; have c25b1 := bn1_ c25; (first | rw [c25b0] | (simp only [zef, zen]; rw [c25b0]) | skip); have H' := ak_ H; clear H; have hn32 := np_ NB261_262; have hz33 := bc3_ (w := w24) BK261.out; go_wp2; go_meet
    case rel => exact ⟨_, ((a1_1 == 0)), q6_, H', ⟨by first | omega | exact Nat.le_refl _⟩, ⟨q46_⟩, ⟨q61_⟩, ⟨q100_⟩, ⟨q0_⟩⟩
  case rest =>
   clear HC15; (try clear c4 hz21 hz23); obtain ⟨kq, x25_14, rfl, HA, HJ14, BK260, BK261, BK262, HB⟩ := hcut
   cases kq with
   | zero => exact absurd HA.out (by simp [zcb.j0])
   | succ kj14 =>
    have H := HA.out; clear HA; simp only [zcb.j0] at H
    by_cases c34 : x25_14 = true
    ·subst c34; replace H := ifT_ H; obtain ⟨⟨t265, t266, t267, t268⟩, A35, H⟩ := bi_ H; replace H : (some (t265, t266, t267, t268)) = some (r1, r2, r3, r4) := H; simp only [Option.some.injEq, Prod.mk.injEq] at H; obtain ⟨rfl, rfl, rfl, rfl⟩ := H; go_wp2_with (first | ((with_reducible refine gc_ 99 rfl ?_); refine gl_ 26 Tryd.func99 #[.int .i64 0, .bool false] ?_; (with_reducible refine ca_ (zei.calls 0 false t265 t266 t267 t268 _ A35.out) ?_); intro w36 hb; replace BK260 := bb_ q46_ hb; replace BK261 := bb_ q61_ hb; replace BK262 := bb_ q100_ hb; replace HB := bs_ hb; clear hb; have hn37 := np_ NB262_260; have hn38 := np_ NB262_261; have hz39 := bc3_ (w := w36) BK262.out)); refine bodyPost_ret (zcs rfl _ _ gb262 48 #[.int .i64 t265, .int .i64 t266, .string t267] (0, 0) _ rfl (bp_ (bp_ (bp_ BK262.out))) Tryd.underlying48 rfl (by kernel_rfl)) rfl ?_; exact ⟨q3_, q0_⟩
    ·replace c34 := Bool.eq_false_iff.mpr c34; subst c34; replace H := ifF_ H; have HC40 := ak_ H; clear H; go_upto_region 6 with (fail)
     go_cut [36] (fun v36 wc => ∃ (kq : Nat) (x36_39 : Bool), v36 = .bool x36_39 ∧ zag (zcb.j1 kq x36_39 a0_0 a0_1 a0_2 a1_0 a1_1 a1_2 = some (r1, r2, r3, r4)) ∧ zag (kq ≤ kj14) ∧ zag (wc.heap[gb260]? = some (.cells #[.int .i64 a0_0, .int .i64 a0_1, .string a0_2] 48 (0, 0))) ∧ zag (wc.heap[gb261]? = some (.cells #[.int .i64 a1_0, .int .i64 a1_1, .string a1_2] 48 (0, 0))) ∧ zag (wc.heap[gb262]? = some (.cells #[.int .i64 0, .int .i64 0, .string (⟨#[]⟩ : ByteArray)] 48 (0, 0))) ∧ zag (Below w.heap.size w wc))
     case first =>
      have H := HC40.out; clear HC40; have hn42 := np_ NB260_261; have hn43 := np_ NB260_262; have hz44 := bc3_ (w := wc) BK260.out
      by_cases c41 : a0_1 = (-9223372036854775808)
      ·rw [if_pos c41] at H; have c41b0 := bq_ c41; have c41b1 := bq0_ c41; clear c41; (first | rw [c41b0] | (simp only [zef, zen]; rw [c41b0]) | skip); have H' := ak_ H; clear H; go_wp2; go_meet
       case rel => exact ⟨_, (true), q6_, H', ⟨by have := HJ14.out; first | omega | exact Nat.le_refl _⟩, ⟨q46_⟩, ⟨q61_⟩, ⟨q100_⟩, ⟨q0_⟩⟩
      ·rw [if_neg c41] at H; have c41b0 := bn_ c41; have c41b1 := bn1_ c41; (first | rw [c41b0] | (simp only [zef, zen]; rw [c41b0]) | skip); have H' := ak_ H; clear H; have hn48 := np_ NB261_262; have hz49 := bc3_ (w := wc) BK261.out; go_wp2; go_meet
       case rel => exact ⟨_, ((a1_1 == (-9223372036854775808))), q6_, H', ⟨by have := HJ14.out; first | omega | exact Nat.le_refl _⟩, ⟨q46_⟩, ⟨q61_⟩, ⟨q100_⟩, ⟨q0_⟩⟩
     case rest =>
      clear HC40; (try clear c34); obtain ⟨kq, x36_39, rfl, HA, HJ39, BK260, BK261, BK262, HB⟩ := hcut
      cases kq with
      | zero => exact absurd HA.out (by simp [zcb.j1])
      | succ kj39 =>
       have H := HA.out; clear HA; simp only [zcb.j1] at H; have hn53 := np_ NB260_261; have hn54 := np_ NB260_262; have hcz55_0 : wc.cell? ⟨gb260, 0, none⟩ = some (.int .i64 a0_0) := bt_ BK260.out 0; have hcz55_1 : wc.cell? ⟨gb260, 1, none⟩ = some (.int .i64 a0_1) := bt_ BK260.out 1; have hcz55_2 : wc.cell? ⟨gb260, 2, none⟩ = some (.string a0_2) := bt_ BK260.out 2; have hfz55_0 := zaq BK260.out 0; have hfz55_1 := zaq BK260.out 1
       by_cases c50 : x36_39 = true
       ·subst c50; replace H := ifT_ H; have hfz55_2 := zaq BK260.out 2
        by_cases c51 : a0_1 = 1
        ·rw [if_pos c51] at H; have c51b0 := bq_ c51; have c51b1 := bq0_ c51; clear c51; obtain ⟨⟨t269, t270, t271, t272⟩, A52, H⟩ := bi_ H; replace H : (some (t269, t270, t271, t272)) = some (r1, r2, r3, r4) := H; simp only [Option.some.injEq, Prod.mk.injEq] at H; obtain ⟨rfl, rfl, rfl, rfl⟩ := H; go_wp2_with (first | ((with_reducible refine gc_ 99 rfl ?_); refine gl_ 45 Tryd.func99 #[.int .i64 (-9223372036854775808), .bool false] ?_; (with_reducible refine ca_ (zei.calls (-9223372036854775808) false t269 t270 t271 t272 _ A52.out) ?_); intro w56 hb; replace BK260 := bb_ q46_ hb; replace BK261 := bb_ q61_ hb; replace BK262 := bb_ q100_ hb; replace HB := bs_ hb; clear hb; have hn57 := np_ NB262_261; have hz58 := bc3_ (w := w56) BK262.out)); refine bodyPost_ret (zcs rfl _ _ gb262 48 #[.int .i64 t269, .int .i64 t270, .string t271] (0, 0) _ rfl (bp_ (bp_ (bp_ BK262.out))) Tryd.underlying48 rfl (by kernel_rfl)) rfl ?_; exact ⟨q3_, q0_⟩
        ·rw [if_neg c51] at H; have c51b0 := bn_ c51; have c51b1 := bn1_ c51; obtain ⟨⟨t273, t274, t275, t276⟩, A59, H⟩ := bi_ H; replace H : (some (t273, t274, t275, t276)) = some (r1, r2, r3, r4) := H; simp only [Option.some.injEq, Prod.mk.injEq] at H; obtain ⟨rfl, rfl, rfl, rfl⟩ := H; have hn63 := np_ NB261_262; have hz64 := bc3_ (w := wc) BK261.out; go_wp2_with (first | ((with_reducible refine gc_ 99 rfl ?_); refine gl_ 45 Tryd.func99 #[.int .i64 (-9223372036854775808), .bool (a1_1 != 1)] ?_; (with_reducible refine ca_ (zei.calls (-9223372036854775808) (a1_1 != 1) t273 t274 t275 t276 _ A59.out) ?_); intro w65 hb; replace BK260 := bb_ q46_ hb; replace BK261 := bb_ q61_ hb; replace BK262 := bb_ q100_ hb; replace HB := bs_ hb; clear hb; have hz66 := bc3_ (w := w65) BK262.out)); refine bodyPost_ret (zcs rfl _ _ gb262 48 #[.int .i64 t273, .int .i64 t274, .string t275] (0, 0) _ rfl (bp_ (bp_ (bp_ BK262.out))) Tryd.underlying48 rfl (by kernel_rfl)) rfl ?_; exact ⟨q3_, q0_⟩
       ·replace c50 := Bool.eq_false_iff.mpr c50; subst c50; replace H := ifF_ H
        by_cases c67 : a1_1 = 0
        ·rw [if_pos c67] at H; exact absurd H (by simp)
        ·rw [if_neg c67] at H; have c67b0 := bn_ c67; have c67b1 := bn1_ c67; obtain ⟨⟨t277, t278, t279, t280⟩, A68, H⟩ := bi_ H; replace H : (some (t277, t278, t279, t280)) = some (r1, r2, r3, r4) := H; simp only [Option.some.injEq, Prod.mk.injEq] at H; obtain ⟨rfl, rfl, rfl, rfl⟩ := H; have hfz71_2 := zaq BK260.out 2; have hn72 := np_ NB261_262; have hz73 := bc3_ (w := wc) BK261.out; try go_wp2
         replace BK260 := dB_ BK260; replace BK261 := dB_ BK261; replace BK262 := dB_ BK262; replace HB := ak_ (zbh HB.out); refine zep (n := 13) (S := fun w' => w'.cell? ⟨gb261, 0, none⟩ = some (.int .i64 a1_0) ∧ w'.cell? ⟨gb261, 1, none⟩ = some (.int .i64 a1_1) ∧ w'.cell? ⟨gb261, 2, none⟩ = some (.string a1_2) ∧ w'.cell? ⟨gb260, 0, none⟩ = some (.int .i64 a0_0) ∧ w'.cell? ⟨gb260, 1, none⟩ = some (.int .i64 a0_1) ∧ w'.cell? ⟨gb260, 2, none⟩ = some (.string a0_2)) (ds := []) (bz 13 0) (by kernel_rfl) rfl rfl ⟨bt_ BK261.out 0, bt_ BK261.out 1, bt_ BK261.out 2, bt_ BK260.out 0, bt_ BK260.out 1, bt_ BK260.out 2⟩ (fun hHeld => ?_); refine zcv zcb.tab9 zcb.bits9 (fun HT_ HW_ => ?_); generalize wc.drew = w74 at BK260 BK261 BK262 HB hHeld ⊢; refine pz_ 0 53 (bz 13 1) ?_; refine pz_ 1 54 (bz 13 2) ?_; refine pz_ 2 55 (bz 13 3) ?_; refine pz_ 5 58 b70_4 ?_; refine tz6_ 3 56 b70_5 hHeld ?_; refine pz_ 4 57 (bz 13 6) ?_; refine tz6_ 6 59 (bz 13 7) hHeld ?_; refine pz_ 7 60 (bz 13 8) ?_; refine oz_ 8 (some 61) (bz 13 9) (fun K hK => ?_); refine go1_ Tryd.func99 #[.int .i64 (wrap64 (a0_1 * a1_1)), .bool ((wrap64 (Int.tdiv (wrap64 (a0_1 * a1_1)) a1_1)) != a0_1)] ?_; (with_reducible refine ca_ (zei.calls (wrap64 (a0_1 * a1_1)) ((wrap64 (Int.tdiv (wrap64 (a0_1 * a1_1)) a1_1)) != a0_1) t277 t278 t279 t280 _ A68.out) ?_); intro w75 hb; replace BK260 := bb_ q46_ hb; replace BK261 := bb_ q61_ hb; replace BK262 := bb_ q100_ hb; replace HB := bs_ hb; clear hb; refine hK.out _ _ ⟨bt_ BK261.out 0, bt_ BK261.out 1, bt_ BK261.out 2, bt_ BK260.out 0, bt_ BK260.out 1, bt_ BK260.out 2⟩ (fun hHeld => ?_); clear hK K; refine nz_ ?_; refine pz_ 9 62 (bz 13 10) ?_; refine pz_ 10 63 (bz 13 11) ?_; refine one_ (i := 11) (N := none) (bz 13 12) rfl rfl (one_of HT_.out (by kernel_rfl)) (by decide) (fun K hK => ?_); have hs76 : w75.cell? ⟨gb262, 0, none⟩ = some (.int .i64 0) := bt_ BK262.out 0; have hfs76 := zaq BK262.out 0; have hns76_0 := NB260_262.out; have hns76_1 := NB261_262.out; have hms76_0 := NB262_260.out; have hms76_1 := NB262_261.out; have hs77 : w75.cell? ⟨gb262, 1, none⟩ = some (.int .i64 0) := bt_ BK262.out 1; have hfs77 := zaq BK262.out 1; have hns77_0 := NB260_262.out; have hns77_1 := NB261_262.out; have hms77_0 := NB262_260.out; have hms77_1 := NB262_261.out; have hs78 : w75.cell? ⟨gb262, 2, none⟩ = some (.string (⟨#[]⟩ : ByteArray)) := bt_ BK262.out 2; have hfs78 := zaq BK262.out 2; have hns78_0 := NB260_262.out; have hns78_1 := NB261_262.out; have hms78_0 := NB262_260.out; have hms78_1 := NB262_261.out; refine skip_ (w1 := ?_) (by rfl) rfl ?_ ?_; rotate_left
         ·go_simp; rfl
         refine hK.out _ _ ⟨((cell_far (p := ⟨gb262, _, none⟩) NB261_262.out _).trans (((cell_far (p := ⟨gb262, _, none⟩) NB261_262.out _).trans (((cell_far (p := ⟨gb262, _, none⟩) NB261_262.out _).trans (hHeld.1)))))), ((cell_far (p := ⟨gb262, _, none⟩) NB261_262.out _).trans (((cell_far (p := ⟨gb262, _, none⟩) NB261_262.out _).trans (((cell_far (p := ⟨gb262, _, none⟩) NB261_262.out _).trans (hHeld.2.1)))))), ((cell_far (p := ⟨gb262, _, none⟩) NB261_262.out _).trans (((cell_far (p := ⟨gb262, _, none⟩) NB261_262.out _).trans (((cell_far (p := ⟨gb262, _, none⟩) NB261_262.out _).trans (hHeld.2.2.1)))))), ((cell_far (p := ⟨gb262, _, none⟩) NB260_262.out _).trans (((cell_far (p := ⟨gb262, _, none⟩) NB260_262.out _).trans (((cell_far (p := ⟨gb262, _, none⟩) NB260_262.out _).trans (hHeld.2.2.2.1)))))), ((cell_far (p := ⟨gb262, _, none⟩) NB260_262.out _).trans (((cell_far (p := ⟨gb262, _, none⟩) NB260_262.out _).trans (((cell_far (p := ⟨gb262, _, none⟩) NB260_262.out _).trans (hHeld.2.2.2.2.1)))))), ((cell_far (p := ⟨gb262, _, none⟩) NB260_262.out _).trans (((cell_far (p := ⟨gb262, _, none⟩) NB260_262.out _).trans (((cell_far (p := ⟨gb262, _, none⟩) NB260_262.out _).trans (hHeld.2.2.2.2.2))))))⟩ (fun hHeld => ?_); clear hK K; refine pz_ 12 5 (bz 13 13) ?_; refine zfk (zdh HT_.out (by kernel_rfl)) ?_; try go_wp2
         refine bodyPost_ret (zcs rfl _ _ gb262 48 #[.int .i64 t277, .int .i64 t278, .string t279] (0, 0) _ rfl (bp_ (bp_ (bp_ BK262.out))) Tryd.underlying48 rfl (by kernel_rfl)) rfl ?_; exact ⟨q3_, q0_⟩
def zfh.f (k : Nat) (a0_0 : Int) (a0_1 : Int) (a0_2 : ByteArray) : Option (Int × Int × ByteArray × Int) := (zdz.f k 2 0 (⟨#[]⟩ : ByteArray) a0_0 a0_1 a0_2).bind fun bt283 => (some (bt283.1, bt283.2.1, bt283.2.2.1, bt283.2.2.2))
theorem zfh.mono : ∀ a0 a1 a2 k, LeO (zfh.f k a0 a1 a2) (zfh.f (k + 1) a0 a1 a2) := by
 intro a0 a1 a2 k
 unfold zfh.f
 with_reducible repeat' first
   | apply zdz.mono
   | apply LeO.refl
   | apply LeO.none
   | refine LeO.ite ?_ ?_
   | refine LeO.bind ?_ (fun _ => ?_)
theorem zfh.calls (k : Nat) (a0_0 : Int) (a0_1 : Int) (a0_2 : ByteArray) (r1 : Int) (r2 : Int) (r3 : ByteArray) (r4 : Int) (w : World) (h : zfh.f k a0_0 a0_1 a0_2 = some (r1, r2, r3, r4)) (hG : Glob w) :
  Calls Tryd.prog 84 #[.agg #[.int .i64 a0_0, .int .i64 a0_1, .string a0_2]] w fun e w' => e = .returned (.tuple #[.agg #[.int .i64 r1, .int .i64 r2, .string r3], .int .i64 r4]) ∧ Below w.heap.size w w' := by
 have hu48 := Tryd.underlying48; have HG := ak_ hG; clear hG; have HB := ak_ (Below.refl w.heap.size w); have H : ((zdz.f k 2 0 (⟨#[]⟩ : ByteArray) a0_0 a0_1 a0_2).bind fun bt283 => (some (bt283.1, bt283.2.1, bt283.2.2.1, bt283.2.2.2))) = some (r1, r2, r3, r4) := h; clear h; obtain ⟨⟨t283, t284, t285, t286⟩, A2, H⟩ := bi_ H; replace H : (some (t283, t284, t285, t286)) = some (r1, r2, r3, r4) := H; simp only [Option.some.injEq, Prod.mk.injEq] at H; obtain ⟨rfl, rfl, rfl, rfl⟩ := H; go_enter Tryd.func84, Tryd.ntmps84; go_wp2_with (first | ((with_reducible refine gd_ 1 rfl ?_); refine by_ #[.int .i64 a0_0, .int .i64 a0_1, .string a0_2] 48 ?_; intro gb281 hg w3 BK281 hb; have GE281 := gw_ hg; replace HB := bs_ hb; clear hb hg) | ((with_reducible refine gd_ 2 rfl ?_); refine by_ #[.int .i64 0, .int .i64 0, .string (⟨#[]⟩ : ByteArray)] 48 ?_; intro gb282 hg w4 BK282 hb; have GE282 := gw_ hg; have NB281_282 := nl_ hg q202_; have NB282_281 := ne_ NB281_282; replace BK281 := bb_ q202_ hb; replace HB := bs_ hb; clear hb hg; have hn5 := np_ NB281_282; have hz6 := bc3_ (w := w4) BK281.out) | ((with_reducible refine gc_ 82 rfl ?_); refine gl_ 6 Tryd.func82 #[.agg #[.int .i64 2, .int .i64 0, .string (⟨#[]⟩ : ByteArray)], .agg #[.int .i64 a0_0, .int .i64 a0_1, .string a0_2]] ?_; (with_reducible refine (zdz.calls k 2 0 (⟨#[]⟩ : ByteArray) a0_0 a0_1 a0_2 t283 t284 t285 t286 _ A2.out (by first | exact HG.out | (refine Glob.below HG.out ?_; (exact q0_)) | (repeat (first | exact HG.out | apply Glob.drewN | apply Glob.drew | apply Glob.alloc)))).mono ?_); rintro e w7 ⟨rfl, hb⟩; refine ⟨_, rfl, ?_⟩; replace BK281 := bb_ q202_ hb; replace BK282 := ak_ (zdj (g := gb282) (o := .cells #[.int .i64 0, .int .i64 0, .string (⟨#[]⟩ : ByteArray)] 48 (0, 0)) (by (with_reducible repeat first | apply bN_ | apply bD_ | apply bA_); exact BK282.out) hb); replace HB := bs_ hb; clear hb; have hz8 := bc3_ (w := w7) BK282.out)); refine bodyPost_ret (zcs rfl _ _ gb282 48 #[.int .i64 t283, .int .i64 t284, .string t285] (0, 0) _ rfl (bp_ (bp_ (bp_ BK282.out))) Tryd.underlying48 rfl (by kernel_rfl)) rfl ?_; exact ⟨q3_, q0_⟩

attribute [local go_sem high] eqA48
def zcp.j0 : Nat → Int → Bool → Int → Int → ByteArray → Int → Int → ByteArray → Int → Int → ByteArray → Option (Int × Int × ByteArray)
 | 0, _, _, _, _, _, _, _, _, _, _, _ => none
 | k + 1, x0, x11, x288000, x288001, x288002, x289000, x289001, x289002, x294000, x294001, x294002 => if x11 = true then (some (x294000, x294001, x294002)) else (if x288000 = 0 then (some (0, 0, (⟨#[]⟩ : ByteArray))) else (if x289000 = 0 then (some (0, 0, (⟨#[]⟩ : ByteArray))) else ((zdr.f (x0 == 13)).bind fun bt294 => (some (bt294.1, bt294.2.1, bt294.2.2)))))
def zcp.f (k : Nat) (a0 : Int) (a1_0 : Int) (a1_1 : Int) (a1_2 : ByteArray) (a2_0 : Int) (a2_1 : Int) (a2_2 : ByteArray) : Option (Int × Int × ByteArray) := (zdr.f (a0 == 14)).bind fun bt290 => (if (a1_0 == bt290.1 && (a1_1 == bt290.2.1 && (a1_2.toList == bt290.2.2.toList))) = true then (zcp.j0 k a0 true a1_0 a1_1 a1_2 a2_0 a2_1 a2_2 bt290.1 bt290.2.1 bt290.2.2) else (zcp.j0 k a0 (a2_0 == bt290.1 && (a2_1 == bt290.2.1 && (a2_2.toList == bt290.2.2.toList))) a1_0 a1_1 a1_2 a2_0 a2_1 a2_2 bt290.1 bt290.2.1 bt290.2.2))
theorem zcp.zci : ∀ k, (∀ y0 y1 y2 y3 y4 y5 y6 y7 y8 y9 y10, LeO (zcp.j0 k y0 y1 y2 y3 y4 y5 y6 y7 y8 y9 y10) (zcp.j0 (k + 1) y0 y1 y2 y3 y4 y5 y6 y7 y8 y9 y10))
 | 0 => fun _ _ _ _ _ _ _ _ _ _ _ r h => by simp [zcp.j0] at h
 | k + 1 => by
  have ih0 := zcp.zci k
  ·intro y0 y1 y2 y3 y4 y5 y6 y7 y8 y9 y10
   unfold zcp.j0
   with_reducible repeat' first
   | apply ih0
   | apply LeO.refl
   | apply LeO.none
   | refine LeO.ite ?_ ?_
   | refine LeO.bind ?_ (fun _ => ?_)
theorem zcp.mono : ∀ a0 a1 a2 a3 a4 a5 a6 k, LeO (zcp.f k a0 a1 a2 a3 a4 a5 a6) (zcp.f (k + 1) a0 a1 a2 a3 a4 a5 a6) := by
 intro a0 a1 a2 a3 a4 a5 a6 k
 have ih0 := zcp.zci k
 unfold zcp.f
 with_reducible repeat' first
   | apply ih0
   | apply LeO.refl
   | apply LeO.none
   | refine LeO.ite ?_ ?_
   | refine LeO.bind ?_ (fun _ => ?_)
theorem zcp.calls (k : Nat) (a0 : Int) (a1_0 : Int) (a1_1 : Int) (a1_2 : ByteArray) (a2_0 : Int) (a2_1 : Int) (a2_2 : ByteArray) (r1 : Int) (r2 : Int) (r3 : ByteArray) (w : World) (h : zcp.f k a0 a1_0 a1_1 a1_2 a2_0 a2_1 a2_2 = some (r1, r2, r3)) :
  Calls Tryd.prog 85 #[.int .i64 a0, .agg #[.int .i64 a1_0, .int .i64 a1_1, .string a1_2], .agg #[.int .i64 a2_0, .int .i64 a2_1, .string a2_2]] w fun e w' => e = .returned (.agg #[.int .i64 r1, .int .i64 r2, .string r3]) ∧ Below w.heap.size w w' := by
 have hu48 := Tryd.underlying48; have HB := ak_ (Below.refl w.heap.size w); have H := h; unfold zcp.f at H; clear h; obtain ⟨⟨t290, t291, t292⟩, A4, H⟩ := bi_ H; try dsimp only at H
 have HC5 := ak_ H; clear H; go_enter Tryd.func85, Tryd.ntmps85; go_upto_region 2 with (first | ((with_reducible refine gd_ 4 rfl ?_); refine by_ #[.int .i64 a1_0, .int .i64 a1_1, .string a1_2] 48 ?_; intro gb287 hg w6 BK287 hb; have GE287 := gw_ hg; replace HB := bs_ hb; clear hb hg) | ((with_reducible refine gd_ 5 rfl ?_); refine by_ #[.int .i64 a2_0, .int .i64 a2_1, .string a2_2] 48 ?_; intro gb288 hg w7 BK288 hb; have GE288 := gw_ hg; have NB287_288 := nl_ hg q91_; have NB288_287 := ne_ NB287_288; replace BK287 := bb_ q91_ hb; replace HB := bs_ hb; clear hb hg) | ((with_reducible refine gd_ 6 rfl ?_); refine by_ #[.int .i64 0, .int .i64 0, .string (⟨#[]⟩ : ByteArray)] 48 ?_; intro gb289 hg w8 BK289 hb; have GE289 := gw_ hg; have NB287_289 := nl_ hg q91_; have NB289_287 := ne_ NB287_289; have NB288_289 := nl_ hg q128_; have NB289_288 := ne_ NB288_289; replace BK287 := bb_ q91_ hb; replace BK288 := bb_ q128_ hb; replace HB := bs_ hb; clear hb hg) | ((with_reducible refine gc_ 51 rfl ?_); refine gl_ 10 Tryd.func51 #[.bool (a0 == 14)] ?_; (with_reducible refine ca_ (zdr.calls (a0 == 14) t290 t291 t292 _ A4.out) ?_); intro w9 hb; replace BK287 := bb_ q91_ hb; replace BK288 := bb_ q128_ hb; replace BK289 := bb_ q176_ hb; replace HB := bs_ hb; clear hb) | ((with_reducible refine gd_ 7 rfl ?_); refine by_ #[.int .i64 0, .int .i64 0, .string (⟨#[]⟩ : ByteArray)] 48 ?_; intro gb293 hg w10 BK293 hb; have GE293 := gw_ hg; have NB287_293 := nl_ hg q91_; have NB293_287 := ne_ NB287_293; have NB288_293 := nl_ hg q128_; have NB293_288 := ne_ NB288_293; have NB289_293 := nl_ hg q176_; have NB293_289 := ne_ NB289_293; replace BK287 := bb_ q91_ hb; replace BK288 := bb_ q128_ hb; replace BK289 := bb_ q176_ hb; replace HB := bs_ hb; clear hb hg; have hn11 := np_ NB293_287; have hn12 := np_ NB293_288; have hn13 := np_ NB293_289; have hz14 := bc3_ (w := w10) BK293.out))
 (try simp only [Act.put, List.setIfInBounds_toArray, List.set_cons_zero, List.set_cons_succ]); go_cut [11] (fun v11 wc => ∃ (kq : Nat) (x11_4 : Bool), v11 = .bool x11_4 ∧ zag (zcp.j0 kq a0 x11_4 a1_0 a1_1 a1_2 a2_0 a2_1 a2_2 t290 t291 t292 = some (r1, r2, r3)) ∧ zag (kq ≤ k) ∧ zag (wc.heap[gb287]? = some (.cells #[.int .i64 a1_0, .int .i64 a1_1, .string a1_2] 48 (0, 0))) ∧ zag (wc.heap[gb288]? = some (.cells #[.int .i64 a2_0, .int .i64 a2_1, .string a2_2] 48 (0, 0))) ∧ zag (wc.heap[gb289]? = some (.cells #[.int .i64 0, .int .i64 0, .string (⟨#[]⟩ : ByteArray)] 48 (0, 0))) ∧ zag (wc.heap[gb293]? = some (.cells #[.int .i64 t290, .int .i64 t291, .string t292] 48 (0, 0))) ∧ zag (Below w.heap.size w wc))
 case first =>
  have H := HC5.out; clear HC5
  by_cases c15 : (a1_0 == t290 && (a1_1 == t291 && (a1_2.toList == t292.toList))) = true
  ·rw [if_pos c15] at H; have c15b0 : (a1_0 == t290 && (a1_1 == t291 && (a1_2.toList == t292.toList))) = true := c15; (try (have c15b1 : decide (a1_0 = t290 && (a1_1 == t291 && (a1_2.toList == t292.toList))) = true := by simpa using c15)); (try (have c15b2 : (a1_0 == t290 && (a1_1 == t291 && (a1_2.toList == t292.toList))) = true := by simpa using c15)); clear c15; (first | (rw [c15b0]; try simp only [c15b0] at *) | (simp only [zef, zen]; rw [c15b0]) | skip); have H' := ak_ H; clear H; have hn16 := np_ NB287_288; have hn17 := np_ NB287_289; have hn18 := np_ NB287_293; have hz19 := bc3_ (w := w10) BK287.out; have hn20 := np_ NB293_288; have hn21 := np_ NB293_289; have hz22 := bc3_ (w := w10) BK293.out; go_wp2; go_meet
   case rel => exact ⟨_, (true), q6_, H', ⟨by first | omega | exact Nat.le_refl _⟩, ⟨q166_⟩, ⟨q165_⟩, ⟨q164_⟩, ⟨q124_⟩, ⟨q0_⟩⟩
  ·rw [if_neg c15] at H; have c15b0 : (a1_0 == t290 && (a1_1 == t291 && (a1_2.toList == t292.toList))) = false := by simpa using c15
   (try (have c15b1 : decide (a1_0 = t290 && (a1_1 == t291 && (a1_2.toList == t292.toList))) = false := by simpa using c15)); (try (have c15b2 : (a1_0 == t290 && (a1_1 == t291 && (a1_2.toList == t292.toList))) = false := by simpa using c15)); (try (have c15b3 : ¬ (a1_0 = t290 && (a1_1 == t291 && (a1_2.toList == t292.toList))) := by simpa using c15)); clear c15; (first | (rw [c15b0]; try simp only [c15b0] at *) | (simp only [zef, zen]; rw [c15b0]) | skip); have H' := ak_ H; clear H; have hn23 := np_ NB287_288; have hn24 := np_ NB287_289; have hn25 := np_ NB287_293; have hz26 := bc3_ (w := w10) BK287.out; have hn27 := np_ NB293_288; have hn28 := np_ NB293_289; have hz29 := bc3_ (w := w10) BK293.out; have hn30 := np_ NB288_289; have hz31 := bc3_ (w := w10) BK288.out; go_wp2; go_meet
   case rel => exact ⟨_, ((a2_0 == t290 && (a2_1 == t291 && (a2_2.toList == t292.toList)))), q6_, H', ⟨by first | omega | exact Nat.le_refl _⟩, ⟨q166_⟩, ⟨q165_⟩, ⟨q164_⟩, ⟨q124_⟩, ⟨q0_⟩⟩
 case rest =>
  clear HC5; (try clear hz14); obtain ⟨kq, x11_4, rfl, HA, HJ4, BK287, BK288, BK289, BK293, HB⟩ := hcut
  cases kq with
  | zero => exact absurd HA.out (by simp [zcp.j0])
  | succ kj4 =>
   have H := HA.out; clear HA; simp only [zcp.j0] at H
   by_cases c32 : x11_4 = true
   ·subst c32; replace H := ifT_ H; simp only [Option.some.injEq, Prod.mk.injEq] at H; obtain ⟨rfl, rfl, rfl⟩ := H; have hn33 := np_ NB293_287; have hn34 := np_ NB293_288; have hn35 := np_ NB293_289; have hz36 := bc3_ (w := wc) BK293.out; have hn37 := np_ NB289_287; have hn38 := np_ NB289_288; have hz39 := bc3_ (w := wc) BK289.out; go_wp2; refine bodyPost_ret (results_cell_row rfl _ _ gb289 48 #[.int .i64 t290, .int .i64 t291, .string t292] (0, 0) _ rfl (bp_ (bp_ (bp_ BK289.out))) Tryd.underlying48 rfl (by kernel_rfl)) rfl ?_; exact ⟨q3_, q0_⟩
   ·replace c32 := Bool.eq_false_iff.mpr c32; subst c32; replace H := ifF_ H; have hn41 := np_ NB287_288; have hn42 := np_ NB287_289; have hn43 := np_ NB287_293; have hz44 := bc3_ (w := wc) BK287.out
    by_cases c40 : a1_0 = 0
    ·rw [if_pos c40] at H; have c40b0 := bq_ c40; have c40b1 := bq0_ c40; clear c40; simp only [Option.some.injEq, Prod.mk.injEq] at H; obtain ⟨rfl, rfl, rfl⟩ := H; have hn45 := np_ NB289_288; have hn46 := np_ NB289_293; have hz47 := bc3_ (w := wc) BK289.out; go_wp2; refine bodyPost_ret (results_cell_row rfl _ _ gb289 48 #[.int .i64 0, .int .i64 0, .string (⟨#[]⟩ : ByteArray)] (0, 0) _ rfl q126_ Tryd.underlying48 rfl (by kernel_rfl)) rfl ?_; exact ⟨q3_, q0_⟩
    ·rw [if_neg c40] at H; have c40b0 := bn_ c40; have c40b1 := bn1_ c40; have hn53 := np_ NB288_289; have hn54 := np_ NB288_293; have hz55 := bc3_ (w := wc) BK288.out
     by_cases c48 : a2_0 = 0
     ·rw [if_pos c48] at H; have c48b0 := bq_ c48; have c48b1 := bq0_ c48; clear c48; simp only [Option.some.injEq, Prod.mk.injEq] at H; obtain ⟨rfl, rfl, rfl⟩ := H; have hn56 := np_ NB289_293; have hz57 := bc3_ (w := wc) BK289.out; go_wp2; refine bodyPost_ret (results_cell_row rfl _ _ gb289 48 #[.int .i64 0, .int .i64 0, .string (⟨#[]⟩ : ByteArray)] (0, 0) _ rfl q126_ Tryd.underlying48 rfl (by kernel_rfl)) rfl ?_; exact ⟨q3_, q0_⟩
     ·rw [if_neg c48] at H; have c48b0 := bn_ c48; have c48b1 := bn1_ c48; obtain ⟨⟨t294, t295, t296⟩, A58, H⟩ := bi_ H; replace H : (some (t294, t295, t296)) = some (r1, r2, r3) := H; simp only [Option.some.injEq, Prod.mk.injEq] at H; obtain ⟨rfl, rfl, rfl⟩ := H; go_wp2_with (first | ((with_reducible refine gc_ 51 rfl ?_); refine gl_ 33 Tryd.func51 #[.bool (a0 == 13)] ?_; (with_reducible refine ca_ (zdr.calls (a0 == 13) t294 t295 t296 _ A58.out) ?_); intro w66 hb; replace BK287 := bb_ q91_ hb; replace BK288 := bb_ q128_ hb; replace BK289 := bb_ q176_ hb; replace BK293 := ak_ (zdj (g := gb293) (o := .cells #[.int .i64 t290, .int .i64 t291, .string t292] 48 (0, 0)) (by (with_reducible repeat first | apply bN_ | apply bD_ | apply bA_); exact BK293.out) hb); replace HB := bs_ hb; clear hb; have hn67 := np_ NB289_293; have hz68 := bc3_ (w := w66) BK289.out)); refine bodyPost_ret (results_cell_row rfl _ _ gb289 48 #[.int .i64 t294, .int .i64 t295, .string t296] (0, 0) _ rfl (bp_ (bp_ (bp_ BK289.out))) Tryd.underlying48 rfl (by kernel_rfl)) rfl ?_; exact ⟨q3_, q0_⟩
def zfp.f (a0 : Int) (a1 : Int) : Option (Bool) := if a0 = 7 then (some (a1 == 0)) else (if a0 = 8 then (some (a1 != 0)) else (if a0 = 9 then (some (decide (a1 < 0))) else (if a0 = 10 then (some (decide (a1 ≤ 0))) else (if a0 = 11 then (some (decide (a1 > 0))) else (some (decide (a1 ≥ 0)))))))
theorem zfp.calls (a0 : Int) (a1 : Int) (r : Bool) (w : World) (h : zfp.f a0 a1 = some r) :
  Calls Tryd.prog 86 #[.int .i64 a0, .int .i64 a1] w fun e w' => e = .returned (.bool r) ∧ zeo w w' := by
 have H := h; unfold zfp.f at H; clear h
 by_cases c3 : a0 = 7
 ·rw [if_pos c3] at H; have c3b0 := bq_ c3; have c3b1 := bq0_ c3; clear c3; obtain rfl := Option.some.inj H; go_enter Tryd.func86, Tryd.ntmps86; go_wp2; go_ret; exact ⟨q6_, q18_⟩
 ·rw [if_neg c3] at H; have c3b0 := bn_ c3; have c3b1 := bn1_ c3
  by_cases c4 : a0 = 8
  ·rw [if_pos c4] at H; have c4b0 := bq_ c4; have c4b1 := bq0_ c4; clear c4; obtain rfl := Option.some.inj H; go_enter Tryd.func86, Tryd.ntmps86; go_wp2; go_ret; exact ⟨q6_, q18_⟩
  ·rw [if_neg c4] at H; have c4b0 := bn_ c4; have c4b1 := bn1_ c4
   by_cases c5 : a0 = 9
   ·rw [if_pos c5] at H; have c5b0 := bq_ c5; have c5b1 := bq0_ c5; clear c5; obtain rfl := Option.some.inj H; go_enter Tryd.func86, Tryd.ntmps86; go_wp2; go_ret; exact ⟨q6_, q18_⟩
   ·rw [if_neg c5] at H; have c5b0 := bn_ c5; have c5b1 := bn1_ c5
    by_cases c6 : a0 = 10
    ·rw [if_pos c6] at H; have c6b0 := bq_ c6; have c6b1 := bq0_ c6; clear c6; obtain rfl := Option.some.inj H; go_enter Tryd.func86, Tryd.ntmps86; go_wp2; go_ret; exact ⟨q6_, q18_⟩
    ·rw [if_neg c6] at H; have c6b0 := bn_ c6; have c6b1 := bn1_ c6; go_enter Tryd.func86, Tryd.ntmps86
     by_cases c7 : a0 = 11
     ·rw [if_pos c7] at H; have c7b0 := bq_ c7; have c7b1 := bq0_ c7; clear c7; obtain rfl := Option.some.inj H; go_wp2; go_ret; exact ⟨q6_, q18_⟩
     ·rw [if_neg c7] at H; have c7b0 := bn_ c7; have c7b1 := bn1_ c7; obtain rfl := Option.some.inj H; go_wp2; go_ret; exact ⟨q6_, q18_⟩

end Go.Proofs.YtnggdcdiachkpaaDoor.P
