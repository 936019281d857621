-- HALVED
import Derived.Test.YtchpbnabbjdfgaaDoorPx0
import Derived.Test.YtchpbnabbjdfgaaDoorPx23
import Derived.Test.YtchpbnabbjdfgaaDoorPx37
namespace Go.Proofs.YtchpbnabbjdfgaaDoor.P
open Go.RowKit Go.Proofs.YtchpbnabbjdfgaaDoorW.PrintWords Go.Proofs.YtchpbnabbjdfgaaDoorW.PrintLast Go.Proofs.YtchpbnabbjdfgaaDoorW.PrintMore
attribute [local go_sem] zdz zer zel zem zdi zdj zea zeb   -- for this text's walks alone
set_option linter.unusedVariables false
set_option linter.unusedSimpArgs false
set_option maxHeartbeats 8000000
set_option maxRecDepth 100000

abbrev b82_11 := sb_ (bz 45 10) 11
abbrev b82_18 := sb_ (bz 45 17) 18
abbrev b82_25 := sb_ (bz 45 24) 25
abbrev b82_35 := sb_ (bz 45 34) 35
abbrev b82_36 := sb_ b82_35 36
abbrev b82_37 := sb_ b82_36 40
abbrev b82_38 := sb_ b82_37 34
abbrev b82_39 := sb_ b82_38 37
abbrev b82_40 := sb_ b82_39 38
mutual
def zax.j0 : Nat → Bool → Int → Int → List (S56) → Int → Int → List (S41) → Option (Bool)
 | 0, _, _, _, _, _, _, _ => none
 | k + 1, x28, x225000, x225001, x225002, x225003, x225004, x225005 => if x28 = true then (some false) else (if x225003 = 0 then (if x225004 = 0 then (zax.j1 k ((x225005.length : Int) == 0) x225000 x225001 x225002 x225003 x225004 x225005) else (zax.j1 k false x225000 x225001 x225002 x225003 x225004 x225005)) else (zax.j1 k false x225000 x225001 x225002 x225003 x225004 x225005))
def zax.j1 : Nat → Bool → Int → Int → List (S56) → Int → Int → List (S41) → Option (Bool)
 | 0, _, _, _, _, _, _, _ => none
 | k + 1, x42, x225000, x225001, x225002, x225003, x225004, x225005 => if x42 = true then (some true) else (zax.l0 k x225005 (x225005.length : Int) 0 x225000 x225001 x225002 x225003 x225004 x225005)
def zax.l0 : Nat → List (S41) → Int → Int → Int → Int → List (S56) → Int → Int → List (S41) → Option (Bool)
 | 0, _, _, _, _, _, _, _, _, _ => none
 | k + 1, x44, x45, x46, x225000, x225001, x225002, x225003, x225004, x225005 => if x46 < x45 then (if 0 ≤ x46 then (if x46 < (x44.length : Int) then (if ((zaa x44 x46).f0) = 2 then ((zbc.f k ((zaa x44 x46).f0) ((zaa x44 x46).f1) ((zaa x44 x46).f2) ((zaa x44 x46).f3) ((zaa x44 x46).f4) ((zaa x44 x46).f5)).bind fun t228 => (if t228 = true then (if ((zaa x44 x46).f1) = x225000 then (if ((zaa x44 x46).f2) = x225003 then (if ((zaa x44 x46).f4) = x225004 then (if x46 > 0 then (if 0 ≤ (wrap64 (x46 - 1)) then (if (wrap64 (x46 - 1)) < (x225005.length : Int) then (if ((zaa x225005 (wrap64 (x46 - 1))).f3) ≥ ((zaa x44 x46).f3) then (some false) else (zax.l0 k x44 x45 (wrap64 (x46 + 1)) x225000 x225001 x225002 x225003 x225004 x225005)) else (none)) else (none)) else (zax.l0 k x44 x45 (wrap64 (x46 + 1)) x225000 x225001 x225002 x225003 x225004 x225005)) else (some false)) else (some false)) else (some false)) else (some false))) else (some false)) else (none)) else (none)) else (if x225003 > x225001 then (if x225004 ≥ 1 then (if x225004 ≤ 16 then (if (x225005.length : Int) ≥ 1 then (some (decide ((x225005.length : Int) < x225004))) else (some false)) else (some false)) else (some false)) else (some false))
end
def zax.f (k : Nat) (a0_0 : Int) (a0_1 : Int) (l0_2 : List (S56)) (a0_3 : Int) (a0_4 : Int) (l0_5 : List (S41)) : Option (Bool) := if a0_0 < 1 then (zax.j0 k true a0_0 a0_1 l0_2 a0_3 a0_4 l0_5) else (if a0_0 > 4 then (zax.j0 k true a0_0 a0_1 l0_2 a0_3 a0_4 l0_5) else (if a0_1 < 0 then (zax.j0 k true a0_0 a0_1 l0_2 a0_3 a0_4 l0_5) else (if a0_1 > 549755813888 then (zax.j0 k true a0_0 a0_1 l0_2 a0_3 a0_4 l0_5) else ((zby.f k l0_2).bind fun t225 => (zax.j0 k (!t225) a0_0 a0_1 l0_2 a0_3 a0_4 l0_5)))))
theorem zax.zch : ∀ k, (∀ y0 y1 y2 y3 y4 y5 y6, LeO (zax.j0 k y0 y1 y2 y3 y4 y5 y6) (zax.j0 (k + 1) y0 y1 y2 y3 y4 y5 y6)) ∧ (∀ y0 y1 y2 y3 y4 y5 y6, LeO (zax.j1 k y0 y1 y2 y3 y4 y5 y6) (zax.j1 (k + 1) y0 y1 y2 y3 y4 y5 y6)) ∧ (∀ y0 y1 y2 y3 y4 y5 y6 y7 y8, LeO (zax.l0 k y0 y1 y2 y3 y4 y5 y6 y7 y8) (zax.l0 (k + 1) y0 y1 y2 y3 y4 y5 y6 y7 y8))
 | 0 => ⟨fun _ _ _ _ _ _ _ r h => by simp [zax.j0] at h, fun _ _ _ _ _ _ _ r h => by simp [zax.j1] at h, fun _ _ _ _ _ _ _ _ _ r h => by simp [zax.l0] at h⟩
 | k + 1 => by
  obtain ⟨ih0, ih1, ih2⟩ := zax.zch k
  refine ⟨?_, ?_, ?_⟩
  all_goals intros
  all_goals first
   | unfold zax.j0
   | unfold zax.j1
   | unfold zax.l0
  all_goals with_reducible repeat' first
   | apply ih0
   | apply ih1
   | apply ih2
   | apply zbc.mono
   | apply zby.mono
   | apply LeO.refl
   | apply LeO.none
   | refine LeO.ite ?_ ?_
   | refine LeO.bind ?_ (fun _ => ?_)
theorem zax.mono : ∀ a0 a1 a2 a3 a4 a5 k, LeO (zax.f k a0 a1 a2 a3 a4 a5) (zax.f (k + 1) a0 a1 a2 a3 a4 a5) := by
 intro a0 a1 a2 a3 a4 a5 k
 obtain ⟨ih0, ih1, ih2⟩ := zax.zch k
 unfold zax.f
 with_reducible repeat' first
   | apply ih0
   | apply ih1
   | apply ih2
   | apply zbc.mono
   | apply zby.mono
   | apply LeO.refl
   | apply LeO.none
   | refine LeO.ite ?_ ?_
   | refine LeO.bind ?_ (fun _ => ?_)
def zax.T8 : Bool × List (List Nat × List Nat) := (true, [([], []), ([0], [0]), ([1], [1]), ([2], [2]), ([3], [3]), ([4, 3, 3], [3, 4]), ([5, 3], [3, 5]), ([3, 6], [3, 6]), ([7, 5], [7]), ([8], [8]), ([9, 8], [8, 9]), ([8], [8]), ([11, 8], [8, 11]), ([10, 12, 8], [8, 10, 12]), ([8, 13], [8, 13]), ([14, 8], [14]), ([15], [15]), ([16, 15], [15, 16]), ([15], [15]), ([18, 15], [15, 18]), ([17, 19, 15], [15, 17, 19]), ([15, 20], [15, 20]), ([21, 15], [21]), ([22], [22]), ([23, 22], [22, 23]), ([22], [22]), ([25, 22], [22, 25]), ([24, 26, 22], [22, 24, 26]), ([22, 27], [22, 27]), ([28, 22], [28]), ([29], [29]), ([30, 29], [29, 30]), ([31, 29, 29], [29, 31]), ([32], [32]), ([33, 32], [32, 33]), ([32], [32]), ([35, 32], [32, 35]), ([34, 36, 32], [32, 34, 36]), ([37, 32], [32, 37]), ([38, 32], [32, 38]), ([32], [32]), ([40, 32], [32, 40]), ([39, 41, 32], [32, 39, 41]), ([32, 42, 29], [29, 32, 42]), ([29, 43], [29, 43])])
def zax.B8 : List Nat := [0, 1, 3, 7, 15, 31, 63, 127, 255, 511, 1023, 511, 2559, 8191, 16383, 32767, 65535, 131071, 65535, 327679, 1048575, 2097151, 4194303, 8388607, 16777215, 8388607, 41943039, 134217727, 268435455, 536870911, 1073741823, 2147483647, 4294967295, 8589934591, 17179869183, 8589934591, 42949672959, 137438953471, 274877906943, 549755813887, 8589934591, 1108101562367, 4398046511103, 8796093022207, 17592186044415]
theorem zax.tab8 : rtab .any (opsOf Tryd.f15 8) = zax.T8 := by kernel_rfl
theorem zax.bits8 : zgg zax.T8.2 zax.B8 = true := by kernel_rfl
theorem zax.calls (k : Nat) (a0_0 : Int) (a0_1 : Int) (A0_2 : Option Addr) (c0_2 : Nat) (l0_2 : List (S56)) (a0_3 : Int) (a0_4 : Int) (A0_5 : Option Addr) (c0_5 : Nat) (l0_5 : List (S41)) (r : Bool) (w : World) (hr0_2 : Kd.C k56 w A0_2 l0_2.length l0_2) (hc0_2 : l0_2.length ≤ c0_2) (hr0_5 : Kd.C k41 w A0_5 l0_5.length l0_5) (hc0_5 : l0_5.length ≤ c0_5) (h : zax.f k a0_0 a0_1 l0_2 a0_3 a0_4 l0_5 = some r) (hG : Glob w) :
  Calls Tryd.prog 15 #[.agg #[.int .i64 a0_0, .int .i64 a0_1, .slice A0_2 l0_2.length c0_2, .int .i64 a0_3, .int .i64 a0_4, .slice A0_5 l0_5.length c0_5]] w fun e w' => e = .returned (.bool r) ∧ Below w.heap.size w w' := by
 have hu33 := Tryd.underlying33
 have hu41 := Tryd.underlying41
 have HG := ak_ hG
 clear hG
 have HR0_2 := ak_ hr0_2
 have HC0_2 := ak_ hc0_2
 clear hr0_2 hc0_2
 have HR0_5 := ak_ hr0_5
 have HC0_5 := ak_ hc0_5
 clear hr0_5 hc0_5
 have HB := ak_ (Below.refl w.heap.size w)
 have H := h
 unfold zax.f at H
 clear h
 have HC2 := ak_ H
 clear H
 go_enter Tryd.func15, Tryd.ntmps15
 go_upto_region 1 with (first | ((with_reducible refine gd_ 1 rfl ?_); (try (refine zcu (by rfl) ?_; dsimp only)); refine by_ #[.int .i64 a0_0, .int .i64 a0_1, .slice A0_2 l0_2.length c0_2, .int .i64 a0_3, .int .i64 a0_4, .slice A0_5 l0_5.length c0_5] 33 ?_; intro gb224 hg w3 BK224 hb; have GE224 := ak_ (q2_ : w.heap.size ≤ gb224); replace HB := bs_ hb; clear hb hg))
 (try simp only [Act.put, List.setIfInBounds_toArray, List.set_cons_zero, List.set_cons_succ])
 go_cut [28] (fun v28 wc => ∃ (kq : Nat) (x28_1 : Bool), v28 = .bool x28_1 ∧ zab (zax.j0 kq x28_1 a0_0 a0_1 l0_2 a0_3 a0_4 l0_5 = some r) ∧ zab (kq ≤ k) ∧ zab (wc.heap[gb224]? = some (.cells #[.int .i64 a0_0, .int .i64 a0_1, (.slice A0_2 l0_2.length c0_2), .int .i64 a0_3, .int .i64 a0_4, (.slice A0_5 l0_5.length c0_5)] 33 (0, 0))) ∧ zab (Below w.heap.size w wc))
 case first =>
  have H := HC2.out
  clear HC2
  have hcz5_0 : w3.cell? ⟨gb224, 0, none⟩ = some (.int .i64 a0_0) := bt_ BK224.out 0
  have hcz5_1 : w3.cell? ⟨gb224, 1, none⟩ = some (.int .i64 a0_1) := bt_ BK224.out 1
  have hcz5_2 : w3.cell? ⟨gb224, 2, none⟩ = some (.slice A0_2 l0_2.length c0_2) := bt_ BK224.out 2
  have hcz5_3 : w3.cell? ⟨gb224, 3, none⟩ = some (.int .i64 a0_3) := bt_ BK224.out 3
  have hcz5_4 : w3.cell? ⟨gb224, 4, none⟩ = some (.int .i64 a0_4) := bt_ BK224.out 4
  have hcz5_5 : w3.cell? ⟨gb224, 5, none⟩ = some (.slice A0_5 l0_5.length c0_5) := bt_ BK224.out 5
  have hfz5_0 := zaf BK224.out 0
  have hfz5_1 := zaf BK224.out 1
  have hfz5_2 := zaf BK224.out 2
  by_cases c4 : a0_0 < 1
  ·rw [if_pos c4] at H
   have c4b0 := decide_eq_true c4
   clear c4
   (first | rw [c4b0] | (simp only [zhe, zij]; rw [c4b0]) | skip)
   have H' := ak_ H
   clear H
   have hfz5_3 := zaf BK224.out 3
   have hfz5_4 := zaf BK224.out 4
   have hfz5_5 := zaf BK224.out 5
   go_wp2
   go_meet
   case rel => exact ⟨_, (true), q8_, H', ⟨by first | omega | exact Nat.le_refl _⟩, ⟨q18_⟩, ⟨q0_⟩⟩
  ·rw [if_neg c4] at H
   have c4b0 := decide_eq_false c4
   clear c4
   (first | rw [c4b0] | (simp only [zhe, zij]; rw [c4b0]) | skip)
   have hfz7_3 := zaf BK224.out 3
   by_cases c6 : a0_0 > 4
   ·rw [if_pos c6] at H
    have c6b0 : decide (4 < a0_0) = true := decide_eq_true c6
    clear c6
    have H' := ak_ H
    clear H
    have hfz7_4 := zaf BK224.out 4
    have hfz7_5 := zaf BK224.out 5
    go_wp2
    go_meet
    case rel => exact ⟨_, (true), q8_, H', ⟨by first | omega | exact Nat.le_refl _⟩, ⟨q18_⟩, ⟨q0_⟩⟩
   ·rw [if_neg c6] at H
    have c6b0 : decide (4 < a0_0) = false := decide_eq_false c6
    clear c6
    have hfz9_4 := zaf BK224.out 4
    by_cases c8 : a0_1 < 0
    ·rw [if_pos c8] at H
     have c8b0 := decide_eq_true c8
     clear c8
     have H' := ak_ H
     clear H
     have hfz9_5 := zaf BK224.out 5
     go_wp2
     go_meet
     case rel => exact ⟨_, (true), q8_, H', ⟨by first | omega | exact Nat.le_refl _⟩, ⟨q18_⟩, ⟨q0_⟩⟩
    ·rw [if_neg c8] at H
     have c8b0 := decide_eq_false c8
     clear c8
     have hfz11_5 := zaf BK224.out 5
     by_cases c10 : a0_1 > 549755813888
     ·rw [if_pos c10] at H
      have c10b0 : decide (549755813888 < a0_1) = true := decide_eq_true c10
      clear c10
      have H' := ak_ H
      clear H
      go_wp2
      go_meet
      case rel => exact ⟨_, (true), q8_, H', ⟨by first | omega | exact Nat.le_refl _⟩, ⟨q18_⟩, ⟨q0_⟩⟩
     ·rw [if_neg c10] at H
      have c10b0 : decide (549755813888 < a0_1) = false := decide_eq_false c10
      clear c10
      obtain ⟨t225, A12, H⟩ := bi_ H
      replace H : (zax.j0 k (!t225) a0_0 a0_1 l0_2 a0_3 a0_4 l0_5) = some r := H
      have H' := ak_ H
      clear H
      go_wp2_with (first | (go_at_call 22; (with_reducible refine (zby.calls k _ _ l0_2 t225 _ ?side1 ?side2 A12.out (by first | exact HG.out | (refine Glob.below HG.out ?_; (exact q0_)) | (repeat (first | exact HG.out | apply Glob.drewN | apply Glob.drew | apply Glob.alloc)))).mono ?_); (case side1 => exact cx_ (Kd.zcc HR0_2.out HB.out)); (case side2 => exact HC0_2.out); rintro e w14 ⟨rfl, hb⟩; replace BK224 := bb_ q18_ hb; replace HB := bs_ hb; clear hb))
      go_meet
      case rel => exact ⟨_, (!t225), q8_, H', ⟨by first | omega | exact Nat.le_refl _⟩, ⟨q18_⟩, ⟨q0_⟩⟩
 case rest =>
  clear HC2
  obtain ⟨kq, x28_1, rfl, HA, HJ1, BK224, HB⟩ := hcut
  cases kq with
  | zero => exact absurd HA.out (by simp [zax.j0])
  | succ kj1 =>
   have H := HA.out
   clear HA
   simp only [zax.j0] at H
   by_cases c15 : x28_1 = true
   ·subst c15
    replace H := ifT_ H
    obtain rfl := Option.some.inj H
    go_wp2
    go_ret
    exact ⟨q5_, q0_⟩
   ·replace c15 := Bool.eq_false_iff.mpr c15
    subst c15
    replace H := ifF_ H
    have HC16 := ak_ H
    clear H
    go_upto_region 3 with (fail)
    go_cut [42] (fun v42 wc => ∃ (kq : Nat) (x42_15 : Bool), v42 = .bool x42_15 ∧ zab (zax.j1 kq x42_15 a0_0 a0_1 l0_2 a0_3 a0_4 l0_5 = some r) ∧ zab (kq ≤ kj1) ∧ zab (wc.heap[gb224]? = some (.cells #[.int .i64 a0_0, .int .i64 a0_1, (.slice A0_2 l0_2.length c0_2), .int .i64 a0_3, .int .i64 a0_4, (.slice A0_5 l0_5.length c0_5)] 33 (0, 0))) ∧ zab (Below w.heap.size w wc))
    case first =>
     have H := HC16.out
     clear HC16
     have hcz19_0 : wc.cell? ⟨gb224, 0, none⟩ = some (.int .i64 a0_0) := bt_ BK224.out 0
     have hcz19_1 : wc.cell? ⟨gb224, 1, none⟩ = some (.int .i64 a0_1) := bt_ BK224.out 1
     have hcz19_2 : wc.cell? ⟨gb224, 2, none⟩ = some (.slice A0_2 l0_2.length c0_2) := bt_ BK224.out 2
     have hcz19_3 : wc.cell? ⟨gb224, 3, none⟩ = some (.int .i64 a0_3) := bt_ BK224.out 3
     have hcz19_4 : wc.cell? ⟨gb224, 4, none⟩ = some (.int .i64 a0_4) := bt_ BK224.out 4
     have hcz19_5 : wc.cell? ⟨gb224, 5, none⟩ = some (.slice A0_5 l0_5.length c0_5) := bt_ BK224.out 5
     have hfz19_0 := zaf BK224.out 0
     have hfz19_1 := zaf BK224.out 1
     have hfz19_2 := zaf BK224.out 2
     have hfz19_3 := zaf BK224.out 3
     have hfz19_4 := zaf BK224.out 4
     by_cases c17 : a0_3 = 0
     ·rw [if_pos c17] at H
      have c17b0 := bq_ c17
      have c17b1 := bq0_ c17
      clear c17
      (first | rw [c17b0] | (simp only [zhe, zij]; rw [c17b0]) | skip)
      have hfz19_5 := zaf BK224.out 5
      by_cases c18 : a0_4 = 0
      ·rw [if_pos c18] at H
       have c18b0 := bq_ c18
       have c18b1 := bq0_ c18
       clear c18
       have H' := ak_ H
       clear H
       go_wp2
       go_meet
       case rel => exact ⟨_, (((l0_5.length : Int) == 0)), q8_, H', ⟨by have := HJ1.out; first | omega | exact Nat.le_refl _⟩, ⟨q18_⟩, ⟨q0_⟩⟩
      ·rw [if_neg c18] at H
       have c18b0 := bn_ c18
       have c18b1 := bn1_ c18
       have H' := ak_ H
       clear H
       go_wp2
       go_meet
       case rel => exact ⟨_, (false), q8_, H', ⟨by have := HJ1.out; first | omega | exact Nat.le_refl _⟩, ⟨q18_⟩, ⟨q0_⟩⟩
     ·rw [if_neg c17] at H
      have c17b0 := bn_ c17
      have c17b1 := bn1_ c17
      (first | rw [c17b0] | (simp only [zhe, zij]; rw [c17b0]) | skip)
      have H' := ak_ H
      clear H
      have hfz21_5 := zaf BK224.out 5
      go_wp2
      go_meet
      case rel => exact ⟨_, (false), q8_, H', ⟨by have := HJ1.out; first | omega | exact Nat.le_refl _⟩, ⟨q18_⟩, ⟨q0_⟩⟩
    case rest =>
     clear HC16
     try clear c15
     obtain ⟨kq, x42_15, rfl, HA, HJ15, BK224, HB⟩ := hcut
     cases kq with
     | zero => exact absurd HA.out (by simp [zax.j1])
     | succ kj15 =>
      have H := HA.out
      clear HA
      simp only [zax.j1] at H
      by_cases c22 : x42_15 = true
      ·subst c22
       replace H := ifT_ H
       obtain rfl := Option.some.inj H
       go_wp2
       go_ret
       exact ⟨q5_, q0_⟩
      ·replace c22 := Bool.eq_false_iff.mpr c22
       subst c22
       replace H := ifF_ H
       have H' := ak_ H
       clear H
       have hz23 := bc6_ (w := wc) BK224.out
       go_wp2
       go_loopg [46] kj15 (fun kq v46 w' => ∃ (x46_3 : Int), v46 = .int .i64 x46_3 ∧ zab (zax.l0 kq l0_5 (l0_5.length : Int) x46_3 a0_0 a0_1 l0_2 a0_3 a0_4 l0_5 = some r) ∧ zab (kq ≤ kj15) ∧ zab (w'.heap[gb224]? = some (.cells #[.int .i64 a0_0, .int .i64 a0_1, (.slice A0_2 l0_2.length c0_2), .int .i64 a0_3, .int .i64 a0_4, (.slice A0_5 l0_5.length c0_5)] 33 (0, 0))) ∧ zab (Below w.heap.size w w'))
       case atStart => exact ⟨(0), q8_, H', ⟨Nat.le_refl _⟩, ⟨q18_⟩, ⟨q0_⟩⟩
       case round =>
        clear H'
        try clear c22 hz23
        obtain ⟨x46_3, rfl, HA, HK3, BK224, HB⟩ := hrel
        cases gk with
        | zero => exact absurd HA.out (by simp [zax.l0])
        | succ k3 =>
         have H := HA.out
         clear HA
         simp only [zax.l0] at H
         by_cases c24 : x46_3 < (l0_5.length : Int)
         ·rw [if_pos c24] at H
          have c24b0 := decide_eq_true c24
          clear c24
          by_cases c25 : 0 ≤ x46_3
          ·rw [if_pos c25] at H
           have c25b0 := decide_eq_true c25
           clear c25
           by_cases c26 : x46_3 < (l0_5.length : Int)
           ·rw [if_pos c26] at H
            have c26b0 := decide_eq_true c26
            clear c26
            by_cases c27 : ((zaa l0_5 x46_3).f0) = 2
            ·rw [if_pos c27] at H
             have c27b0 := bq_ c27
             have c27b1 := bq0_ c27
             clear c27
             obtain ⟨t228, A28, H⟩ := bi_ H
             try dsimp only at H
             by_cases c29 : t228 = true
             ·subst c29
              replace H := ifT_ H
              by_cases c30 : ((zaa l0_5 x46_3).f1) = a0_0
              ·rw [if_pos c30] at H
               have c30b0 := bq_ c30
               have c30b1 := bq0_ c30
               clear c30
               by_cases c31 : ((zaa l0_5 x46_3).f2) = a0_3
               ·rw [if_pos c31] at H
                have c31b0 := bq_ c31
                have c31b1 := bq0_ c31
                clear c31
                by_cases c32 : ((zaa l0_5 x46_3).f4) = a0_4
                ·rw [if_pos c32] at H
                 have c32b0 := bq_ c32
                 have c32b1 := bq0_ c32
                 clear c32
                 by_cases c33 : x46_3 > 0
                 ·rw [if_pos c33] at H
                  have c33b0 : decide (0 < x46_3) = true := decide_eq_true c33
                  clear c33
                  obtain ⟨ji34, hji34⟩ : ∃ j_ : Int, (wrap64 (x46_3 - 1)) = j_ := ⟨_, rfl⟩
                  replace H : (if 0 ≤ (ji34) then (if (ji34) < (l0_5.length : Int) then (if ((zaa l0_5 (ji34)).f3) ≥ ((zaa l0_5 x46_3).f3) then (some false) else (zax.l0 k3 l0_5 (l0_5.length : Int) (wrap64 (x46_3 + 1)) a0_0 a0_1 l0_2 a0_3 a0_4 l0_5)) else (none)) else (none)) = some r := by first | (rw [hji34] at H; exact H) | (simp only [hji34] at H ⊢; exact H)
                  (try rw [hji34] at A28)
                  have hji34w : (IntKind.i64.wrap (x46_3 - 1)) = ji34 := (zhe _).trans hji34
                  by_cases c35 : 0 ≤ (ji34)
                  ·rw [if_pos c35] at H
                   have c35b0 := decide_eq_true c35
                   clear c35
                   by_cases c36 : (ji34) < (l0_5.length : Int)
                   ·rw [if_pos c36] at H
                    have c36b0 := decide_eq_true c36
                    clear c36
                    have p226 : 0 ≤ (x46_3 : Int) := of_decide_eq_true q4_
                    have q226 : x46_3 < (l0_5.length : Int) := of_decide_eq_true q4_
                    obtain ⟨ad226, A226_5, c226_5, e226, hx226_0, hx226_1, hx226_2, hx226_3, hx226_4, hx226_5, hl226_5, hi226_5⟩ := zih HR0_5.out x46_3 p226 q226
                    cases e226
                    replace hx226_0 := hc_ HB.out hx226_0
                    replace hx226_1 := hc_ HB.out hx226_1
                    replace hx226_2 := hc_ HB.out hx226_2
                    replace hx226_3 := hc_ HB.out hx226_3
                    replace hx226_4 := hc_ HB.out hx226_4
                    replace hx226_5 := hc_ HB.out hx226_5
                    have HR226_5 := ak_ hi226_5
                    have HC226_5 := ak_ hl226_5
                    clear hi226_5 hl226_5
                    replace p226 := eq_true p226
                    replace q226 := eq_true q226
                    try go_wp2_with (first | ((with_reducible refine gd_ 4 rfl ?_); (try (refine zcu (by rfl) ?_; dsimp only)); refine by_ #[.int .i64 0, .int .i64 0, .int .i64 0, .int .i64 0, .int .i64 0, .slice none 0 0] 41 ?_; intro gb227 hg w38 BK227 hb; have GE227 := ak_ (q2_ : w.heap.size ≤ gb227); have NB224_227 := nl_ hg q18_; have NB227_224 := ne_ NB224_227; replace BK224 := bb_ q18_ hb; replace HB := bs_ hb; clear hb hg; have hn39 := np_ NB227_224; have hz40 := bc6_ (w := w38) BK227.out))
                    have n0_ : zab (((((((w38.setCell ⟨gb227, 0, none⟩ (.int .i64 ((zaa l0_5 x46_3).f0))).setCell ⟨gb227, 1, none⟩ (.int .i64 ((zaa l0_5 x46_3).f1))).setCell ⟨gb227, 2, none⟩ (.int .i64 ((zaa l0_5 x46_3).f2))).setCell ⟨gb227, 3, none⟩ (.int .i64 ((zaa l0_5 x46_3).f3))).setCell ⟨gb227, 4, none⟩ (.int .i64 ((zaa l0_5 x46_3).f4))).setCell ⟨gb227, 5, none⟩ (.slice A226_5 ((zaa l0_5 x46_3).f5).length c226_5)).heap[gb224]? = some (.cells #[.int .i64 a0_0, .int .i64 a0_1, .slice A0_2 l0_2.length c0_2, .int .i64 a0_3, .int .i64 a0_4, .slice (some ad226) l0_5.length c0_5] 33 (0, 0))) := ⟨q10_⟩
                    have n1_ : zab (((((((w38.setCell ⟨gb227, 0, none⟩ (.int .i64 ((zaa l0_5 x46_3).f0))).setCell ⟨gb227, 1, none⟩ (.int .i64 ((zaa l0_5 x46_3).f1))).setCell ⟨gb227, 2, none⟩ (.int .i64 ((zaa l0_5 x46_3).f2))).setCell ⟨gb227, 3, none⟩ (.int .i64 ((zaa l0_5 x46_3).f3))).setCell ⟨gb227, 4, none⟩ (.int .i64 ((zaa l0_5 x46_3).f4))).setCell ⟨gb227, 5, none⟩ (.slice A226_5 ((zaa l0_5 x46_3).f5).length c226_5)).heap[gb227]? = some (.cells #[.int .i64 ((zaa l0_5 x46_3).f0), .int .i64 ((zaa l0_5 x46_3).f1), .int .i64 ((zaa l0_5 x46_3).f2), .int .i64 ((zaa l0_5 x46_3).f3), .int .i64 ((zaa l0_5 x46_3).f4), .slice A226_5 ((zaa l0_5 x46_3).f5).length c226_5] 41 (0, 0))) := ⟨q6_⟩
                    have n2_ : zab (Below w.heap.size w ((((((w38.setCell ⟨gb227, 0, none⟩ (.int .i64 ((zaa l0_5 x46_3).f0))).setCell ⟨gb227, 1, none⟩ (.int .i64 ((zaa l0_5 x46_3).f1))).setCell ⟨gb227, 2, none⟩ (.int .i64 ((zaa l0_5 x46_3).f2))).setCell ⟨gb227, 3, none⟩ (.int .i64 ((zaa l0_5 x46_3).f3))).setCell ⟨gb227, 4, none⟩ (.int .i64 ((zaa l0_5 x46_3).f4))).setCell ⟨gb227, 5, none⟩ (.slice A226_5 ((zaa l0_5 x46_3).f5).length c226_5))) := ⟨q0_⟩
                    try clear BK224 BK227 HB
                    generalize ((((((w38.setCell ⟨gb227, 0, none⟩ (.int .i64 ((zaa l0_5 x46_3).f0))).setCell ⟨gb227, 1, none⟩ (.int .i64 ((zaa l0_5 x46_3).f1))).setCell ⟨gb227, 2, none⟩ (.int .i64 ((zaa l0_5 x46_3).f2))).setCell ⟨gb227, 3, none⟩ (.int .i64 ((zaa l0_5 x46_3).f3))).setCell ⟨gb227, 4, none⟩ (.int .i64 ((zaa l0_5 x46_3).f4))).setCell ⟨gb227, 5, none⟩ (.slice A226_5 ((zaa l0_5 x46_3).f5).length c226_5)) = w41 at n0_ n1_ n2_ ⊢
                    have BK224 := n0_
                    have BK227 := n1_
                    have HB := n2_
                    clear n0_ n1_ n2_
                    replace BK224 := dB_ BK224
                    replace BK227 := dB_ BK227
                    replace HB := ak_ (zbn HB.out)
                    have p229 : 0 ≤ ((ji34) : Int) := of_decide_eq_true q4_
                    have q229 : (ji34) < (l0_5.length : Int) := of_decide_eq_true q4_
                    obtain ⟨ad229, A229_5, c229_5, e229, hx229_0, hx229_1, hx229_2, hx229_3, hx229_4, hx229_5, hl229_5, hi229_5⟩ := zih HR0_5.out (ji34) p229 q229
                    have hw229_5 := hx229_5
                    have hw229_4 := hx229_4
                    have hw229_3 := hx229_3
                    have hw229_2 := hx229_2
                    have hw229_1 := hx229_1
                    have hw229_0 := hx229_0
                    obtain rfl : ad226 = ad229 := (by injection e229)
                    replace hx229_0 := hc_ HB.out hx229_0
                    replace hx229_1 := hc_ HB.out hx229_1
                    replace hx229_2 := hc_ HB.out hx229_2
                    replace hx229_3 := hc_ HB.out hx229_3
                    replace hx229_4 := hc_ HB.out hx229_4
                    replace hx229_5 := hc_ HB.out hx229_5
                    have HR229_5 := ak_ hi229_5
                    have HC229_5 := ak_ hl229_5
                    clear hi229_5 hl229_5
                    replace p229 := eq_true p229
                    replace q229 := eq_true q229
                    refine zeq (n := 45) (S := fun w' => w'.cell? ⟨gb227, 0, none⟩ = some (.int .i64 ((zaa l0_5 x46_3).f0)) ∧ w'.cell? ⟨gb227, 1, none⟩ = some (.int .i64 ((zaa l0_5 x46_3).f1)) ∧ w'.cell? ⟨gb227, 2, none⟩ = some (.int .i64 ((zaa l0_5 x46_3).f2)) ∧ w'.cell? ⟨gb227, 3, none⟩ = some (.int .i64 ((zaa l0_5 x46_3).f3)) ∧ w'.cell? ⟨gb227, 4, none⟩ = some (.int .i64 ((zaa l0_5 x46_3).f4)) ∧ w'.cell? ⟨gb227, 5, none⟩ = some (.slice A226_5 ((zaa l0_5 x46_3).f5).length c226_5) ∧ w'.cell? ⟨gb224, 0, none⟩ = some (.int .i64 a0_0) ∧ w'.cell? ⟨gb224, 1, none⟩ = some (.int .i64 a0_1) ∧ w'.cell? ⟨gb224, 2, none⟩ = some (.slice A0_2 l0_2.length c0_2) ∧ w'.cell? ⟨gb224, 3, none⟩ = some (.int .i64 a0_3) ∧ w'.cell? ⟨gb224, 4, none⟩ = some (.int .i64 a0_4) ∧ w'.cell? ⟨gb224, 5, none⟩ = some (.slice (some ad226) l0_5.length c0_5) ∧ w'.cell? (ad226.add (((ji34)).toNat * 6)) = some (.int .i64 ((zaa l0_5 (ji34)).f0)) ∧ w'.cell? ⟨(ad226.add (((ji34)).toNat * 6)).block, (ad226.add (((ji34)).toNat * 6)).off + 1, none⟩ = some (.int .i64 ((zaa l0_5 (ji34)).f1)) ∧ w'.cell? ⟨(ad226.add (((ji34)).toNat * 6)).block, (ad226.add (((ji34)).toNat * 6)).off + 2, none⟩ = some (.int .i64 ((zaa l0_5 (ji34)).f2)) ∧ w'.cell? ⟨(ad226.add (((ji34)).toNat * 6)).block, (ad226.add (((ji34)).toNat * 6)).off + 3, none⟩ = some (.int .i64 ((zaa l0_5 (ji34)).f3)) ∧ w'.cell? ⟨(ad226.add (((ji34)).toNat * 6)).block, (ad226.add (((ji34)).toNat * 6)).off + 4, none⟩ = some (.int .i64 ((zaa l0_5 (ji34)).f4)) ∧ w'.cell? ⟨(ad226.add (((ji34)).toNat * 6)).block, (ad226.add (((ji34)).toNat * 6)).off + 5, none⟩ = some (.slice A229_5 ((zaa l0_5 (ji34)).f5).length c229_5)) (ds := []) (bz 45 0) (by kernel_rfl) rfl rfl ⟨bt_ BK227.out 0, bt_ BK227.out 1, bt_ BK227.out 2, bt_ BK227.out 3, bt_ BK227.out 4, bt_ BK227.out 5, bt_ BK224.out 0, bt_ BK224.out 1, bt_ BK224.out 2, bt_ BK224.out 3, bt_ BK224.out 4, bt_ BK224.out 5, (hc_ HB.out hw229_0), (hc_ HB.out hw229_1), (hc_ HB.out hw229_2), (hc_ HB.out hw229_3), (hc_ HB.out hw229_4), (hc_ HB.out hw229_5)⟩ (fun hHeld => ?_)
                    refine zcw zax.tab8 zax.bits8 (fun HT_ HW_ => ?_)
                    generalize w41.drew = w42 at BK224 BK227 HB HR229_5 hx229_0 hx229_1 hx229_2 hx229_3 hx229_4 hx229_5 hHeld ⊢
                    refine pz_ 0 51 (bz 45 1) ?_
                    refine zhp 1 52 (bz 45 2) hHeld ?_
                    refine pz_ 2 53 (bz 45 3) ?_
                    refine pz_ 3 54 (bz 45 4) ?_
                    refine zhp 4 55 (bz 45 5) hHeld ?_
                    refine oz_ 5 (some 56) (bz 45 6) (fun K hK => ?_)
                    refine zfh Tryd.func37 (by kernel_rfl) rfl #[.agg #[.int .i64 ((zaa l0_5 x46_3).f0), .int .i64 ((zaa l0_5 x46_3).f1), .int .i64 ((zaa l0_5 x46_3).f2), .int .i64 ((zaa l0_5 x46_3).f3), .int .i64 ((zaa l0_5 x46_3).f4), .slice A226_5 ((zaa l0_5 x46_3).f5).length c226_5]] (by rfl) rfl rfl q3_ ?_
                    with_reducible refine ca_ (zbc.calls k3 ((zaa l0_5 x46_3).f0) ((zaa l0_5 x46_3).f1) ((zaa l0_5 x46_3).f2) ((zaa l0_5 x46_3).f3) ((zaa l0_5 x46_3).f4) _ _ ((zaa l0_5 x46_3).f5) true _ ?side1 ?side2 A28.out q31_) ?_
                    (case side1 => exact cx_ (Kd.zcc HR226_5.out HB.out))
                    (case side2 => exact HC226_5.out)
                    intro w43 hb
                    replace BK224 := bb_ q18_ hb
                    replace BK227 := bb_ q114_ hb
                    replace HB := bs_ hb
                    clear hb
                    refine hK.out _ _ ⟨bt_ BK227.out 0, bt_ BK227.out 1, bt_ BK227.out 2, bt_ BK227.out 3, bt_ BK227.out 4, bt_ BK227.out 5, bt_ BK224.out 0, bt_ BK224.out 1, bt_ BK224.out 2, bt_ BK224.out 3, bt_ BK224.out 4, bt_ BK224.out 5, (hc_ HB.out hw229_0), (hc_ HB.out hw229_1), (hc_ HB.out hw229_2), (hc_ HB.out hw229_3), (hc_ HB.out hw229_4), (hc_ HB.out hw229_5)⟩ (fun hHeld => ?_)
                    clear hK K
                    refine nz_ ?_
                    by_cases c37 : ((zaa l0_5 (ji34)).f3) ≥ ((zaa l0_5 x46_3).f3)
                    ·rw [if_pos c37] at H
                     have c37b0 : decide (((zaa l0_5 x46_3).f3) ≤ ((zaa l0_5 (ji34)).f3)) = true := decide_eq_true c37
                     clear c37
                     obtain rfl := Option.some.inj H
                     refine pz_ 6 57 (bz 45 7) ?_
                     refine pz_ 7 58 (bz 45 8) ?_
                     refine pz_ 8 59 (bz 45 9) ?_
                     refine pz_ 9 60 (bz 45 10) ?_
                     refine pz_ 11 62 b82_11 ?_
                     refine zhp 10 61 (bz 45 12) hHeld ?_
                     refine zhp 12 63 (bz 45 13) hHeld ?_
                     refine pz_ 13 64 (bz 45 14) ?_
                     refine pz_ 14 65 (bz 45 15) ?_
                     refine pz_ 15 66 (bz 45 16) ?_
                     refine pz_ 16 67 (bz 45 17) ?_
                     refine pz_ 18 69 b82_18 ?_
                     refine zhp 17 68 (bz 45 19) hHeld ?_
                     refine zhp 19 70 (bz 45 20) hHeld ?_
                     refine pz_ 20 71 (bz 45 21) ?_
                     refine pz_ 21 72 (bz 45 22) ?_
                     refine pz_ 22 73 (bz 45 23) ?_
                     refine pz_ 23 74 (bz 45 24) ?_
                     refine pz_ 25 76 b82_25 ?_
                     refine zhp 24 75 (bz 45 26) hHeld ?_
                     refine zhp 26 77 (bz 45 27) hHeld ?_
                     refine pz_ 27 78 (bz 45 28) ?_
                     refine pz_ 28 79 (bz 45 29) ?_
                     refine pz_ 29 80 (bz 45 30) ?_
                     refine pz_ 30 81 (bz 45 31) ?_
                     refine pz_ 31 82 (bz 45 32) ?_
                     refine pz_ 32 83 (bz 45 33) ?_
                     refine pz_ 33 84 (bz 45 34) ?_
                     refine pz_ 35 86 b82_35 ?_
                     refine pz_ 36 87 b82_36 ?_
                     refine pz_ 40 91 b82_37 ?_
                     refine zhp 34 85 b82_38 hHeld ?_
                     refine pz_ 37 88 b82_39 ?_
                     refine pz_ 38 89 b82_40 ?_
                     refine zhp 39 90 (bz 45 41) hHeld ?_
                     refine zhp 41 92 (bz 45 42) hHeld ?_
                     refine pz_ 42 93 (bz 45 43) ?_
                     refine pz_ 43 94 (bz 45 44) ?_
                     refine pz_ 44 95 (bz 45 45) ?_
                     refine zey (zcz HT_.out (by kernel_rfl)) ?_
                     try go_wp2
                     go_ret
                     exact ⟨by first | rfl | (simp [zdr, zds] <;> rfl) | (simp only [← hji34]; first | rfl | (simp [zdr, zds] <;> rfl)) | (simp [*, zdr, zds] <;> rfl), q0_⟩
                    ·rw [if_neg c37] at H
                     have c37b0 : decide (((zaa l0_5 x46_3).f3) ≤ ((zaa l0_5 (ji34)).f3)) = false := decide_eq_false c37
                     clear c37
                     have H' := ak_ H
                     clear H
                     refine pz_ 6 57 (bz 45 7) ?_
                     refine pz_ 7 58 (bz 45 8) ?_
                     refine pz_ 8 59 (bz 45 9) ?_
                     refine pz_ 9 60 (bz 45 10) ?_
                     refine pz_ 11 62 b82_11 ?_
                     refine zhp 10 61 (bz 45 12) hHeld ?_
                     refine zhp 12 63 (bz 45 13) hHeld ?_
                     refine pz_ 13 64 (bz 45 14) ?_
                     refine pz_ 14 65 (bz 45 15) ?_
                     refine pz_ 15 66 (bz 45 16) ?_
                     refine pz_ 16 67 (bz 45 17) ?_
                     refine pz_ 18 69 b82_18 ?_
                     refine zhp 17 68 (bz 45 19) hHeld ?_
                     refine zhp 19 70 (bz 45 20) hHeld ?_
                     refine pz_ 20 71 (bz 45 21) ?_
                     refine pz_ 21 72 (bz 45 22) ?_
                     refine pz_ 22 73 (bz 45 23) ?_
                     refine pz_ 23 74 (bz 45 24) ?_
                     refine pz_ 25 76 b82_25 ?_
                     refine zhp 24 75 (bz 45 26) hHeld ?_
                     refine zhp 26 77 (bz 45 27) hHeld ?_
                     refine pz_ 27 78 (bz 45 28) ?_
                     refine pz_ 28 79 (bz 45 29) ?_
                     refine pz_ 29 80 (bz 45 30) ?_
                     refine pz_ 30 81 (bz 45 31) ?_
                     refine pz_ 31 82 (bz 45 32) ?_
                     refine pz_ 32 83 (bz 45 33) ?_
                     refine pz_ 33 84 (bz 45 34) ?_
                     refine pz_ 35 86 b82_35 ?_
                     refine pz_ 36 87 b82_36 ?_
                     refine pz_ 40 91 b82_37 ?_
                     refine zhp 34 85 b82_38 hHeld ?_
                     refine pz_ 37 88 b82_39 ?_
                     refine pz_ 38 89 b82_40 ?_
                     refine zhp 39 90 (bz 45 41) hHeld ?_
                     refine zhp 41 92 (bz 45 42) hHeld ?_
                     refine pz_ 42 93 (bz 45 43) ?_
                     refine pz_ 43 94 (bz 45 44) ?_
                     refine pz_ 44 95 (bz 45 45) ?_
                     refine zey (zcz HT_.out (by kernel_rfl)) ?_
                     try go_wp2
                     go_roundg k3
                     case measure => have := HJ1.out; have := HJ15.out; have := HK3.out; omega
                     case rel => exact ⟨(wrap64 (x46_3 + 1)), q8_, H', ⟨by have := HJ1.out; have := HJ15.out; have := HK3.out; omega⟩, ⟨q18_⟩, ⟨q0_⟩⟩
                   ·rw [if_neg c36] at H
                    exact absurd H (by simp)
                  ·rw [if_neg c35] at H
                   exact absurd H (by simp)
                 ·rw [if_neg c33] at H
                  have c33b0 : decide (0 < x46_3) = false := decide_eq_false c33
                  clear c33
                  have H' := ak_ H
                  clear H
                  have p226 : 0 ≤ (x46_3 : Int) := of_decide_eq_true q4_
                  have q226 : x46_3 < (l0_5.length : Int) := of_decide_eq_true q4_
                  obtain ⟨ad226, A226_5, c226_5, e226, hx226_0, hx226_1, hx226_2, hx226_3, hx226_4, hx226_5, hl226_5, hi226_5⟩ := zih HR0_5.out x46_3 p226 q226
                  cases e226
                  replace hx226_0 := hc_ HB.out hx226_0
                  replace hx226_1 := hc_ HB.out hx226_1
                  replace hx226_2 := hc_ HB.out hx226_2
                  replace hx226_3 := hc_ HB.out hx226_3
                  replace hx226_4 := hc_ HB.out hx226_4
                  replace hx226_5 := hc_ HB.out hx226_5
                  have HR226_5 := ak_ hi226_5
                  have HC226_5 := ak_ hl226_5
                  clear hi226_5 hl226_5
                  replace p226 := eq_true p226
                  replace q226 := eq_true q226
                  try go_wp2_with (first | ((with_reducible refine gd_ 4 rfl ?_); (try (refine zcu (by rfl) ?_; dsimp only)); refine by_ #[.int .i64 0, .int .i64 0, .int .i64 0, .int .i64 0, .int .i64 0, .slice none 0 0] 41 ?_; intro gb227 hg w50 BK227 hb; have GE227 := ak_ (q2_ : w.heap.size ≤ gb227); have NB224_227 := nl_ hg q18_; have NB227_224 := ne_ NB224_227; replace BK224 := bb_ q18_ hb; replace HB := bs_ hb; clear hb hg; have hn51 := np_ NB227_224; have hz52 := bc6_ (w := w50) BK227.out))
                  have n0_ : zab (((((((w50.setCell ⟨gb227, 0, none⟩ (.int .i64 ((zaa l0_5 x46_3).f0))).setCell ⟨gb227, 1, none⟩ (.int .i64 ((zaa l0_5 x46_3).f1))).setCell ⟨gb227, 2, none⟩ (.int .i64 ((zaa l0_5 x46_3).f2))).setCell ⟨gb227, 3, none⟩ (.int .i64 ((zaa l0_5 x46_3).f3))).setCell ⟨gb227, 4, none⟩ (.int .i64 ((zaa l0_5 x46_3).f4))).setCell ⟨gb227, 5, none⟩ (.slice A226_5 ((zaa l0_5 x46_3).f5).length c226_5)).heap[gb224]? = some (.cells #[.int .i64 a0_0, .int .i64 a0_1, .slice A0_2 l0_2.length c0_2, .int .i64 a0_3, .int .i64 a0_4, .slice (some ad226) l0_5.length c0_5] 33 (0, 0))) := ⟨q10_⟩
                  have n1_ : zab (((((((w50.setCell ⟨gb227, 0, none⟩ (.int .i64 ((zaa l0_5 x46_3).f0))).setCell ⟨gb227, 1, none⟩ (.int .i64 ((zaa l0_5 x46_3).f1))).setCell ⟨gb227, 2, none⟩ (.int .i64 ((zaa l0_5 x46_3).f2))).setCell ⟨gb227, 3, none⟩ (.int .i64 ((zaa l0_5 x46_3).f3))).setCell ⟨gb227, 4, none⟩ (.int .i64 ((zaa l0_5 x46_3).f4))).setCell ⟨gb227, 5, none⟩ (.slice A226_5 ((zaa l0_5 x46_3).f5).length c226_5)).heap[gb227]? = some (.cells #[.int .i64 ((zaa l0_5 x46_3).f0), .int .i64 ((zaa l0_5 x46_3).f1), .int .i64 ((zaa l0_5 x46_3).f2), .int .i64 ((zaa l0_5 x46_3).f3), .int .i64 ((zaa l0_5 x46_3).f4), .slice A226_5 ((zaa l0_5 x46_3).f5).length c226_5] 41 (0, 0))) := ⟨q6_⟩
                  have n2_ : zab (Below w.heap.size w ((((((w50.setCell ⟨gb227, 0, none⟩ (.int .i64 ((zaa l0_5 x46_3).f0))).setCell ⟨gb227, 1, none⟩ (.int .i64 ((zaa l0_5 x46_3).f1))).setCell ⟨gb227, 2, none⟩ (.int .i64 ((zaa l0_5 x46_3).f2))).setCell ⟨gb227, 3, none⟩ (.int .i64 ((zaa l0_5 x46_3).f3))).setCell ⟨gb227, 4, none⟩ (.int .i64 ((zaa l0_5 x46_3).f4))).setCell ⟨gb227, 5, none⟩ (.slice A226_5 ((zaa l0_5 x46_3).f5).length c226_5))) := ⟨q0_⟩
                  try clear BK224 BK227 HB
                  generalize ((((((w50.setCell ⟨gb227, 0, none⟩ (.int .i64 ((zaa l0_5 x46_3).f0))).setCell ⟨gb227, 1, none⟩ (.int .i64 ((zaa l0_5 x46_3).f1))).setCell ⟨gb227, 2, none⟩ (.int .i64 ((zaa l0_5 x46_3).f2))).setCell ⟨gb227, 3, none⟩ (.int .i64 ((zaa l0_5 x46_3).f3))).setCell ⟨gb227, 4, none⟩ (.int .i64 ((zaa l0_5 x46_3).f4))).setCell ⟨gb227, 5, none⟩ (.slice A226_5 ((zaa l0_5 x46_3).f5).length c226_5)) = w53 at n0_ n1_ n2_ ⊢
                  have BK224 := n0_
                  have BK227 := n1_
                  have HB := n2_
                  clear n0_ n1_ n2_
                  replace BK224 := dB_ BK224
                  replace BK227 := dB_ BK227
                  replace HB := ak_ (zbn HB.out)
                  refine zeq (n := 45) (S := fun w' => w'.cell? ⟨gb227, 0, none⟩ = some (.int .i64 ((zaa l0_5 x46_3).f0)) ∧ w'.cell? ⟨gb227, 1, none⟩ = some (.int .i64 ((zaa l0_5 x46_3).f1)) ∧ w'.cell? ⟨gb227, 2, none⟩ = some (.int .i64 ((zaa l0_5 x46_3).f2)) ∧ w'.cell? ⟨gb227, 3, none⟩ = some (.int .i64 ((zaa l0_5 x46_3).f3)) ∧ w'.cell? ⟨gb227, 4, none⟩ = some (.int .i64 ((zaa l0_5 x46_3).f4)) ∧ w'.cell? ⟨gb227, 5, none⟩ = some (.slice A226_5 ((zaa l0_5 x46_3).f5).length c226_5) ∧ w'.cell? ⟨gb224, 0, none⟩ = some (.int .i64 a0_0) ∧ w'.cell? ⟨gb224, 1, none⟩ = some (.int .i64 a0_1) ∧ w'.cell? ⟨gb224, 2, none⟩ = some (.slice A0_2 l0_2.length c0_2) ∧ w'.cell? ⟨gb224, 3, none⟩ = some (.int .i64 a0_3) ∧ w'.cell? ⟨gb224, 4, none⟩ = some (.int .i64 a0_4) ∧ w'.cell? ⟨gb224, 5, none⟩ = some (.slice (some ad226) l0_5.length c0_5)) (ds := []) (bz 45 0) (by kernel_rfl) rfl rfl ⟨bt_ BK227.out 0, bt_ BK227.out 1, bt_ BK227.out 2, bt_ BK227.out 3, bt_ BK227.out 4, bt_ BK227.out 5, bt_ BK224.out 0, bt_ BK224.out 1, bt_ BK224.out 2, bt_ BK224.out 3, bt_ BK224.out 4, bt_ BK224.out 5⟩ (fun hHeld => ?_)
                  refine zcw zax.tab8 zax.bits8 (fun HT_ HW_ => ?_)
                  generalize w53.drew = w54 at BK224 BK227 HB hHeld ⊢
                  refine pz_ 0 51 (bz 45 1) ?_
                  refine zfi 1 52 (bz 45 2) hHeld ?_
                  refine pz_ 2 53 (bz 45 3) ?_
                  refine pz_ 3 54 (bz 45 4) ?_
                  refine zfi 4 55 (bz 45 5) hHeld ?_
                  refine oz_ 5 (some 56) (bz 45 6) (fun K hK => ?_)
                  refine zfh Tryd.func37 (by kernel_rfl) rfl #[.agg #[.int .i64 ((zaa l0_5 x46_3).f0), .int .i64 ((zaa l0_5 x46_3).f1), .int .i64 ((zaa l0_5 x46_3).f2), .int .i64 ((zaa l0_5 x46_3).f3), .int .i64 ((zaa l0_5 x46_3).f4), .slice A226_5 ((zaa l0_5 x46_3).f5).length c226_5]] (by rfl) rfl rfl q3_ ?_
                  with_reducible refine ca_ (zbc.calls k3 ((zaa l0_5 x46_3).f0) ((zaa l0_5 x46_3).f1) ((zaa l0_5 x46_3).f2) ((zaa l0_5 x46_3).f3) ((zaa l0_5 x46_3).f4) _ _ ((zaa l0_5 x46_3).f5) true _ ?side1 ?side2 A28.out q31_) ?_
                  (case side1 => exact cx_ (Kd.zcc HR226_5.out HB.out))
                  (case side2 => exact HC226_5.out)
                  intro w55 hb
                  replace BK224 := bb_ q18_ hb
                  replace BK227 := bb_ q114_ hb
                  replace HB := bs_ hb
                  clear hb
                  refine hK.out _ _ ⟨bt_ BK227.out 0, bt_ BK227.out 1, bt_ BK227.out 2, bt_ BK227.out 3, bt_ BK227.out 4, bt_ BK227.out 5, bt_ BK224.out 0, bt_ BK224.out 1, bt_ BK224.out 2, bt_ BK224.out 3, bt_ BK224.out 4, bt_ BK224.out 5⟩ (fun hHeld => ?_)
                  clear hK K
                  refine nz_ ?_
                  refine pz_ 6 57 (bz 45 7) ?_
                  refine pz_ 7 58 (bz 45 8) ?_
                  refine pz_ 8 59 (bz 45 9) ?_
                  refine pz_ 9 60 (bz 45 10) ?_
                  refine pz_ 11 62 b82_11 ?_
                  refine zfi 10 61 (bz 45 12) hHeld ?_
                  refine zfi 12 63 (bz 45 13) hHeld ?_
                  refine pz_ 13 64 (bz 45 14) ?_
                  refine pz_ 14 65 (bz 45 15) ?_
                  refine pz_ 15 66 (bz 45 16) ?_
                  refine pz_ 16 67 (bz 45 17) ?_
                  refine pz_ 18 69 b82_18 ?_
                  refine zfi 17 68 (bz 45 19) hHeld ?_
                  refine zfi 19 70 (bz 45 20) hHeld ?_
                  refine pz_ 20 71 (bz 45 21) ?_
                  refine pz_ 21 72 (bz 45 22) ?_
                  refine pz_ 22 73 (bz 45 23) ?_
                  refine pz_ 23 74 (bz 45 24) ?_
                  refine pz_ 25 76 b82_25 ?_
                  refine zfi 24 75 (bz 45 26) hHeld ?_
                  refine zfi 26 77 (bz 45 27) hHeld ?_
                  refine pz_ 27 78 (bz 45 28) ?_
                  refine pz_ 28 79 (bz 45 29) ?_
                  refine pz_ 29 80 (bz 45 30) ?_
                  refine pz_ 30 81 (bz 45 31) ?_
                  refine pz_ 31 82 (bz 45 32) ?_
                  refine pz_ 32 83 (bz 45 33) ?_
                  refine pu_ 33 84 (bz 45 34) ?_
                  refine pu_ 34 85 (bz 45 35) ?_
                  refine pu_ 35 86 (bz 45 36) ?_
                  refine pu_ 36 87 (bz 45 37) ?_
                  refine pu_ 37 88 (bz 45 38) ?_
                  refine pu_ 38 89 (bz 45 39) ?_
                  refine pu_ 39 90 (bz 45 40) ?_
                  refine pu_ 40 91 (bz 45 41) ?_
                  refine pu_ 41 92 (bz 45 42) ?_
                  refine pu_ 42 93 (bz 45 43) ?_
                  refine pz_ 43 94 (bz 45 44) ?_
                  refine pz_ 44 95 (bz 45 45) ?_
                  refine zey (zcz HT_.out (by kernel_rfl)) ?_
                  try go_wp2
                  go_roundg k3
                  case measure => have := HJ1.out; have := HJ15.out; have := HK3.out; omega
                  case rel => exact ⟨(wrap64 (x46_3 + 1)), q8_, H', ⟨by have := HJ1.out; have := HJ15.out; have := HK3.out; omega⟩, ⟨q18_⟩, ⟨q0_⟩⟩
                ·rw [if_neg c32] at H
                 have c32b0 := bn_ c32
                 have c32b1 := bn1_ c32
                 obtain rfl := Option.some.inj H
                 have p226 : 0 ≤ (x46_3 : Int) := of_decide_eq_true q4_
                 have q226 : x46_3 < (l0_5.length : Int) := of_decide_eq_true q4_
                 obtain ⟨ad226, A226_5, c226_5, e226, hx226_0, hx226_1, hx226_2, hx226_3, hx226_4, hx226_5, hl226_5, hi226_5⟩ := zih HR0_5.out x46_3 p226 q226
                 cases e226
                 replace hx226_0 := hc_ HB.out hx226_0
                 replace hx226_1 := hc_ HB.out hx226_1
                 replace hx226_2 := hc_ HB.out hx226_2
                 replace hx226_3 := hc_ HB.out hx226_3
                 replace hx226_4 := hc_ HB.out hx226_4
                 replace hx226_5 := hc_ HB.out hx226_5
                 have HR226_5 := ak_ hi226_5
                 have HC226_5 := ak_ hl226_5
                 clear hi226_5 hl226_5
                 replace p226 := eq_true p226
                 replace q226 := eq_true q226
                 try go_wp2_with (first | ((with_reducible refine gd_ 4 rfl ?_); (try (refine zcu (by rfl) ?_; dsimp only)); refine by_ #[.int .i64 0, .int .i64 0, .int .i64 0, .int .i64 0, .int .i64 0, .slice none 0 0] 41 ?_; intro gb227 hg w56 BK227 hb; have GE227 := ak_ (q2_ : w.heap.size ≤ gb227); have NB224_227 := nl_ hg q18_; have NB227_224 := ne_ NB224_227; replace BK224 := bb_ q18_ hb; replace HB := bs_ hb; clear hb hg; have hn57 := np_ NB227_224; have hz58 := bc6_ (w := w56) BK227.out))
                 have n0_ : zab (((((((w56.setCell ⟨gb227, 0, none⟩ (.int .i64 ((zaa l0_5 x46_3).f0))).setCell ⟨gb227, 1, none⟩ (.int .i64 ((zaa l0_5 x46_3).f1))).setCell ⟨gb227, 2, none⟩ (.int .i64 ((zaa l0_5 x46_3).f2))).setCell ⟨gb227, 3, none⟩ (.int .i64 ((zaa l0_5 x46_3).f3))).setCell ⟨gb227, 4, none⟩ (.int .i64 ((zaa l0_5 x46_3).f4))).setCell ⟨gb227, 5, none⟩ (.slice A226_5 ((zaa l0_5 x46_3).f5).length c226_5)).heap[gb224]? = some (.cells #[.int .i64 a0_0, .int .i64 a0_1, .slice A0_2 l0_2.length c0_2, .int .i64 a0_3, .int .i64 a0_4, .slice (some ad226) l0_5.length c0_5] 33 (0, 0))) := ⟨q10_⟩
                 have n1_ : zab (((((((w56.setCell ⟨gb227, 0, none⟩ (.int .i64 ((zaa l0_5 x46_3).f0))).setCell ⟨gb227, 1, none⟩ (.int .i64 ((zaa l0_5 x46_3).f1))).setCell ⟨gb227, 2, none⟩ (.int .i64 ((zaa l0_5 x46_3).f2))).setCell ⟨gb227, 3, none⟩ (.int .i64 ((zaa l0_5 x46_3).f3))).setCell ⟨gb227, 4, none⟩ (.int .i64 ((zaa l0_5 x46_3).f4))).setCell ⟨gb227, 5, none⟩ (.slice A226_5 ((zaa l0_5 x46_3).f5).length c226_5)).heap[gb227]? = some (.cells #[.int .i64 ((zaa l0_5 x46_3).f0), .int .i64 ((zaa l0_5 x46_3).f1), .int .i64 ((zaa l0_5 x46_3).f2), .int .i64 ((zaa l0_5 x46_3).f3), .int .i64 ((zaa l0_5 x46_3).f4), .slice A226_5 ((zaa l0_5 x46_3).f5).length c226_5] 41 (0, 0))) := ⟨q6_⟩
                 have n2_ : zab (Below w.heap.size w ((((((w56.setCell ⟨gb227, 0, none⟩ (.int .i64 ((zaa l0_5 x46_3).f0))).setCell ⟨gb227, 1, none⟩ (.int .i64 ((zaa l0_5 x46_3).f1))).setCell ⟨gb227, 2, none⟩ (.int .i64 ((zaa l0_5 x46_3).f2))).setCell ⟨gb227, 3, none⟩ (.int .i64 ((zaa l0_5 x46_3).f3))).setCell ⟨gb227, 4, none⟩ (.int .i64 ((zaa l0_5 x46_3).f4))).setCell ⟨gb227, 5, none⟩ (.slice A226_5 ((zaa l0_5 x46_3).f5).length c226_5))) := ⟨q0_⟩
                 try clear BK224 BK227 HB
                 generalize ((((((w56.setCell ⟨gb227, 0, none⟩ (.int .i64 ((zaa l0_5 x46_3).f0))).setCell ⟨gb227, 1, none⟩ (.int .i64 ((zaa l0_5 x46_3).f1))).setCell ⟨gb227, 2, none⟩ (.int .i64 ((zaa l0_5 x46_3).f2))).setCell ⟨gb227, 3, none⟩ (.int .i64 ((zaa l0_5 x46_3).f3))).setCell ⟨gb227, 4, none⟩ (.int .i64 ((zaa l0_5 x46_3).f4))).setCell ⟨gb227, 5, none⟩ (.slice A226_5 ((zaa l0_5 x46_3).f5).length c226_5)) = w59 at n0_ n1_ n2_ ⊢
                 have BK224 := n0_
                 have BK227 := n1_
                 have HB := n2_
                 clear n0_ n1_ n2_
                 replace BK224 := dB_ BK224
                 replace BK227 := dB_ BK227
                 replace HB := ak_ (zbn HB.out)
                 refine zeq (n := 45) (S := fun w' => w'.cell? ⟨gb227, 0, none⟩ = some (.int .i64 ((zaa l0_5 x46_3).f0)) ∧ w'.cell? ⟨gb227, 1, none⟩ = some (.int .i64 ((zaa l0_5 x46_3).f1)) ∧ w'.cell? ⟨gb227, 2, none⟩ = some (.int .i64 ((zaa l0_5 x46_3).f2)) ∧ w'.cell? ⟨gb227, 3, none⟩ = some (.int .i64 ((zaa l0_5 x46_3).f3)) ∧ w'.cell? ⟨gb227, 4, none⟩ = some (.int .i64 ((zaa l0_5 x46_3).f4)) ∧ w'.cell? ⟨gb227, 5, none⟩ = some (.slice A226_5 ((zaa l0_5 x46_3).f5).length c226_5) ∧ w'.cell? ⟨gb224, 0, none⟩ = some (.int .i64 a0_0) ∧ w'.cell? ⟨gb224, 1, none⟩ = some (.int .i64 a0_1) ∧ w'.cell? ⟨gb224, 2, none⟩ = some (.slice A0_2 l0_2.length c0_2) ∧ w'.cell? ⟨gb224, 3, none⟩ = some (.int .i64 a0_3) ∧ w'.cell? ⟨gb224, 4, none⟩ = some (.int .i64 a0_4) ∧ w'.cell? ⟨gb224, 5, none⟩ = some (.slice (some ad226) l0_5.length c0_5)) (ds := []) (bz 45 0) (by kernel_rfl) rfl rfl ⟨bt_ BK227.out 0, bt_ BK227.out 1, bt_ BK227.out 2, bt_ BK227.out 3, bt_ BK227.out 4, bt_ BK227.out 5, bt_ BK224.out 0, bt_ BK224.out 1, bt_ BK224.out 2, bt_ BK224.out 3, bt_ BK224.out 4, bt_ BK224.out 5⟩ (fun hHeld => ?_)
                 refine zcw zax.tab8 zax.bits8 (fun HT_ HW_ => ?_)
                 generalize w59.drew = w60 at BK224 BK227 HB hHeld ⊢
                 refine pz_ 0 51 (bz 45 1) ?_
                 refine zfi 1 52 (bz 45 2) hHeld ?_
                 refine pz_ 2 53 (bz 45 3) ?_
                 refine pz_ 3 54 (bz 45 4) ?_
                 refine zfi 4 55 (bz 45 5) hHeld ?_
                 refine oz_ 5 (some 56) (bz 45 6) (fun K hK => ?_)
                 refine zfh Tryd.func37 (by kernel_rfl) rfl #[.agg #[.int .i64 ((zaa l0_5 x46_3).f0), .int .i64 ((zaa l0_5 x46_3).f1), .int .i64 ((zaa l0_5 x46_3).f2), .int .i64 ((zaa l0_5 x46_3).f3), .int .i64 ((zaa l0_5 x46_3).f4), .slice A226_5 ((zaa l0_5 x46_3).f5).length c226_5]] (by rfl) rfl rfl q3_ ?_
                 with_reducible refine ca_ (zbc.calls k3 ((zaa l0_5 x46_3).f0) ((zaa l0_5 x46_3).f1) ((zaa l0_5 x46_3).f2) ((zaa l0_5 x46_3).f3) ((zaa l0_5 x46_3).f4) _ _ ((zaa l0_5 x46_3).f5) true _ ?side1 ?side2 A28.out q31_) ?_
                 (case side1 => exact cx_ (Kd.zcc HR226_5.out HB.out))
                 (case side2 => exact HC226_5.out)
                 intro w61 hb
                 replace BK224 := bb_ q18_ hb
                 replace BK227 := bb_ q114_ hb
                 replace HB := bs_ hb
                 clear hb
                 refine hK.out _ _ ⟨bt_ BK227.out 0, bt_ BK227.out 1, bt_ BK227.out 2, bt_ BK227.out 3, bt_ BK227.out 4, bt_ BK227.out 5, bt_ BK224.out 0, bt_ BK224.out 1, bt_ BK224.out 2, bt_ BK224.out 3, bt_ BK224.out 4, bt_ BK224.out 5⟩ (fun hHeld => ?_)
                 clear hK K
                 refine nz_ ?_
                 refine pz_ 6 57 (bz 45 7) ?_
                 refine pz_ 7 58 (bz 45 8) ?_
                 refine pz_ 8 59 (bz 45 9) ?_
                 refine pz_ 9 60 (bz 45 10) ?_
                 refine pz_ 11 62 b82_11 ?_
                 refine zfi 10 61 (bz 45 12) hHeld ?_
                 refine zfi 12 63 (bz 45 13) hHeld ?_
                 refine pz_ 13 64 (bz 45 14) ?_
                 refine pz_ 14 65 (bz 45 15) ?_
                 refine pz_ 15 66 (bz 45 16) ?_
                 refine pz_ 16 67 (bz 45 17) ?_
                 refine pz_ 18 69 b82_18 ?_
                 refine zfi 17 68 (bz 45 19) hHeld ?_
                 refine zfi 19 70 (bz 45 20) hHeld ?_
                 refine pz_ 20 71 (bz 45 21) ?_
                 refine pz_ 21 72 (bz 45 22) ?_
                 refine pz_ 22 73 (bz 45 23) ?_
                 refine pz_ 23 74 (bz 45 24) ?_
                 refine pz_ 25 76 b82_25 ?_
                 refine zfi 24 75 (bz 45 26) hHeld ?_
                 refine zfi 26 77 (bz 45 27) hHeld ?_
                 refine pz_ 27 78 (bz 45 28) ?_
                 refine pz_ 28 79 (bz 45 29) ?_
                 refine pz_ 29 80 (bz 45 30) ?_
                 refine pu_ 30 81 (bz 45 31) ?_
                 refine pu_ 31 82 (bz 45 32) ?_
                 refine pu_ 32 83 (bz 45 33) ?_
                 refine pu_ 33 84 (bz 45 34) ?_
                 refine pu_ 34 85 (bz 45 35) ?_
                 refine pu_ 35 86 (bz 45 36) ?_
                 refine pu_ 36 87 (bz 45 37) ?_
                 refine pu_ 37 88 (bz 45 38) ?_
                 refine pu_ 38 89 (bz 45 39) ?_
                 refine pu_ 39 90 (bz 45 40) ?_
                 refine pu_ 40 91 (bz 45 41) ?_
                 refine pu_ 41 92 (bz 45 42) ?_
                 refine pu_ 42 93 (bz 45 43) ?_
                 refine pu_ 43 94 (bz 45 44) ?_
                 refine pz_ 44 95 (bz 45 45) ?_
                 refine zey (zcz HT_.out (by kernel_rfl)) ?_
                 try go_wp2
                 go_ret
                 exact ⟨q5_, q0_⟩
               ·rw [if_neg c31] at H
                have c31b0 := bn_ c31
                have c31b1 := bn1_ c31
                obtain rfl := Option.some.inj H
                have p226 : 0 ≤ (x46_3 : Int) := of_decide_eq_true q4_
                have q226 : x46_3 < (l0_5.length : Int) := of_decide_eq_true q4_
                obtain ⟨ad226, A226_5, c226_5, e226, hx226_0, hx226_1, hx226_2, hx226_3, hx226_4, hx226_5, hl226_5, hi226_5⟩ := zih HR0_5.out x46_3 p226 q226
                cases e226
                replace hx226_0 := hc_ HB.out hx226_0
                replace hx226_1 := hc_ HB.out hx226_1
                replace hx226_2 := hc_ HB.out hx226_2
                replace hx226_3 := hc_ HB.out hx226_3
                replace hx226_4 := hc_ HB.out hx226_4
                replace hx226_5 := hc_ HB.out hx226_5
                have HR226_5 := ak_ hi226_5
                have HC226_5 := ak_ hl226_5
                clear hi226_5 hl226_5
                replace p226 := eq_true p226
                replace q226 := eq_true q226
                try go_wp2_with (first | ((with_reducible refine gd_ 4 rfl ?_); (try (refine zcu (by rfl) ?_; dsimp only)); refine by_ #[.int .i64 0, .int .i64 0, .int .i64 0, .int .i64 0, .int .i64 0, .slice none 0 0] 41 ?_; intro gb227 hg w62 BK227 hb; have GE227 := ak_ (q2_ : w.heap.size ≤ gb227); have NB224_227 := nl_ hg q18_; have NB227_224 := ne_ NB224_227; replace BK224 := bb_ q18_ hb; replace HB := bs_ hb; clear hb hg; have hn63 := np_ NB227_224; have hz64 := bc6_ (w := w62) BK227.out))
                have n0_ : zab (((((((w62.setCell ⟨gb227, 0, none⟩ (.int .i64 ((zaa l0_5 x46_3).f0))).setCell ⟨gb227, 1, none⟩ (.int .i64 ((zaa l0_5 x46_3).f1))).setCell ⟨gb227, 2, none⟩ (.int .i64 ((zaa l0_5 x46_3).f2))).setCell ⟨gb227, 3, none⟩ (.int .i64 ((zaa l0_5 x46_3).f3))).setCell ⟨gb227, 4, none⟩ (.int .i64 ((zaa l0_5 x46_3).f4))).setCell ⟨gb227, 5, none⟩ (.slice A226_5 ((zaa l0_5 x46_3).f5).length c226_5)).heap[gb224]? = some (.cells #[.int .i64 a0_0, .int .i64 a0_1, .slice A0_2 l0_2.length c0_2, .int .i64 a0_3, .int .i64 a0_4, .slice (some ad226) l0_5.length c0_5] 33 (0, 0))) := ⟨q10_⟩
                have n1_ : zab (((((((w62.setCell ⟨gb227, 0, none⟩ (.int .i64 ((zaa l0_5 x46_3).f0))).setCell ⟨gb227, 1, none⟩ (.int .i64 ((zaa l0_5 x46_3).f1))).setCell ⟨gb227, 2, none⟩ (.int .i64 ((zaa l0_5 x46_3).f2))).setCell ⟨gb227, 3, none⟩ (.int .i64 ((zaa l0_5 x46_3).f3))).setCell ⟨gb227, 4, none⟩ (.int .i64 ((zaa l0_5 x46_3).f4))).setCell ⟨gb227, 5, none⟩ (.slice A226_5 ((zaa l0_5 x46_3).f5).length c226_5)).heap[gb227]? = some (.cells #[.int .i64 ((zaa l0_5 x46_3).f0), .int .i64 ((zaa l0_5 x46_3).f1), .int .i64 ((zaa l0_5 x46_3).f2), .int .i64 ((zaa l0_5 x46_3).f3), .int .i64 ((zaa l0_5 x46_3).f4), .slice A226_5 ((zaa l0_5 x46_3).f5).length c226_5] 41 (0, 0))) := ⟨q6_⟩
                have n2_ : zab (Below w.heap.size w ((((((w62.setCell ⟨gb227, 0, none⟩ (.int .i64 ((zaa l0_5 x46_3).f0))).setCell ⟨gb227, 1, none⟩ (.int .i64 ((zaa l0_5 x46_3).f1))).setCell ⟨gb227, 2, none⟩ (.int .i64 ((zaa l0_5 x46_3).f2))).setCell ⟨gb227, 3, none⟩ (.int .i64 ((zaa l0_5 x46_3).f3))).setCell ⟨gb227, 4, none⟩ (.int .i64 ((zaa l0_5 x46_3).f4))).setCell ⟨gb227, 5, none⟩ (.slice A226_5 ((zaa l0_5 x46_3).f5).length c226_5))) := ⟨q0_⟩
                try clear BK224 BK227 HB
                generalize ((((((w62.setCell ⟨gb227, 0, none⟩ (.int .i64 ((zaa l0_5 x46_3).f0))).setCell ⟨gb227, 1, none⟩ (.int .i64 ((zaa l0_5 x46_3).f1))).setCell ⟨gb227, 2, none⟩ (.int .i64 ((zaa l0_5 x46_3).f2))).setCell ⟨gb227, 3, none⟩ (.int .i64 ((zaa l0_5 x46_3).f3))).setCell ⟨gb227, 4, none⟩ (.int .i64 ((zaa l0_5 x46_3).f4))).setCell ⟨gb227, 5, none⟩ (.slice A226_5 ((zaa l0_5 x46_3).f5).length c226_5)) = w65 at n0_ n1_ n2_ ⊢
                have BK224 := n0_
                have BK227 := n1_
                have HB := n2_
                clear n0_ n1_ n2_
                replace BK224 := dB_ BK224
                replace BK227 := dB_ BK227
                replace HB := ak_ (zbn HB.out)
                refine zeq (n := 45) (S := fun w' => w'.cell? ⟨gb227, 0, none⟩ = some (.int .i64 ((zaa l0_5 x46_3).f0)) ∧ w'.cell? ⟨gb227, 1, none⟩ = some (.int .i64 ((zaa l0_5 x46_3).f1)) ∧ w'.cell? ⟨gb227, 2, none⟩ = some (.int .i64 ((zaa l0_5 x46_3).f2)) ∧ w'.cell? ⟨gb227, 3, none⟩ = some (.int .i64 ((zaa l0_5 x46_3).f3)) ∧ w'.cell? ⟨gb227, 4, none⟩ = some (.int .i64 ((zaa l0_5 x46_3).f4)) ∧ w'.cell? ⟨gb227, 5, none⟩ = some (.slice A226_5 ((zaa l0_5 x46_3).f5).length c226_5) ∧ w'.cell? ⟨gb224, 0, none⟩ = some (.int .i64 a0_0) ∧ w'.cell? ⟨gb224, 1, none⟩ = some (.int .i64 a0_1) ∧ w'.cell? ⟨gb224, 2, none⟩ = some (.slice A0_2 l0_2.length c0_2) ∧ w'.cell? ⟨gb224, 3, none⟩ = some (.int .i64 a0_3) ∧ w'.cell? ⟨gb224, 4, none⟩ = some (.int .i64 a0_4) ∧ w'.cell? ⟨gb224, 5, none⟩ = some (.slice (some ad226) l0_5.length c0_5)) (ds := []) (bz 45 0) (by kernel_rfl) rfl rfl ⟨bt_ BK227.out 0, bt_ BK227.out 1, bt_ BK227.out 2, bt_ BK227.out 3, bt_ BK227.out 4, bt_ BK227.out 5, bt_ BK224.out 0, bt_ BK224.out 1, bt_ BK224.out 2, bt_ BK224.out 3, bt_ BK224.out 4, bt_ BK224.out 5⟩ (fun hHeld => ?_)
                refine zcw zax.tab8 zax.bits8 (fun HT_ HW_ => ?_)
                generalize w65.drew = w66 at BK224 BK227 HB hHeld ⊢
                refine pz_ 0 51 (bz 45 1) ?_
                refine zfi 1 52 (bz 45 2) hHeld ?_
                refine pz_ 2 53 (bz 45 3) ?_
                refine pz_ 3 54 (bz 45 4) ?_
                refine zfi 4 55 (bz 45 5) hHeld ?_
                refine oz_ 5 (some 56) (bz 45 6) (fun K hK => ?_)
                refine zfh Tryd.func37 (by kernel_rfl) rfl #[.agg #[.int .i64 ((zaa l0_5 x46_3).f0), .int .i64 ((zaa l0_5 x46_3).f1), .int .i64 ((zaa l0_5 x46_3).f2), .int .i64 ((zaa l0_5 x46_3).f3), .int .i64 ((zaa l0_5 x46_3).f4), .slice A226_5 ((zaa l0_5 x46_3).f5).length c226_5]] (by rfl) rfl rfl q3_ ?_
                with_reducible refine ca_ (zbc.calls k3 ((zaa l0_5 x46_3).f0) ((zaa l0_5 x46_3).f1) ((zaa l0_5 x46_3).f2) ((zaa l0_5 x46_3).f3) ((zaa l0_5 x46_3).f4) _ _ ((zaa l0_5 x46_3).f5) true _ ?side1 ?side2 A28.out q31_) ?_
                (case side1 => exact cx_ (Kd.zcc HR226_5.out HB.out))
                (case side2 => exact HC226_5.out)
                intro w67 hb
                replace BK224 := bb_ q18_ hb
                replace BK227 := bb_ q114_ hb
                replace HB := bs_ hb
                clear hb
                refine hK.out _ _ ⟨bt_ BK227.out 0, bt_ BK227.out 1, bt_ BK227.out 2, bt_ BK227.out 3, bt_ BK227.out 4, bt_ BK227.out 5, bt_ BK224.out 0, bt_ BK224.out 1, bt_ BK224.out 2, bt_ BK224.out 3, bt_ BK224.out 4, bt_ BK224.out 5⟩ (fun hHeld => ?_)
                clear hK K
                refine nz_ ?_
                refine pz_ 6 57 (bz 45 7) ?_
                refine pz_ 7 58 (bz 45 8) ?_
                refine pz_ 8 59 (bz 45 9) ?_
                refine pz_ 9 60 (bz 45 10) ?_
                refine pz_ 11 62 b82_11 ?_
                refine zfi 10 61 (bz 45 12) hHeld ?_
                refine zfi 12 63 (bz 45 13) hHeld ?_
                refine pz_ 13 64 (bz 45 14) ?_
                refine pz_ 14 65 (bz 45 15) ?_
                refine pz_ 15 66 (bz 45 16) ?_
                refine pz_ 16 67 (bz 45 17) ?_
                refine pz_ 18 69 b82_18 ?_
                refine zfi 17 68 (bz 45 19) hHeld ?_
                refine zfi 19 70 (bz 45 20) hHeld ?_
                refine pz_ 20 71 (bz 45 21) ?_
                refine pz_ 21 72 (bz 45 22) ?_
                refine pz_ 22 73 (bz 45 23) ?_
                refine pu_ 23 74 (bz 45 24) ?_
                refine pu_ 24 75 (bz 45 25) ?_
                refine pu_ 25 76 (bz 45 26) ?_
                refine pu_ 26 77 (bz 45 27) ?_
                refine pu_ 27 78 (bz 45 28) ?_
                refine pz_ 28 79 (bz 45 29) ?_
                refine pz_ 29 80 (bz 45 30) ?_
                refine pu_ 30 81 (bz 45 31) ?_
                refine pu_ 31 82 (bz 45 32) ?_
                refine pu_ 32 83 (bz 45 33) ?_
                refine pu_ 33 84 (bz 45 34) ?_
                refine pu_ 34 85 (bz 45 35) ?_
                refine pu_ 35 86 (bz 45 36) ?_
                refine pu_ 36 87 (bz 45 37) ?_
                refine pu_ 37 88 (bz 45 38) ?_
                refine pu_ 38 89 (bz 45 39) ?_
                refine pu_ 39 90 (bz 45 40) ?_
                refine pu_ 40 91 (bz 45 41) ?_
                refine pu_ 41 92 (bz 45 42) ?_
                refine pu_ 42 93 (bz 45 43) ?_
                refine pu_ 43 94 (bz 45 44) ?_
                refine pz_ 44 95 (bz 45 45) ?_
                refine zey (zcz HT_.out (by kernel_rfl)) ?_
                try go_wp2
                go_ret
                exact ⟨q5_, q0_⟩
              ·rw [if_neg c30] at H
               have c30b0 := bn_ c30
               have c30b1 := bn1_ c30
               obtain rfl := Option.some.inj H
               have p226 : 0 ≤ (x46_3 : Int) := of_decide_eq_true q4_
               have q226 : x46_3 < (l0_5.length : Int) := of_decide_eq_true q4_
               obtain ⟨ad226, A226_5, c226_5, e226, hx226_0, hx226_1, hx226_2, hx226_3, hx226_4, hx226_5, hl226_5, hi226_5⟩ := zih HR0_5.out x46_3 p226 q226
               cases e226
               replace hx226_0 := hc_ HB.out hx226_0
               replace hx226_1 := hc_ HB.out hx226_1
               replace hx226_2 := hc_ HB.out hx226_2
               replace hx226_3 := hc_ HB.out hx226_3
               replace hx226_4 := hc_ HB.out hx226_4
               replace hx226_5 := hc_ HB.out hx226_5
               have HR226_5 := ak_ hi226_5
               have HC226_5 := ak_ hl226_5
               clear hi226_5 hl226_5
               replace p226 := eq_true p226
               replace q226 := eq_true q226
               try go_wp2_with (first | ((with_reducible refine gd_ 4 rfl ?_); (try (refine zcu (by rfl) ?_; dsimp only)); refine by_ #[.int .i64 0, .int .i64 0, .int .i64 0, .int .i64 0, .int .i64 0, .slice none 0 0] 41 ?_; intro gb227 hg w68 BK227 hb; have GE227 := ak_ (q2_ : w.heap.size ≤ gb227); have NB224_227 := nl_ hg q18_; have NB227_224 := ne_ NB224_227; replace BK224 := bb_ q18_ hb; replace HB := bs_ hb; clear hb hg; have hn69 := np_ NB227_224; have hz70 := bc6_ (w := w68) BK227.out))
               have n0_ : zab (((((((w68.setCell ⟨gb227, 0, none⟩ (.int .i64 ((zaa l0_5 x46_3).f0))).setCell ⟨gb227, 1, none⟩ (.int .i64 ((zaa l0_5 x46_3).f1))).setCell ⟨gb227, 2, none⟩ (.int .i64 ((zaa l0_5 x46_3).f2))).setCell ⟨gb227, 3, none⟩ (.int .i64 ((zaa l0_5 x46_3).f3))).setCell ⟨gb227, 4, none⟩ (.int .i64 ((zaa l0_5 x46_3).f4))).setCell ⟨gb227, 5, none⟩ (.slice A226_5 ((zaa l0_5 x46_3).f5).length c226_5)).heap[gb224]? = some (.cells #[.int .i64 a0_0, .int .i64 a0_1, .slice A0_2 l0_2.length c0_2, .int .i64 a0_3, .int .i64 a0_4, .slice (some ad226) l0_5.length c0_5] 33 (0, 0))) := ⟨q10_⟩
               have n1_ : zab (((((((w68.setCell ⟨gb227, 0, none⟩ (.int .i64 ((zaa l0_5 x46_3).f0))).setCell ⟨gb227, 1, none⟩ (.int .i64 ((zaa l0_5 x46_3).f1))).setCell ⟨gb227, 2, none⟩ (.int .i64 ((zaa l0_5 x46_3).f2))).setCell ⟨gb227, 3, none⟩ (.int .i64 ((zaa l0_5 x46_3).f3))).setCell ⟨gb227, 4, none⟩ (.int .i64 ((zaa l0_5 x46_3).f4))).setCell ⟨gb227, 5, none⟩ (.slice A226_5 ((zaa l0_5 x46_3).f5).length c226_5)).heap[gb227]? = some (.cells #[.int .i64 ((zaa l0_5 x46_3).f0), .int .i64 ((zaa l0_5 x46_3).f1), .int .i64 ((zaa l0_5 x46_3).f2), .int .i64 ((zaa l0_5 x46_3).f3), .int .i64 ((zaa l0_5 x46_3).f4), .slice A226_5 ((zaa l0_5 x46_3).f5).length c226_5] 41 (0, 0))) := ⟨q6_⟩
               have n2_ : zab (Below w.heap.size w ((((((w68.setCell ⟨gb227, 0, none⟩ (.int .i64 ((zaa l0_5 x46_3).f0))).setCell ⟨gb227, 1, none⟩ (.int .i64 ((zaa l0_5 x46_3).f1))).setCell ⟨gb227, 2, none⟩ (.int .i64 ((zaa l0_5 x46_3).f2))).setCell ⟨gb227, 3, none⟩ (.int .i64 ((zaa l0_5 x46_3).f3))).setCell ⟨gb227, 4, none⟩ (.int .i64 ((zaa l0_5 x46_3).f4))).setCell ⟨gb227, 5, none⟩ (.slice A226_5 ((zaa l0_5 x46_3).f5).length c226_5))) := ⟨q0_⟩
               try clear BK224 BK227 HB
               generalize ((((((w68.setCell ⟨gb227, 0, none⟩ (.int .i64 ((zaa l0_5 x46_3).f0))).setCell ⟨gb227, 1, none⟩ (.int .i64 ((zaa l0_5 x46_3).f1))).setCell ⟨gb227, 2, none⟩ (.int .i64 ((zaa l0_5 x46_3).f2))).setCell ⟨gb227, 3, none⟩ (.int .i64 ((zaa l0_5 x46_3).f3))).setCell ⟨gb227, 4, none⟩ (.int .i64 ((zaa l0_5 x46_3).f4))).setCell ⟨gb227, 5, none⟩ (.slice A226_5 ((zaa l0_5 x46_3).f5).length c226_5)) = w71 at n0_ n1_ n2_ ⊢
               have BK224 := n0_
               have BK227 := n1_
               have HB := n2_
               clear n0_ n1_ n2_
               replace BK224 := dB_ BK224
               replace BK227 := dB_ BK227
               replace HB := ak_ (zbn HB.out)
               refine zeq (n := 45) (S := fun w' => w'.cell? ⟨gb227, 0, none⟩ = some (.int .i64 ((zaa l0_5 x46_3).f0)) ∧ w'.cell? ⟨gb227, 1, none⟩ = some (.int .i64 ((zaa l0_5 x46_3).f1)) ∧ w'.cell? ⟨gb227, 2, none⟩ = some (.int .i64 ((zaa l0_5 x46_3).f2)) ∧ w'.cell? ⟨gb227, 3, none⟩ = some (.int .i64 ((zaa l0_5 x46_3).f3)) ∧ w'.cell? ⟨gb227, 4, none⟩ = some (.int .i64 ((zaa l0_5 x46_3).f4)) ∧ w'.cell? ⟨gb227, 5, none⟩ = some (.slice A226_5 ((zaa l0_5 x46_3).f5).length c226_5) ∧ w'.cell? ⟨gb224, 0, none⟩ = some (.int .i64 a0_0) ∧ w'.cell? ⟨gb224, 1, none⟩ = some (.int .i64 a0_1) ∧ w'.cell? ⟨gb224, 2, none⟩ = some (.slice A0_2 l0_2.length c0_2) ∧ w'.cell? ⟨gb224, 3, none⟩ = some (.int .i64 a0_3) ∧ w'.cell? ⟨gb224, 4, none⟩ = some (.int .i64 a0_4) ∧ w'.cell? ⟨gb224, 5, none⟩ = some (.slice (some ad226) l0_5.length c0_5)) (ds := []) (bz 45 0) (by kernel_rfl) rfl rfl ⟨bt_ BK227.out 0, bt_ BK227.out 1, bt_ BK227.out 2, bt_ BK227.out 3, bt_ BK227.out 4, bt_ BK227.out 5, bt_ BK224.out 0, bt_ BK224.out 1, bt_ BK224.out 2, bt_ BK224.out 3, bt_ BK224.out 4, bt_ BK224.out 5⟩ (fun hHeld => ?_)
               refine zcw zax.tab8 zax.bits8 (fun HT_ HW_ => ?_)
               generalize w71.drew = w72 at BK224 BK227 HB hHeld ⊢
               refine pz_ 0 51 (bz 45 1) ?_
               refine zfi 1 52 (bz 45 2) hHeld ?_
               refine pz_ 2 53 (bz 45 3) ?_
               refine pz_ 3 54 (bz 45 4) ?_
               refine zfi 4 55 (bz 45 5) hHeld ?_
               refine oz_ 5 (some 56) (bz 45 6) (fun K hK => ?_)
               refine zfh Tryd.func37 (by kernel_rfl) rfl #[.agg #[.int .i64 ((zaa l0_5 x46_3).f0), .int .i64 ((zaa l0_5 x46_3).f1), .int .i64 ((zaa l0_5 x46_3).f2), .int .i64 ((zaa l0_5 x46_3).f3), .int .i64 ((zaa l0_5 x46_3).f4), .slice A226_5 ((zaa l0_5 x46_3).f5).length c226_5]] (by rfl) rfl rfl q3_ ?_
               with_reducible refine ca_ (zbc.calls k3 ((zaa l0_5 x46_3).f0) ((zaa l0_5 x46_3).f1) ((zaa l0_5 x46_3).f2) ((zaa l0_5 x46_3).f3) ((zaa l0_5 x46_3).f4) _ _ ((zaa l0_5 x46_3).f5) true _ ?side1 ?side2 A28.out q31_) ?_
               (case side1 => exact cx_ (Kd.zcc HR226_5.out HB.out))
               (case side2 => exact HC226_5.out)
               intro w73 hb
               replace BK224 := bb_ q18_ hb
               replace BK227 := bb_ q114_ hb
               replace HB := bs_ hb
               clear hb
               refine hK.out _ _ ⟨bt_ BK227.out 0, bt_ BK227.out 1, bt_ BK227.out 2, bt_ BK227.out 3, bt_ BK227.out 4, bt_ BK227.out 5, bt_ BK224.out 0, bt_ BK224.out 1, bt_ BK224.out 2, bt_ BK224.out 3, bt_ BK224.out 4, bt_ BK224.out 5⟩ (fun hHeld => ?_)
               clear hK K
               refine nz_ ?_
               refine pz_ 6 57 (bz 45 7) ?_
               refine pz_ 7 58 (bz 45 8) ?_
               refine pz_ 8 59 (bz 45 9) ?_
               refine pz_ 9 60 (bz 45 10) ?_
               refine pz_ 11 62 b82_11 ?_
               refine zfi 10 61 (bz 45 12) hHeld ?_
               refine zfi 12 63 (bz 45 13) hHeld ?_
               refine pz_ 13 64 (bz 45 14) ?_
               refine pz_ 14 65 (bz 45 15) ?_
               refine pz_ 15 66 (bz 45 16) ?_
               refine pu_ 16 67 (bz 45 17) ?_
               refine pu_ 17 68 (bz 45 18) ?_
               refine pu_ 18 69 (bz 45 19) ?_
               refine pu_ 19 70 (bz 45 20) ?_
               refine pu_ 20 71 (bz 45 21) ?_
               refine pz_ 21 72 (bz 45 22) ?_
               refine pz_ 22 73 (bz 45 23) ?_
               refine pu_ 23 74 (bz 45 24) ?_
               refine pu_ 24 75 (bz 45 25) ?_
               refine pu_ 25 76 (bz 45 26) ?_
               refine pu_ 26 77 (bz 45 27) ?_
               refine pu_ 27 78 (bz 45 28) ?_
               refine pz_ 28 79 (bz 45 29) ?_
               refine pz_ 29 80 (bz 45 30) ?_
               refine pu_ 30 81 (bz 45 31) ?_
               refine pu_ 31 82 (bz 45 32) ?_
               refine pu_ 32 83 (bz 45 33) ?_
               refine pu_ 33 84 (bz 45 34) ?_
               refine pu_ 34 85 (bz 45 35) ?_
               refine pu_ 35 86 (bz 45 36) ?_
               refine pu_ 36 87 (bz 45 37) ?_
               refine pu_ 37 88 (bz 45 38) ?_
               refine pu_ 38 89 (bz 45 39) ?_
               refine pu_ 39 90 (bz 45 40) ?_
               refine pu_ 40 91 (bz 45 41) ?_
               refine pu_ 41 92 (bz 45 42) ?_
               refine pu_ 42 93 (bz 45 43) ?_
               refine pu_ 43 94 (bz 45 44) ?_
               refine pz_ 44 95 (bz 45 45) ?_
               refine zey (zcz HT_.out (by kernel_rfl)) ?_
               try go_wp2
               go_ret
               exact ⟨q5_, q0_⟩
             ·replace c29 := Bool.eq_false_iff.mpr c29
              subst c29
              replace H := ifF_ H
              obtain rfl := Option.some.inj H
              have p226 : 0 ≤ (x46_3 : Int) := of_decide_eq_true q4_
              have q226 : x46_3 < (l0_5.length : Int) := of_decide_eq_true q4_
              obtain ⟨ad226, A226_5, c226_5, e226, hx226_0, hx226_1, hx226_2, hx226_3, hx226_4, hx226_5, hl226_5, hi226_5⟩ := zih HR0_5.out x46_3 p226 q226
              cases e226
              replace hx226_0 := hc_ HB.out hx226_0
              replace hx226_1 := hc_ HB.out hx226_1
              replace hx226_2 := hc_ HB.out hx226_2
              replace hx226_3 := hc_ HB.out hx226_3
              replace hx226_4 := hc_ HB.out hx226_4
              replace hx226_5 := hc_ HB.out hx226_5
              have HR226_5 := ak_ hi226_5
              have HC226_5 := ak_ hl226_5
              clear hi226_5 hl226_5
              replace p226 := eq_true p226
              replace q226 := eq_true q226
              try go_wp2_with (first | ((with_reducible refine gd_ 4 rfl ?_); (try (refine zcu (by rfl) ?_; dsimp only)); refine by_ #[.int .i64 0, .int .i64 0, .int .i64 0, .int .i64 0, .int .i64 0, .slice none 0 0] 41 ?_; intro gb227 hg w74 BK227 hb; have GE227 := ak_ (q2_ : w.heap.size ≤ gb227); have NB224_227 := nl_ hg q18_; have NB227_224 := ne_ NB224_227; replace BK224 := bb_ q18_ hb; replace HB := bs_ hb; clear hb hg; have hn75 := np_ NB227_224; have hz76 := bc6_ (w := w74) BK227.out))
              have n0_ : zab (((((((w74.setCell ⟨gb227, 0, none⟩ (.int .i64 ((zaa l0_5 x46_3).f0))).setCell ⟨gb227, 1, none⟩ (.int .i64 ((zaa l0_5 x46_3).f1))).setCell ⟨gb227, 2, none⟩ (.int .i64 ((zaa l0_5 x46_3).f2))).setCell ⟨gb227, 3, none⟩ (.int .i64 ((zaa l0_5 x46_3).f3))).setCell ⟨gb227, 4, none⟩ (.int .i64 ((zaa l0_5 x46_3).f4))).setCell ⟨gb227, 5, none⟩ (.slice A226_5 ((zaa l0_5 x46_3).f5).length c226_5)).heap[gb224]? = some (.cells #[.int .i64 a0_0, .int .i64 a0_1, .slice A0_2 l0_2.length c0_2, .int .i64 a0_3, .int .i64 a0_4, .slice (some ad226) l0_5.length c0_5] 33 (0, 0))) := ⟨q10_⟩
              have n1_ : zab (((((((w74.setCell ⟨gb227, 0, none⟩ (.int .i64 ((zaa l0_5 x46_3).f0))).setCell ⟨gb227, 1, none⟩ (.int .i64 ((zaa l0_5 x46_3).f1))).setCell ⟨gb227, 2, none⟩ (.int .i64 ((zaa l0_5 x46_3).f2))).setCell ⟨gb227, 3, none⟩ (.int .i64 ((zaa l0_5 x46_3).f3))).setCell ⟨gb227, 4, none⟩ (.int .i64 ((zaa l0_5 x46_3).f4))).setCell ⟨gb227, 5, none⟩ (.slice A226_5 ((zaa l0_5 x46_3).f5).length c226_5)).heap[gb227]? = some (.cells #[.int .i64 ((zaa l0_5 x46_3).f0), .int .i64 ((zaa l0_5 x46_3).f1), .int .i64 ((zaa l0_5 x46_3).f2), .int .i64 ((zaa l0_5 x46_3).f3), .int .i64 ((zaa l0_5 x46_3).f4), .slice A226_5 ((zaa l0_5 x46_3).f5).length c226_5] 41 (0, 0))) := ⟨q6_⟩
              have n2_ : zab (Below w.heap.size w ((((((w74.setCell ⟨gb227, 0, none⟩ (.int .i64 ((zaa l0_5 x46_3).f0))).setCell ⟨gb227, 1, none⟩ (.int .i64 ((zaa l0_5 x46_3).f1))).setCell ⟨gb227, 2, none⟩ (.int .i64 ((zaa l0_5 x46_3).f2))).setCell ⟨gb227, 3, none⟩ (.int .i64 ((zaa l0_5 x46_3).f3))).setCell ⟨gb227, 4, none⟩ (.int .i64 ((zaa l0_5 x46_3).f4))).setCell ⟨gb227, 5, none⟩ (.slice A226_5 ((zaa l0_5 x46_3).f5).length c226_5))) := ⟨q0_⟩
              try clear BK224 BK227 HB
              generalize ((((((w74.setCell ⟨gb227, 0, none⟩ (.int .i64 ((zaa l0_5 x46_3).f0))).setCell ⟨gb227, 1, none⟩ (.int .i64 ((zaa l0_5 x46_3).f1))).setCell ⟨gb227, 2, none⟩ (.int .i64 ((zaa l0_5 x46_3).f2))).setCell ⟨gb227, 3, none⟩ (.int .i64 ((zaa l0_5 x46_3).f3))).setCell ⟨gb227, 4, none⟩ (.int .i64 ((zaa l0_5 x46_3).f4))).setCell ⟨gb227, 5, none⟩ (.slice A226_5 ((zaa l0_5 x46_3).f5).length c226_5)) = w77 at n0_ n1_ n2_ ⊢
              have BK224 := n0_
              have BK227 := n1_
              have HB := n2_
              clear n0_ n1_ n2_
              replace BK224 := dB_ BK224
              replace BK227 := dB_ BK227
              replace HB := ak_ (zbn HB.out)
              refine zeq (n := 45) (S := fun w' => w'.cell? ⟨gb227, 0, none⟩ = some (.int .i64 ((zaa l0_5 x46_3).f0)) ∧ w'.cell? ⟨gb227, 1, none⟩ = some (.int .i64 ((zaa l0_5 x46_3).f1)) ∧ w'.cell? ⟨gb227, 2, none⟩ = some (.int .i64 ((zaa l0_5 x46_3).f2)) ∧ w'.cell? ⟨gb227, 3, none⟩ = some (.int .i64 ((zaa l0_5 x46_3).f3)) ∧ w'.cell? ⟨gb227, 4, none⟩ = some (.int .i64 ((zaa l0_5 x46_3).f4)) ∧ w'.cell? ⟨gb227, 5, none⟩ = some (.slice A226_5 ((zaa l0_5 x46_3).f5).length c226_5)) (ds := []) (bz 45 0) (by kernel_rfl) rfl rfl (bs6_ BK227.out) (fun hHeld => ?_)
              refine zcw zax.tab8 zax.bits8 (fun HT_ HW_ => ?_)
              generalize w77.drew = w78 at BK224 BK227 HB hHeld ⊢
              refine pz_ 0 51 (bz 45 1) ?_
              refine tz6_ 1 52 (bz 45 2) hHeld ?_
              refine pz_ 2 53 (bz 45 3) ?_
              refine pz_ 3 54 (bz 45 4) ?_
              refine tz6_ 4 55 (bz 45 5) hHeld ?_
              refine oz_ 5 (some 56) (bz 45 6) (fun K hK => ?_)
              refine zfh Tryd.func37 (by kernel_rfl) rfl #[.agg #[.int .i64 ((zaa l0_5 x46_3).f0), .int .i64 ((zaa l0_5 x46_3).f1), .int .i64 ((zaa l0_5 x46_3).f2), .int .i64 ((zaa l0_5 x46_3).f3), .int .i64 ((zaa l0_5 x46_3).f4), .slice A226_5 ((zaa l0_5 x46_3).f5).length c226_5]] (by rfl) rfl rfl q3_ ?_
              with_reducible refine ca_ (zbc.calls k3 ((zaa l0_5 x46_3).f0) ((zaa l0_5 x46_3).f1) ((zaa l0_5 x46_3).f2) ((zaa l0_5 x46_3).f3) ((zaa l0_5 x46_3).f4) _ _ ((zaa l0_5 x46_3).f5) false _ ?side1 ?side2 A28.out q31_) ?_
              (case side1 => exact cx_ (Kd.zcc HR226_5.out HB.out))
              (case side2 => exact HC226_5.out)
              intro w79 hb
              replace BK224 := bb_ q18_ hb
              replace BK227 := bb_ q114_ hb
              replace HB := bs_ hb
              clear hb
              refine hK.out _ _ (bs6_ BK227.out) (fun hHeld => ?_)
              clear hK K
              refine nz_ ?_
              refine pz_ 6 57 (bz 45 7) ?_
              refine pz_ 7 58 (bz 45 8) ?_
              refine pz_ 8 59 (bz 45 9) ?_
              refine pu_ 9 60 (bz 45 10) ?_
              refine pu_ 10 61 (bz 45 11) ?_
              refine pu_ 11 62 (bz 45 12) ?_
              refine pu_ 12 63 (bz 45 13) ?_
              refine pu_ 13 64 (bz 45 14) ?_
              refine pz_ 14 65 (bz 45 15) ?_
              refine pz_ 15 66 (bz 45 16) ?_
              refine pu_ 16 67 (bz 45 17) ?_
              refine pu_ 17 68 (bz 45 18) ?_
              refine pu_ 18 69 (bz 45 19) ?_
              refine pu_ 19 70 (bz 45 20) ?_
              refine pu_ 20 71 (bz 45 21) ?_
              refine pz_ 21 72 (bz 45 22) ?_
              refine pz_ 22 73 (bz 45 23) ?_
              refine pu_ 23 74 (bz 45 24) ?_
              refine pu_ 24 75 (bz 45 25) ?_
              refine pu_ 25 76 (bz 45 26) ?_
              refine pu_ 26 77 (bz 45 27) ?_
              refine pu_ 27 78 (bz 45 28) ?_
              refine pz_ 28 79 (bz 45 29) ?_
              refine pz_ 29 80 (bz 45 30) ?_
              refine pu_ 30 81 (bz 45 31) ?_
              refine pu_ 31 82 (bz 45 32) ?_
              refine pu_ 32 83 (bz 45 33) ?_
              refine pu_ 33 84 (bz 45 34) ?_
              refine pu_ 34 85 (bz 45 35) ?_
              refine pu_ 35 86 (bz 45 36) ?_
              refine pu_ 36 87 (bz 45 37) ?_
              refine pu_ 37 88 (bz 45 38) ?_
              refine pu_ 38 89 (bz 45 39) ?_
              refine pu_ 39 90 (bz 45 40) ?_
              refine pu_ 40 91 (bz 45 41) ?_
              refine pu_ 41 92 (bz 45 42) ?_
              refine pu_ 42 93 (bz 45 43) ?_
              refine pu_ 43 94 (bz 45 44) ?_
              refine pz_ 44 95 (bz 45 45) ?_
              refine zey (zcz HT_.out (by kernel_rfl)) ?_
              try go_wp2
              go_ret
              exact ⟨q5_, q0_⟩
            ·rw [if_neg c27] at H
             have c27b0 := bn_ c27
             have c27b1 := bn1_ c27
             obtain rfl := Option.some.inj H
             have p226 : 0 ≤ (x46_3 : Int) := of_decide_eq_true q4_
             have q226 : x46_3 < (l0_5.length : Int) := of_decide_eq_true q4_
             obtain ⟨ad226, A226_5, c226_5, e226, hx226_0, hx226_1, hx226_2, hx226_3, hx226_4, hx226_5, hl226_5, hi226_5⟩ := zih HR0_5.out x46_3 p226 q226
             cases e226
             replace hx226_0 := hc_ HB.out hx226_0
             replace hx226_1 := hc_ HB.out hx226_1
             replace hx226_2 := hc_ HB.out hx226_2
             replace hx226_3 := hc_ HB.out hx226_3
             replace hx226_4 := hc_ HB.out hx226_4
             replace hx226_5 := hc_ HB.out hx226_5
             have HR226_5 := ak_ hi226_5
             have HC226_5 := ak_ hl226_5
             clear hi226_5 hl226_5
             replace p226 := eq_true p226
             replace q226 := eq_true q226
             try go_wp2_with (first | ((with_reducible refine gd_ 4 rfl ?_); (try (refine zcu (by rfl) ?_; dsimp only)); refine by_ #[.int .i64 0, .int .i64 0, .int .i64 0, .int .i64 0, .int .i64 0, .slice none 0 0] 41 ?_; intro gb227 hg w80 BK227 hb; have GE227 := ak_ (q2_ : w.heap.size ≤ gb227); have NB224_227 := nl_ hg q18_; have NB227_224 := ne_ NB224_227; replace BK224 := bb_ q18_ hb; replace HB := bs_ hb; clear hb hg; have hn81 := np_ NB227_224; have hz82 := bc6_ (w := w80) BK227.out))
             have n0_ : zab (((((((w80.setCell ⟨gb227, 0, none⟩ (.int .i64 ((zaa l0_5 x46_3).f0))).setCell ⟨gb227, 1, none⟩ (.int .i64 ((zaa l0_5 x46_3).f1))).setCell ⟨gb227, 2, none⟩ (.int .i64 ((zaa l0_5 x46_3).f2))).setCell ⟨gb227, 3, none⟩ (.int .i64 ((zaa l0_5 x46_3).f3))).setCell ⟨gb227, 4, none⟩ (.int .i64 ((zaa l0_5 x46_3).f4))).setCell ⟨gb227, 5, none⟩ (.slice A226_5 ((zaa l0_5 x46_3).f5).length c226_5)).heap[gb224]? = some (.cells #[.int .i64 a0_0, .int .i64 a0_1, .slice A0_2 l0_2.length c0_2, .int .i64 a0_3, .int .i64 a0_4, .slice (some ad226) l0_5.length c0_5] 33 (0, 0))) := ⟨q10_⟩
             have n1_ : zab (((((((w80.setCell ⟨gb227, 0, none⟩ (.int .i64 ((zaa l0_5 x46_3).f0))).setCell ⟨gb227, 1, none⟩ (.int .i64 ((zaa l0_5 x46_3).f1))).setCell ⟨gb227, 2, none⟩ (.int .i64 ((zaa l0_5 x46_3).f2))).setCell ⟨gb227, 3, none⟩ (.int .i64 ((zaa l0_5 x46_3).f3))).setCell ⟨gb227, 4, none⟩ (.int .i64 ((zaa l0_5 x46_3).f4))).setCell ⟨gb227, 5, none⟩ (.slice A226_5 ((zaa l0_5 x46_3).f5).length c226_5)).heap[gb227]? = some (.cells #[.int .i64 ((zaa l0_5 x46_3).f0), .int .i64 ((zaa l0_5 x46_3).f1), .int .i64 ((zaa l0_5 x46_3).f2), .int .i64 ((zaa l0_5 x46_3).f3), .int .i64 ((zaa l0_5 x46_3).f4), .slice A226_5 ((zaa l0_5 x46_3).f5).length c226_5] 41 (0, 0))) := ⟨q6_⟩
             have n2_ : zab (Below w.heap.size w ((((((w80.setCell ⟨gb227, 0, none⟩ (.int .i64 ((zaa l0_5 x46_3).f0))).setCell ⟨gb227, 1, none⟩ (.int .i64 ((zaa l0_5 x46_3).f1))).setCell ⟨gb227, 2, none⟩ (.int .i64 ((zaa l0_5 x46_3).f2))).setCell ⟨gb227, 3, none⟩ (.int .i64 ((zaa l0_5 x46_3).f3))).setCell ⟨gb227, 4, none⟩ (.int .i64 ((zaa l0_5 x46_3).f4))).setCell ⟨gb227, 5, none⟩ (.slice A226_5 ((zaa l0_5 x46_3).f5).length c226_5))) := ⟨q0_⟩
             try clear BK224 BK227 HB
             generalize ((((((w80.setCell ⟨gb227, 0, none⟩ (.int .i64 ((zaa l0_5 x46_3).f0))).setCell ⟨gb227, 1, none⟩ (.int .i64 ((zaa l0_5 x46_3).f1))).setCell ⟨gb227, 2, none⟩ (.int .i64 ((zaa l0_5 x46_3).f2))).setCell ⟨gb227, 3, none⟩ (.int .i64 ((zaa l0_5 x46_3).f3))).setCell ⟨gb227, 4, none⟩ (.int .i64 ((zaa l0_5 x46_3).f4))).setCell ⟨gb227, 5, none⟩ (.slice A226_5 ((zaa l0_5 x46_3).f5).length c226_5)) = w83 at n0_ n1_ n2_ ⊢
             have BK224 := n0_
             have BK227 := n1_
             have HB := n2_
             clear n0_ n1_ n2_
             replace BK224 := dB_ BK224
             replace BK227 := dB_ BK227
             replace HB := ak_ (zbn HB.out)
             refine zeq (n := 45) (S := fun w' => w'.cell? ⟨gb227, 0, none⟩ = some (.int .i64 ((zaa l0_5 x46_3).f0)) ∧ w'.cell? ⟨gb227, 1, none⟩ = some (.int .i64 ((zaa l0_5 x46_3).f1)) ∧ w'.cell? ⟨gb227, 2, none⟩ = some (.int .i64 ((zaa l0_5 x46_3).f2)) ∧ w'.cell? ⟨gb227, 3, none⟩ = some (.int .i64 ((zaa l0_5 x46_3).f3)) ∧ w'.cell? ⟨gb227, 4, none⟩ = some (.int .i64 ((zaa l0_5 x46_3).f4)) ∧ w'.cell? ⟨gb227, 5, none⟩ = some (.slice A226_5 ((zaa l0_5 x46_3).f5).length c226_5)) (ds := []) (bz 45 0) (by kernel_rfl) rfl rfl (bs6_ BK227.out) (fun hHeld => ?_)
             refine zcw zax.tab8 zax.bits8 (fun HT_ HW_ => ?_)
             generalize w83.drew = w84 at BK224 BK227 HB hHeld ⊢
             refine pz_ 0 51 (bz 45 1) ?_
             refine tz6_ 1 52 (bz 45 2) hHeld ?_
             refine pz_ 2 53 (bz 45 3) ?_
             refine pz_ 3 54 (bz 45 4) ?_
             refine pu_ 4 55 (bz 45 5) ?_
             refine pu_ 5 56 (bz 45 6) ?_
             refine pu_ 6 57 (bz 45 7) ?_
             refine pz_ 7 58 (bz 45 8) ?_
             refine pz_ 8 59 (bz 45 9) ?_
             refine pu_ 9 60 (bz 45 10) ?_
             refine pu_ 10 61 (bz 45 11) ?_
             refine pu_ 11 62 (bz 45 12) ?_
             refine pu_ 12 63 (bz 45 13) ?_
             refine pu_ 13 64 (bz 45 14) ?_
             refine pz_ 14 65 (bz 45 15) ?_
             refine pz_ 15 66 (bz 45 16) ?_
             refine pu_ 16 67 (bz 45 17) ?_
             refine pu_ 17 68 (bz 45 18) ?_
             refine pu_ 18 69 (bz 45 19) ?_
             refine pu_ 19 70 (bz 45 20) ?_
             refine pu_ 20 71 (bz 45 21) ?_
             refine pz_ 21 72 (bz 45 22) ?_
             refine pz_ 22 73 (bz 45 23) ?_
             refine pu_ 23 74 (bz 45 24) ?_
             refine pu_ 24 75 (bz 45 25) ?_
             refine pu_ 25 76 (bz 45 26) ?_
             refine pu_ 26 77 (bz 45 27) ?_
             refine pu_ 27 78 (bz 45 28) ?_
             refine pz_ 28 79 (bz 45 29) ?_
             refine pz_ 29 80 (bz 45 30) ?_
             refine pu_ 30 81 (bz 45 31) ?_
             refine pu_ 31 82 (bz 45 32) ?_
             refine pu_ 32 83 (bz 45 33) ?_
             refine pu_ 33 84 (bz 45 34) ?_
             refine pu_ 34 85 (bz 45 35) ?_
             refine pu_ 35 86 (bz 45 36) ?_
             refine pu_ 36 87 (bz 45 37) ?_
             refine pu_ 37 88 (bz 45 38) ?_
             refine pu_ 38 89 (bz 45 39) ?_
             refine pu_ 39 90 (bz 45 40) ?_
             refine pu_ 40 91 (bz 45 41) ?_
             refine pu_ 41 92 (bz 45 42) ?_
             refine pu_ 42 93 (bz 45 43) ?_
             refine pu_ 43 94 (bz 45 44) ?_
             refine pz_ 44 95 (bz 45 45) ?_
             refine zey (zcz HT_.out (by kernel_rfl)) ?_
             try go_wp2
             go_ret
             exact ⟨q5_, q0_⟩
           ·rw [if_neg c26] at H
            exact absurd H (by simp)
          ·rw [if_neg c25] at H
           exact absurd H (by simp)
         ·rw [if_neg c24] at H
          have c24b0 := decide_eq_false c24
          clear c24
          have hcz89_0 : wr.cell? ⟨gb224, 0, none⟩ = some (.int .i64 a0_0) := bt_ BK224.out 0
          have hcz89_1 : wr.cell? ⟨gb224, 1, none⟩ = some (.int .i64 a0_1) := bt_ BK224.out 1
          have hcz89_2 : wr.cell? ⟨gb224, 2, none⟩ = some (.slice A0_2 l0_2.length c0_2) := bt_ BK224.out 2
          have hcz89_3 : wr.cell? ⟨gb224, 3, none⟩ = some (.int .i64 a0_3) := bt_ BK224.out 3
          have hcz89_4 : wr.cell? ⟨gb224, 4, none⟩ = some (.int .i64 a0_4) := bt_ BK224.out 4
          have hcz89_5 : wr.cell? ⟨gb224, 5, none⟩ = some (.slice A0_5 l0_5.length c0_5) := bt_ BK224.out 5
          have hfz89_0 := zaf BK224.out 0
          have hfz89_1 := zaf BK224.out 1
          have hfz89_2 := zaf BK224.out 2
          by_cases c85 : a0_3 > a0_1
          ·rw [if_pos c85] at H
           have c85b0 : decide (a0_1 < a0_3) = true := decide_eq_true c85
           clear c85
           have hfz89_3 := zaf BK224.out 3
           by_cases c86 : a0_4 ≥ 1
           ·rw [if_pos c86] at H
            have c86b0 : decide (1 ≤ a0_4) = true := decide_eq_true c86
            clear c86
            have hfz89_4 := zaf BK224.out 4
            by_cases c87 : a0_4 ≤ 16
            ·rw [if_pos c87] at H
             have c87b0 := decide_eq_true c87
             clear c87
             have hfz89_5 := zaf BK224.out 5
             by_cases c88 : (l0_5.length : Int) ≥ 1
             ·rw [if_pos c88] at H
              have c88b0 : decide (1 ≤ (l0_5.length : Int)) = true := decide_eq_true c88
              have c88b1 : decide (1 ≤ l0_5.length) = true := decide_eq_true (by omega)
              clear c88
              obtain rfl := Option.some.inj H
              go_wp2
              go_ret
              exact ⟨q5_, q0_⟩
             ·rw [if_neg c88] at H
              have c88b0 : decide (1 ≤ (l0_5.length : Int)) = false := decide_eq_false c88
              have c88b1 : decide (1 ≤ l0_5.length) = false := decide_eq_false (by omega)
              clear c88
              obtain rfl := Option.some.inj H
              go_wp2
              go_ret
              exact ⟨q5_, q0_⟩
            ·rw [if_neg c87] at H
             have c87b0 := decide_eq_false c87
             clear c87
             obtain rfl := Option.some.inj H
             have hfz91_5 := zaf BK224.out 5
             go_wp2
             go_ret
             exact ⟨q5_, q0_⟩
           ·rw [if_neg c86] at H
            have c86b0 : decide (1 ≤ a0_4) = false := decide_eq_false c86
            clear c86
            obtain rfl := Option.some.inj H
            have hfz92_4 := zaf BK224.out 4
            have hfz92_5 := zaf BK224.out 5
            go_wp2
            go_ret
            exact ⟨q5_, q0_⟩
          ·rw [if_neg c85] at H
           have c85b0 : decide (a0_1 < a0_3) = false := decide_eq_false c85
           clear c85
           obtain rfl := Option.some.inj H
           have hfz93_3 := zaf BK224.out 3
           have hfz93_4 := zaf BK224.out 4
           have hfz93_5 := zaf BK224.out 5
           go_wp2
           go_ret
           exact ⟨q5_, q0_⟩

end Go.Proofs.YtchpbnabbjdfgaaDoor.P
