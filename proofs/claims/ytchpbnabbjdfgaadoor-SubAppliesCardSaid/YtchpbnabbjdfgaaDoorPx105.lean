-- HALVED
import Derived.Test.YtchpbnabbjdfgaaDoorPx0
namespace Go.Proofs.YtchpbnabbjdfgaaDoor.P
open Go.RowKit Go.Proofs.YtchpbnabbjdfgaaDoorW.PrintWords Go.Proofs.YtchpbnabbjdfgaaDoorW.PrintLast Go.Proofs.YtchpbnabbjdfgaaDoorW.PrintMore
attribute [local go_sem] zdo zfb zes zet zdb zdc zdp zdq   -- for this text's walks alone
set_option linter.unusedVariables false
set_option linter.unusedSimpArgs false
set_option maxHeartbeats 8000000
set_option maxRecDepth 100000

abbrev b105_4 := sb_ (bz 9 3) 4
abbrev b105_5 := sb_ b105_4 5
abbrev b105_6 := sb_ b105_5 6
mutual
def zan.l0 : Nat → Int → Int → Int → ByteArray → Int → Int → ByteArray → Option (Bool)
 | 0, _, _, _, _, _, _, _ => none
 | k + 1, x5, x289000, x289001, x289002, x290000, x290001, x290002 => if x5 < (x289002.size : Int) then (zan.j1 k x5 (decide (x5 < (x290002.size : Int))) x289000 x289001 x289002 x290000 x290001 x290002) else (zan.j1 k x5 false x289000 x289001 x289002 x290000 x290001 x290002)
def zan.j1 : Nat → Int → Bool → Int → Int → ByteArray → Int → Int → ByteArray → Option (Bool)
 | 0, _, _, _, _, _, _, _, _ => none
 | k + 1, x5, x37, x289000, x289001, x289002, x290000, x290001, x290002 => if x37 = true then (if 0 ≤ x5 then (if x5 < (x289002.size : Int) then (if x5 < (x290002.size : Int) then (if (bt x289002 x5) = (bt x290002 x5) then (zan.l0 k (wrap64 (x5 + 1)) x289000 x289001 x289002 x290000 x290001 x290002) else (some (decide ((bt x289002 x5) < (bt x290002 x5))))) else (none)) else (none)) else (none)) else (some (decide ((x289002.size : Int) < (x290002.size : Int))))
end
def zan.f (k : Nat) (a0_0 : Int) (a0_1 : Int) (a0_2 : ByteArray) (a1_0 : Int) (a1_1 : Int) (a1_2 : ByteArray) : Option (Bool) := if a0_0 = a1_0 then (if a0_1 = a1_1 then (zan.l0 k 0 a0_0 a0_1 a0_2 a1_0 a1_1 a1_2) else (some (decide (a0_1 < a1_1)))) else (some (decide (a0_0 < a1_0)))
theorem zan.zbt : ∀ k, (∀ y0 y1 y2 y3 y4 y5 y6, LeO (zan.l0 k y0 y1 y2 y3 y4 y5 y6) (zan.l0 (k + 1) y0 y1 y2 y3 y4 y5 y6)) ∧ (∀ y0 y1 y2 y3 y4 y5 y6 y7, LeO (zan.j1 k y0 y1 y2 y3 y4 y5 y6 y7) (zan.j1 (k + 1) y0 y1 y2 y3 y4 y5 y6 y7))
 | 0 => ⟨fun _ _ _ _ _ _ _ r h => by simp [zan.l0] at h, fun _ _ _ _ _ _ _ _ r h => by simp [zan.j1] at h⟩
 | k + 1 => by
  obtain ⟨ih0, ih1⟩ := zan.zbt k
  refine ⟨?_, ?_⟩
  all_goals intros
  all_goals first
   | unfold zan.l0
   | unfold zan.j1
  all_goals with_reducible repeat' first
   | apply ih0
   | apply ih1
   | apply LeO.refl
   | apply LeO.none
   | refine LeO.ite ?_ ?_
   | refine LeO.bind ?_ (fun _ => ?_)
theorem zan.mono : ∀ a0 a1 a2 a3 a4 a5 k, LeO (zan.f k a0 a1 a2 a3 a4 a5) (zan.f (k + 1) a0 a1 a2 a3 a4 a5) := by
 intro a0 a1 a2 a3 a4 a5 k
 obtain ⟨ih0, ih1⟩ := zan.zbt k
 unfold zan.f
 with_reducible repeat' first
   | apply ih0
   | apply ih1
   | apply LeO.refl
   | apply LeO.none
   | refine LeO.ite ?_ ?_
   | refine LeO.bind ?_ (fun _ => ?_)
theorem zan.calls (k : Nat) (a0_0 : Int) (a0_1 : Int) (a0_2 : ByteArray) (a1_0 : Int) (a1_1 : Int) (a1_2 : ByteArray) (r : Bool) (w : World) (h : zan.f k a0_0 a0_1 a0_2 a1_0 a1_1 a1_2 = some r) :
  Calls Tryd.prog 85 #[.agg #[.int .i64 a0_0, .int .i64 a0_1, .string a0_2], .agg #[.int .i64 a1_0, .int .i64 a1_1, .string a1_2]] w fun e w' => e = .returned (.bool r) ∧ Below w.heap.size w w' := by
 have hu105 := Tryd.underlying105; have HB := ak_ (Below.refl w.heap.size w); have H : (if a0_0 = a1_0 then (if a0_1 = a1_1 then (zan.l0 k 0 a0_0 a0_1 a0_2 a1_0 a1_1 a1_2) else (some (decide (a0_1 < a1_1)))) else (some (decide (a0_0 < a1_0)))) = some r := h; clear h
 by_cases c3 : a0_0 = a1_0
 ·rw [if_pos c3] at H; have c3b0 := bq_ c3; have c3b1 := bq0_ c3; clear c3
  by_cases c4 : a0_1 = a1_1
  ·rw [if_pos c4] at H; have c4b0 := bq_ c4; have c4b1 := bq0_ c4; clear c4; have H' := ak_ H; clear H; go_enter Tryd.func85, Tryd.ntmps85; go_wp2_with (first | ((with_reducible refine gd_ 2 rfl ?_); (try (refine zbw (by rfl) ?_; dsimp only)); refine by_ #[.int .i64 a0_0, .int .i64 a0_1, .string a0_2] 105 ?_; intro gb288 hg w5 BK288 hb; have GE288 := gw_ hg; replace HB := bs_ hb; clear hb hg) | ((with_reducible refine gd_ 3 rfl ?_); (try (refine zbw (by rfl) ?_; dsimp only)); refine by_ #[.int .i64 a1_0, .int .i64 a1_1, .string a1_2] 105 ?_; intro gb289 hg w6 BK289 hb; have GE289 := gw_ hg; have NB288_289 := nl_ hg q8_; have NB289_288 := ne_ NB288_289; replace BK288 := bb_ q8_ hb; replace HB := bs_ hb; clear hb hg; have hn7 := np_ NB288_289; have hz8 := bc3_ (w := w6) BK288.out; have hz9 := bc3_ (w := w6) BK289.out))
   repeat (go_quiet (first | ((with_reducible refine gd_ 2 rfl ?_); (try (refine zbw (by rfl) ?_; dsimp only)); refine zdw ?hg (N := 2) ?hd (cs := #[.int .i64 a0_0, .int .i64 a0_1, .string a0_2]) (t := 105) ?hr ?_; (case hd => rfl); (case hg => rfl); (case hr => first | (go_simp; done) | (go_simp; rfl)); intro gb288 hg w5 hbox hb; have n0_ := ak_ (zde q0_ hb); have n1_ := ak_ (hbox); have n2_ := ak_ ((q1_ : w.heap.size ≤ gb288)); have n3_ := ak_ ((q1_ : w.heap.size ≤ gb288)); clear HB; have HB := n0_; have BK288 := n1_; have GW288 := n2_; have GE288 := n3_; clear n0_ n1_ n2_ n3_; clear hb hbox hg) | ((with_reducible refine gd_ 3 rfl ?_); (try (refine zbw (by rfl) ?_; dsimp only)); refine zdw ?hg (N := 3) ?hd (cs := #[.int .i64 a1_0, .int .i64 a1_1, .string a1_2]) (t := 105) ?hr ?_; (case hd => rfl); (case hg => rfl); (case hr => first | (go_simp; done) | (go_simp; rfl)); intro gb289 hg w6 hbox hb; have n0_ := ak_ (zdv (g := gb288) (o := .cells #[.int .i64 a0_0, .int .i64 a0_1, .string a0_2] 105 (0, 0)) q8_ hb); have n1_ := ak_ (zde q0_ hb); have n2_ := ak_ (hbox); have n3_ := ak_ ((q1_ : w.heap.size ≤ gb289)); have n4_ := ak_ ((q1_ : w.heap.size ≤ gb289)); have n5_ := ak_ ((q11_ : gb288 ≠ gb289)); have n6_ := ak_ ((q12_ : gb289 ≠ gb288)); clear BK288; clear HB; have BK288 := n0_; have HB := n1_; have BK289 := n2_; have GW289 := n3_; have GE289 := n4_; have NB288_289 := n5_; have NB289_288 := n6_; clear n0_ n1_ n2_ n3_ n4_ n5_ n6_; clear hb hbox hg; have hnb7 := NB288_289.out; have hnc7 := NB289_288.out; have hcz8_0 : w6.cell? ⟨gb288, 0, none⟩ = some (.int .i64 a0_0) := bt_ BK288.out 0; have hcz8_1 : w6.cell? ⟨gb288, 1, none⟩ = some (.int .i64 a0_1) := bt_ BK288.out 1; have hcz8_2 : w6.cell? ⟨gb288, 2, none⟩ = some (.string a0_2) := bt_ BK288.out 2; have hfz8_0 := zao BK288.out 0; have hfz8_1 := zao BK288.out 1; have hfz8_2 := zao BK288.out 2; have hcz9_0 : w6.cell? ⟨gb289, 0, none⟩ = some (.int .i64 a1_0) := bt_ BK289.out 0; have hcz9_1 : w6.cell? ⟨gb289, 1, none⟩ = some (.int .i64 a1_1) := bt_ BK289.out 1; have hcz9_2 : w6.cell? ⟨gb289, 2, none⟩ = some (.string a1_2) := bt_ BK289.out 2; have hfz9_0 := zao BK289.out 0; have hfz9_1 := zao BK289.out 1; have hfz9_2 := zao BK289.out 2)); try go_wp2_with (first | ((with_reducible refine gd_ 2 rfl ?_); (try (refine zbw (by rfl) ?_; dsimp only)); refine zdw ?hg (N := 2) ?hd (cs := #[.int .i64 a0_0, .int .i64 a0_1, .string a0_2]) (t := 105) ?hr ?_; (case hd => rfl); (case hg => rfl); (case hr => first | (go_simp; done) | (go_simp; rfl)); intro gb288 hg w5 hbox hb; have n0_ := ak_ (zde q0_ hb); have n1_ := ak_ (hbox); have n2_ := ak_ ((q1_ : w.heap.size ≤ gb288)); have n3_ := ak_ ((q1_ : w.heap.size ≤ gb288)); clear HB; have HB := n0_; have BK288 := n1_; have GW288 := n2_; have GE288 := n3_; clear n0_ n1_ n2_ n3_; clear hb hbox hg) | ((with_reducible refine gd_ 3 rfl ?_); (try (refine zbw (by rfl) ?_; dsimp only)); refine zdw ?hg (N := 3) ?hd (cs := #[.int .i64 a1_0, .int .i64 a1_1, .string a1_2]) (t := 105) ?hr ?_; (case hd => rfl); (case hg => rfl); (case hr => first | (go_simp; done) | (go_simp; rfl)); intro gb289 hg w6 hbox hb; have n0_ := ak_ (zdv (g := gb288) (o := .cells #[.int .i64 a0_0, .int .i64 a0_1, .string a0_2] 105 (0, 0)) q8_ hb); have n1_ := ak_ (zde q0_ hb); have n2_ := ak_ (hbox); have n3_ := ak_ ((q1_ : w.heap.size ≤ gb289)); have n4_ := ak_ ((q1_ : w.heap.size ≤ gb289)); have n5_ := ak_ ((q11_ : gb288 ≠ gb289)); have n6_ := ak_ ((q12_ : gb289 ≠ gb288)); clear BK288; clear HB; have BK288 := n0_; have HB := n1_; have BK289 := n2_; have GW289 := n3_; have GE289 := n4_; have NB288_289 := n5_; have NB289_288 := n6_; clear n0_ n1_ n2_ n3_ n4_ n5_ n6_; clear hb hbox hg; have hnb7 := NB288_289.out; have hnc7 := NB289_288.out; have hcz8_0 : w6.cell? ⟨gb288, 0, none⟩ = some (.int .i64 a0_0) := bt_ BK288.out 0; have hcz8_1 : w6.cell? ⟨gb288, 1, none⟩ = some (.int .i64 a0_1) := bt_ BK288.out 1; have hcz8_2 : w6.cell? ⟨gb288, 2, none⟩ = some (.string a0_2) := bt_ BK288.out 2; have hfz8_0 := zao BK288.out 0; have hfz8_1 := zao BK288.out 1; have hfz8_2 := zao BK288.out 2; have hcz9_0 : w6.cell? ⟨gb289, 0, none⟩ = some (.int .i64 a1_0) := bt_ BK289.out 0; have hcz9_1 : w6.cell? ⟨gb289, 1, none⟩ = some (.int .i64 a1_1) := bt_ BK289.out 1; have hcz9_2 : w6.cell? ⟨gb289, 2, none⟩ = some (.string a1_2) := bt_ BK289.out 2; have hfz9_0 := zao BK289.out 0; have hfz9_1 := zao BK289.out 1; have hfz9_2 := zao BK289.out 2)))
   go_loopg [5] k (fun kq v5 w' => ∃ (x5_1 : Int), v5 = .int .i64 x5_1 ∧ zad (zan.l0 kq x5_1 a0_0 a0_1 a0_2 a1_0 a1_1 a1_2 = some r) ∧ zad (kq ≤ k) ∧ zad (w'.heap[gb288]? = some (.cells #[.int .i64 a0_0, .int .i64 a0_1, .string a0_2] 105 (0, 0))) ∧ zad (w'.heap[gb289]? = some (.cells #[.int .i64 a1_0, .int .i64 a1_1, .string a1_2] 105 (0, 0))) ∧ zad (Below w.heap.size w w'))
   case atStart => exact ⟨(0), q5_, H', ⟨Nat.le_refl _⟩, ⟨q8_⟩, ⟨q39_⟩, ⟨q0_⟩⟩
   case round =>
    clear H'; (try clear c3b0 c3b1 c4b0 c4b1 hz8 hz9); obtain ⟨x5_1, rfl, HA, HK1, BK288, BK289, HB⟩ := hrel
    cases gk with
    | zero => exact absurd HA.out (by simp [zan.l0])
    | succ k1 =>
     have H := HA.out; clear HA; simp only [zan.l0] at H; have HC10 := ak_ H; clear H; go_upto_region 6 with (fail)
     repeat (go_quiet (fail); go_upto_region 6 with (fail))
     go_cut [37] (fun v37 wc => ∃ (kq : Nat) (x37_9 : Bool), v37 = .bool x37_9 ∧ zad (zan.j1 kq x5_1 x37_9 a0_0 a0_1 a0_2 a1_0 a1_1 a1_2 = some r) ∧ zad (kq ≤ k1) ∧ zad (wc.heap[gb288]? = some (.cells #[.int .i64 a0_0, .int .i64 a0_1, .string a0_2] 105 (0, 0))) ∧ zad (wc.heap[gb289]? = some (.cells #[.int .i64 a1_0, .int .i64 a1_1, .string a1_2] 105 (0, 0))) ∧ zad (Below w.heap.size w wc))
     case first =>
      have H := HC10.out; clear HC10; have hn12 := np_ NB288_289; have hz13 := bc3_ (w := wr) BK288.out
      by_cases c11 : x5_1 < (a0_2.size : Int)
      ·rw [if_pos c11] at H; have c11b0 := decide_eq_true c11; clear c11; (first | rw [c11b0] | (simp only [zfu, zgu]; rw [c11b0]) | skip); have H' := ak_ H; clear H; have hz14 := bc3_ (w := wr) BK289.out; go_wp2
       repeat (go_quiet (fail); try go_wp2)
       go_meet
       case rel => exact ⟨_, (decide (x5_1 < (a1_2.size : Int))), q5_, H', ⟨q27_⟩, ⟨q8_⟩, ⟨q39_⟩, ⟨q0_⟩⟩
      ·rw [if_neg c11] at H; have c11b0 := decide_eq_false c11; clear c11; (first | rw [c11b0] | (simp only [zfu, zgu]; rw [c11b0]) | skip); have H' := ak_ H; clear H; go_wp2
       repeat (go_quiet (fail); try go_wp2)
       go_meet
       case rel => exact ⟨_, (false), q5_, H', ⟨q27_⟩, ⟨q8_⟩, ⟨q39_⟩, ⟨q0_⟩⟩
     case rest =>
      clear HC10; obtain ⟨kq, x37_9, rfl, HA, HJ9, BK288, BK289, HB⟩ := hcut
      cases kq with
      | zero => exact absurd HA.out (by simp [zan.j1])
      | succ kj9 =>
       have H := HA.out; clear HA; simp only [zan.j1] at H; have hn24 := np_ NB288_289; have hz25 := bc3_ (w := wc) BK288.out
       by_cases c17 : x37_9 = true
       ·subst c17; replace H := ifT_ H
        by_cases c18 : 0 ≤ x5_1
        ·rw [if_pos c18] at H; have c18b0 := decide_eq_true c18; clear c18
         by_cases c19 : x5_1 < (a0_2.size : Int)
         ·rw [if_pos c19] at H; have c19b0 := decide_eq_true c19; clear c19
          by_cases c21 : x5_1 < (a1_2.size : Int)
          ·rw [if_pos c21] at H; have c21b0 := decide_eq_true c21; clear c21; have p20 : 0 ≤ (x5_1 : Int) := of_decide_eq_true q3_; have q20 : x5_1 < (a0_2.size : Int) := of_decide_eq_true q3_; have hx20 := zii a0_2 x5_1; replace p20 := eq_true p20; replace q20 := eq_true q20; have hz26 := bc3_ (w := wc) BK289.out; have p22 : 0 ≤ (x5_1 : Int) := of_decide_eq_true q3_; have q22 : x5_1 < (a1_2.size : Int) := of_decide_eq_true q3_; have hx22 := zii a1_2 x5_1; replace p22 := eq_true p22; replace q22 := eq_true q22
           by_cases c23 : (bt a0_2 x5_1) = (bt a1_2 x5_1)
           ·rw [if_pos c23] at H; have c23b0 := bq_ c23; have c23b1 := bq0_ c23; clear c23; have H' := ak_ H; clear H; go_wp2
            repeat (go_quiet (fail); try go_wp2)
            go_roundg kj9
            case measure => have := HK1.out; have := HJ9.out; omega
            case rel => exact ⟨(wrap64 (x5_1 + 1)), q5_, H', ⟨by have := HK1.out; have := HJ9.out; omega⟩, ⟨q8_⟩, ⟨q39_⟩, ⟨q0_⟩⟩
           ·rw [if_neg c23] at H; have c23b0 := bn_ c23; have c23b1 := bn1_ c23; obtain rfl := Option.some.inj H; have p27 : 0 ≤ (x5_1 : Int) := of_decide_eq_true q3_; have q27 : x5_1 < (a0_2.size : Int) := of_decide_eq_true q3_; have hx27 := zii a0_2 x5_1; replace p27 := eq_true p27; replace q27 := eq_true q27; have p28 : 0 ≤ (x5_1 : Int) := of_decide_eq_true q3_; have q28 : x5_1 < (a1_2.size : Int) := of_decide_eq_true q3_; have hx28 := zii a1_2 x5_1; replace p28 := eq_true p28; replace q28 := eq_true q28; go_wp2
            repeat (go_quiet (fail); try go_wp2)
            go_ret; exact ⟨q4_, q0_⟩
          ·rw [if_neg c21] at H; exact absurd H (by simp)
         ·rw [if_neg c19] at H; exact absurd H (by simp)
        ·rw [if_neg c18] at H; exact absurd H (by simp)
       ·replace c17 := Bool.eq_false_iff.mpr c17; subst c17; replace H := ifF_ H; obtain rfl := Option.some.inj H; have hz34 := bc3_ (w := wc) BK289.out; go_wp2
        repeat (go_quiet (fail); try go_wp2)
        go_ret; exact ⟨q4_, q0_⟩
  ·rw [if_neg c4] at H; have c4b0 := bn_ c4; have c4b1 := bn1_ c4; obtain rfl := Option.some.inj H; go_enter Tryd.func85, Tryd.ntmps85; go_wp2_with (first | ((with_reducible refine gd_ 2 rfl ?_); (try (refine zbw (by rfl) ?_; dsimp only)); refine by_ #[.int .i64 a0_0, .int .i64 a0_1, .string a0_2] 105 ?_; intro gb288 hg w35 BK288 hb; have GE288 := gw_ hg; replace HB := bs_ hb; clear hb hg) | ((with_reducible refine gd_ 3 rfl ?_); (try (refine zbw (by rfl) ?_; dsimp only)); refine by_ #[.int .i64 a1_0, .int .i64 a1_1, .string a1_2] 105 ?_; intro gb289 hg w36 BK289 hb; have GE289 := gw_ hg; have NB288_289 := nl_ hg q8_; have NB289_288 := ne_ NB288_289; replace BK288 := bb_ q8_ hb; replace HB := bs_ hb; clear hb hg; have hn37 := np_ NB288_289; have hz38 := bc3_ (w := w36) BK288.out; have hz39 := bc3_ (w := w36) BK289.out))
   repeat (go_quiet (first | ((with_reducible refine gd_ 2 rfl ?_); (try (refine zbw (by rfl) ?_; dsimp only)); refine zdw ?hg (N := 2) ?hd (cs := #[.int .i64 a0_0, .int .i64 a0_1, .string a0_2]) (t := 105) ?hr ?_; (case hd => rfl); (case hg => rfl); (case hr => first | (go_simp; done) | (go_simp; rfl)); intro gb288 hg w35 hbox hb; have n0_ := ak_ (zde q0_ hb); have n1_ := ak_ (hbox); have n2_ := ak_ ((q1_ : w.heap.size ≤ gb288)); have n3_ := ak_ ((q1_ : w.heap.size ≤ gb288)); clear HB; have HB := n0_; have BK288 := n1_; have GW288 := n2_; have GE288 := n3_; clear n0_ n1_ n2_ n3_; clear hb hbox hg) | ((with_reducible refine gd_ 3 rfl ?_); (try (refine zbw (by rfl) ?_; dsimp only)); refine zdw ?hg (N := 3) ?hd (cs := #[.int .i64 a1_0, .int .i64 a1_1, .string a1_2]) (t := 105) ?hr ?_; (case hd => rfl); (case hg => rfl); (case hr => first | (go_simp; done) | (go_simp; rfl)); intro gb289 hg w36 hbox hb; have n0_ := ak_ (zdv (g := gb288) (o := .cells #[.int .i64 a0_0, .int .i64 a0_1, .string a0_2] 105 (0, 0)) q8_ hb); have n1_ := ak_ (zde q0_ hb); have n2_ := ak_ (hbox); have n3_ := ak_ ((q1_ : w.heap.size ≤ gb289)); have n4_ := ak_ ((q1_ : w.heap.size ≤ gb289)); have n5_ := ak_ ((q11_ : gb288 ≠ gb289)); have n6_ := ak_ ((q12_ : gb289 ≠ gb288)); clear BK288; clear HB; have BK288 := n0_; have HB := n1_; have BK289 := n2_; have GW289 := n3_; have GE289 := n4_; have NB288_289 := n5_; have NB289_288 := n6_; clear n0_ n1_ n2_ n3_ n4_ n5_ n6_; clear hb hbox hg; have hnb37 := NB288_289.out; have hnc37 := NB289_288.out; have hcz38_0 : w36.cell? ⟨gb288, 0, none⟩ = some (.int .i64 a0_0) := bt_ BK288.out 0; have hcz38_1 : w36.cell? ⟨gb288, 1, none⟩ = some (.int .i64 a0_1) := bt_ BK288.out 1; have hcz38_2 : w36.cell? ⟨gb288, 2, none⟩ = some (.string a0_2) := bt_ BK288.out 2; have hfz38_0 := zao BK288.out 0; have hfz38_1 := zao BK288.out 1; have hfz38_2 := zao BK288.out 2; have hcz39_0 : w36.cell? ⟨gb289, 0, none⟩ = some (.int .i64 a1_0) := bt_ BK289.out 0; have hcz39_1 : w36.cell? ⟨gb289, 1, none⟩ = some (.int .i64 a1_1) := bt_ BK289.out 1; have hcz39_2 : w36.cell? ⟨gb289, 2, none⟩ = some (.string a1_2) := bt_ BK289.out 2; have hfz39_0 := zao BK289.out 0; have hfz39_1 := zao BK289.out 1; have hfz39_2 := zao BK289.out 2)); try go_wp2_with (first | ((with_reducible refine gd_ 2 rfl ?_); (try (refine zbw (by rfl) ?_; dsimp only)); refine zdw ?hg (N := 2) ?hd (cs := #[.int .i64 a0_0, .int .i64 a0_1, .string a0_2]) (t := 105) ?hr ?_; (case hd => rfl); (case hg => rfl); (case hr => first | (go_simp; done) | (go_simp; rfl)); intro gb288 hg w35 hbox hb; have n0_ := ak_ (zde q0_ hb); have n1_ := ak_ (hbox); have n2_ := ak_ ((q1_ : w.heap.size ≤ gb288)); have n3_ := ak_ ((q1_ : w.heap.size ≤ gb288)); clear HB; have HB := n0_; have BK288 := n1_; have GW288 := n2_; have GE288 := n3_; clear n0_ n1_ n2_ n3_; clear hb hbox hg) | ((with_reducible refine gd_ 3 rfl ?_); (try (refine zbw (by rfl) ?_; dsimp only)); refine zdw ?hg (N := 3) ?hd (cs := #[.int .i64 a1_0, .int .i64 a1_1, .string a1_2]) (t := 105) ?hr ?_; (case hd => rfl); (case hg => rfl); (case hr => first | (go_simp; done) | (go_simp; rfl)); intro gb289 hg w36 hbox hb; have n0_ := ak_ (zdv (g := gb288) (o := .cells #[.int .i64 a0_0, .int .i64 a0_1, .string a0_2] 105 (0, 0)) q8_ hb); have n1_ := ak_ (zde q0_ hb); have n2_ := ak_ (hbox); have n3_ := ak_ ((q1_ : w.heap.size ≤ gb289)); have n4_ := ak_ ((q1_ : w.heap.size ≤ gb289)); have n5_ := ak_ ((q11_ : gb288 ≠ gb289)); have n6_ := ak_ ((q12_ : gb289 ≠ gb288)); clear BK288; clear HB; have BK288 := n0_; have HB := n1_; have BK289 := n2_; have GW289 := n3_; have GE289 := n4_; have NB288_289 := n5_; have NB289_288 := n6_; clear n0_ n1_ n2_ n3_ n4_ n5_ n6_; clear hb hbox hg; have hnb37 := NB288_289.out; have hnc37 := NB289_288.out; have hcz38_0 : w36.cell? ⟨gb288, 0, none⟩ = some (.int .i64 a0_0) := bt_ BK288.out 0; have hcz38_1 : w36.cell? ⟨gb288, 1, none⟩ = some (.int .i64 a0_1) := bt_ BK288.out 1; have hcz38_2 : w36.cell? ⟨gb288, 2, none⟩ = some (.string a0_2) := bt_ BK288.out 2; have hfz38_0 := zao BK288.out 0; have hfz38_1 := zao BK288.out 1; have hfz38_2 := zao BK288.out 2; have hcz39_0 : w36.cell? ⟨gb289, 0, none⟩ = some (.int .i64 a1_0) := bt_ BK289.out 0; have hcz39_1 : w36.cell? ⟨gb289, 1, none⟩ = some (.int .i64 a1_1) := bt_ BK289.out 1; have hcz39_2 : w36.cell? ⟨gb289, 2, none⟩ = some (.string a1_2) := bt_ BK289.out 2; have hfz39_0 := zao BK289.out 0; have hfz39_1 := zao BK289.out 1; have hfz39_2 := zao BK289.out 2)))
   go_ret; exact ⟨q4_, q0_⟩
 ·rw [if_neg c3] at H; have c3b0 := bn_ c3; have c3b1 := bn1_ c3; obtain rfl := Option.some.inj H; go_enter Tryd.func85, Tryd.ntmps85; go_wp2_with (first | ((with_reducible refine gd_ 2 rfl ?_); (try (refine zbw (by rfl) ?_; dsimp only)); refine by_ #[.int .i64 a0_0, .int .i64 a0_1, .string a0_2] 105 ?_; intro gb288 hg w40 BK288 hb; have GE288 := gw_ hg; replace HB := bs_ hb; clear hb hg) | ((with_reducible refine gd_ 3 rfl ?_); (try (refine zbw (by rfl) ?_; dsimp only)); refine by_ #[.int .i64 a1_0, .int .i64 a1_1, .string a1_2] 105 ?_; intro gb289 hg w41 BK289 hb; have GE289 := gw_ hg; have NB288_289 := nl_ hg q8_; have NB289_288 := ne_ NB288_289; replace BK288 := bb_ q8_ hb; replace HB := bs_ hb; clear hb hg; have hn42 := np_ NB288_289; have hz43 := bc3_ (w := w41) BK288.out; have hz44 := bc3_ (w := w41) BK289.out))
  repeat (go_quiet (first | ((with_reducible refine gd_ 2 rfl ?_); (try (refine zbw (by rfl) ?_; dsimp only)); refine zdw ?hg (N := 2) ?hd (cs := #[.int .i64 a0_0, .int .i64 a0_1, .string a0_2]) (t := 105) ?hr ?_; (case hd => rfl); (case hg => rfl); (case hr => first | (go_simp; done) | (go_simp; rfl)); intro gb288 hg w40 hbox hb; have n0_ := ak_ (zde q0_ hb); have n1_ := ak_ (hbox); have n2_ := ak_ ((q1_ : w.heap.size ≤ gb288)); have n3_ := ak_ ((q1_ : w.heap.size ≤ gb288)); clear HB; have HB := n0_; have BK288 := n1_; have GW288 := n2_; have GE288 := n3_; clear n0_ n1_ n2_ n3_; clear hb hbox hg) | ((with_reducible refine gd_ 3 rfl ?_); (try (refine zbw (by rfl) ?_; dsimp only)); refine zdw ?hg (N := 3) ?hd (cs := #[.int .i64 a1_0, .int .i64 a1_1, .string a1_2]) (t := 105) ?hr ?_; (case hd => rfl); (case hg => rfl); (case hr => first | (go_simp; done) | (go_simp; rfl)); intro gb289 hg w41 hbox hb; have n0_ := ak_ (zdv (g := gb288) (o := .cells #[.int .i64 a0_0, .int .i64 a0_1, .string a0_2] 105 (0, 0)) q8_ hb); have n1_ := ak_ (zde q0_ hb); have n2_ := ak_ (hbox); have n3_ := ak_ ((q1_ : w.heap.size ≤ gb289)); have n4_ := ak_ ((q1_ : w.heap.size ≤ gb289)); have n5_ := ak_ ((q11_ : gb288 ≠ gb289)); have n6_ := ak_ ((q12_ : gb289 ≠ gb288)); clear BK288; clear HB; have BK288 := n0_; have HB := n1_; have BK289 := n2_; have GW289 := n3_; have GE289 := n4_; have NB288_289 := n5_; have NB289_288 := n6_; clear n0_ n1_ n2_ n3_ n4_ n5_ n6_; clear hb hbox hg; have hnb42 := NB288_289.out; have hnc42 := NB289_288.out; have hcz43_0 : w41.cell? ⟨gb288, 0, none⟩ = some (.int .i64 a0_0) := bt_ BK288.out 0; have hcz43_1 : w41.cell? ⟨gb288, 1, none⟩ = some (.int .i64 a0_1) := bt_ BK288.out 1; have hcz43_2 : w41.cell? ⟨gb288, 2, none⟩ = some (.string a0_2) := bt_ BK288.out 2; have hfz43_0 := zao BK288.out 0; have hfz43_1 := zao BK288.out 1; have hfz43_2 := zao BK288.out 2; have hcz44_0 : w41.cell? ⟨gb289, 0, none⟩ = some (.int .i64 a1_0) := bt_ BK289.out 0; have hcz44_1 : w41.cell? ⟨gb289, 1, none⟩ = some (.int .i64 a1_1) := bt_ BK289.out 1; have hcz44_2 : w41.cell? ⟨gb289, 2, none⟩ = some (.string a1_2) := bt_ BK289.out 2; have hfz44_0 := zao BK289.out 0; have hfz44_1 := zao BK289.out 1; have hfz44_2 := zao BK289.out 2)); try go_wp2_with (first | ((with_reducible refine gd_ 2 rfl ?_); (try (refine zbw (by rfl) ?_; dsimp only)); refine zdw ?hg (N := 2) ?hd (cs := #[.int .i64 a0_0, .int .i64 a0_1, .string a0_2]) (t := 105) ?hr ?_; (case hd => rfl); (case hg => rfl); (case hr => first | (go_simp; done) | (go_simp; rfl)); intro gb288 hg w40 hbox hb; have n0_ := ak_ (zde q0_ hb); have n1_ := ak_ (hbox); have n2_ := ak_ ((q1_ : w.heap.size ≤ gb288)); have n3_ := ak_ ((q1_ : w.heap.size ≤ gb288)); clear HB; have HB := n0_; have BK288 := n1_; have GW288 := n2_; have GE288 := n3_; clear n0_ n1_ n2_ n3_; clear hb hbox hg) | ((with_reducible refine gd_ 3 rfl ?_); (try (refine zbw (by rfl) ?_; dsimp only)); refine zdw ?hg (N := 3) ?hd (cs := #[.int .i64 a1_0, .int .i64 a1_1, .string a1_2]) (t := 105) ?hr ?_; (case hd => rfl); (case hg => rfl); (case hr => first | (go_simp; done) | (go_simp; rfl)); intro gb289 hg w41 hbox hb; have n0_ := ak_ (zdv (g := gb288) (o := .cells #[.int .i64 a0_0, .int .i64 a0_1, .string a0_2] 105 (0, 0)) q8_ hb); have n1_ := ak_ (zde q0_ hb); have n2_ := ak_ (hbox); have n3_ := ak_ ((q1_ : w.heap.size ≤ gb289)); have n4_ := ak_ ((q1_ : w.heap.size ≤ gb289)); have n5_ := ak_ ((q11_ : gb288 ≠ gb289)); have n6_ := ak_ ((q12_ : gb289 ≠ gb288)); clear BK288; clear HB; have BK288 := n0_; have HB := n1_; have BK289 := n2_; have GW289 := n3_; have GE289 := n4_; have NB288_289 := n5_; have NB289_288 := n6_; clear n0_ n1_ n2_ n3_ n4_ n5_ n6_; clear hb hbox hg; have hnb42 := NB288_289.out; have hnc42 := NB289_288.out; have hcz43_0 : w41.cell? ⟨gb288, 0, none⟩ = some (.int .i64 a0_0) := bt_ BK288.out 0; have hcz43_1 : w41.cell? ⟨gb288, 1, none⟩ = some (.int .i64 a0_1) := bt_ BK288.out 1; have hcz43_2 : w41.cell? ⟨gb288, 2, none⟩ = some (.string a0_2) := bt_ BK288.out 2; have hfz43_0 := zao BK288.out 0; have hfz43_1 := zao BK288.out 1; have hfz43_2 := zao BK288.out 2; have hcz44_0 : w41.cell? ⟨gb289, 0, none⟩ = some (.int .i64 a1_0) := bt_ BK289.out 0; have hcz44_1 : w41.cell? ⟨gb289, 1, none⟩ = some (.int .i64 a1_1) := bt_ BK289.out 1; have hcz44_2 : w41.cell? ⟨gb289, 2, none⟩ = some (.string a1_2) := bt_ BK289.out 2; have hfz44_0 := zao BK289.out 0; have hfz44_1 := zao BK289.out 1; have hfz44_2 := zao BK289.out 2)))
  go_ret; exact ⟨q4_, q0_⟩
mutual
def zaf.l0 : Nat → List (S105) → List (S105) → Int → Option (Int)
 | 0, _, _, _ => none
 | k + 1, x0, x1, x5 => if x5 < (x0.length : Int) then (zaf.j1 k x0 x1 x5 (decide (x5 < (x1.length : Int)))) else (zaf.j1 k x0 x1 x5 false)
def zaf.j1 : Nat → List (S105) → List (S105) → Int → Bool → Option (Int)
 | 0, _, _, _, _ => none
 | k + 1, x0, x1, x5, x15 => if x15 = true then (if 0 ≤ x5 then (if x5 < (x0.length : Int) then (if x5 < (x1.length : Int) then ((zan.f k ((zbb x0 x5).f0) ((zbb x0 x5).f1) ((zbb x0 x5).f2) ((zbb x1 x5).f0) ((zbb x1 x5).f1) ((zbb x1 x5).f2)).bind fun t292 => (if t292 = true then (some (-1)) else ((zan.f k ((zbb x1 x5).f0) ((zbb x1 x5).f1) ((zbb x1 x5).f2) ((zbb x0 x5).f0) ((zbb x0 x5).f1) ((zbb x0 x5).f2)).bind fun t295 => (if t295 = true then (some 1) else (zaf.l0 k x0 x1 (wrap64 (x5 + 1))))))) else (none)) else (none)) else (none)) else (if (x0.length : Int) < (x1.length : Int) then (some (-1)) else (if (x0.length : Int) > (x1.length : Int) then (some 1) else (some 0)))
end
def zaf.f (k : Nat) (l0 : List (S105)) (l1 : List (S105)) : Option (Int) := zaf.l0 k l0 l1 0
theorem zaf.zbt : ∀ k, (∀ y0 y1 y2, LeO (zaf.l0 k y0 y1 y2) (zaf.l0 (k + 1) y0 y1 y2)) ∧ (∀ y0 y1 y2 y3, LeO (zaf.j1 k y0 y1 y2 y3) (zaf.j1 (k + 1) y0 y1 y2 y3))
 | 0 => ⟨fun _ _ _ r h => by simp [zaf.l0] at h, fun _ _ _ _ r h => by simp [zaf.j1] at h⟩
 | k + 1 => by
  obtain ⟨ih0, ih1⟩ := zaf.zbt k
  refine ⟨?_, ?_⟩
  all_goals intros
  all_goals first
   | unfold zaf.l0
   | unfold zaf.j1
  all_goals with_reducible repeat' first
   | apply ih0
   | apply ih1
   | apply zan.mono
   | apply LeO.refl
   | apply LeO.none
   | refine LeO.ite ?_ ?_
   | refine LeO.bind ?_ (fun _ => ?_)
theorem zaf.mono : ∀ a0 a1 k, LeO (zaf.f k a0 a1) (zaf.f (k + 1) a0 a1) := by
 intro a0 a1 k
 obtain ⟨ih0, ih1⟩ := zaf.zbt k
 unfold zaf.f
 with_reducible repeat' first
   | apply ih0
   | apply ih1
   | apply zan.mono
   | apply LeO.refl
   | apply LeO.none
   | refine LeO.ite ?_ ?_
   | refine LeO.bind ?_ (fun _ => ?_)
def zaf.T4 : Bool × List (List Nat × List Nat) := (true, [([], []), ([], []), ([0, 1], [0, 1]), ([2], [2]), ([], []), ([], []), ([4, 5], [4, 5]), ([6], [6]), ([3, 7], [3, 7])])
def zaf.B4 : List Nat := [0, 0, 3, 7, 0, 0, 48, 112, 255]
theorem zaf.tab4 : rtab .any (opsOf Tryd.f57 4) = zaf.T4 := by kernel_rfl
theorem zaf.zih : zfr zaf.T4.2 zaf.B4 = true := by kernel_rfl
def zaf.T6 : Bool × List (List Nat × List Nat) := (true, [([], []), ([], []), ([0, 1], [0, 1]), ([2], [2]), ([], []), ([], []), ([4, 5], [4, 5]), ([6], [6]), ([3, 7], [3, 7])])
def zaf.B6 : List Nat := [0, 0, 3, 7, 0, 0, 48, 112, 255]
theorem zaf.tab6 : rtab .any (opsOf Tryd.f57 6) = zaf.T6 := by kernel_rfl
theorem zaf.bits6 : zfr zaf.T6.2 zaf.B6 = true := by kernel_rfl
theorem zaf.calls (k : Nat) (A0 : Option Addr) (c0 : Nat) (l0 : List (S105)) (A1 : Option Addr) (c1 : Nat) (l1 : List (S105)) (r : Int) (w : World) (hr0 : Kd.C k105 w A0 l0.length l0) (hc0 : l0.length ≤ c0) (hr1 : Kd.C k105 w A1 l1.length l1) (hc1 : l1.length ≤ c1) (h : zaf.f k l0 l1 = some r) :
  Calls Tryd.prog 57 #[.slice A0 l0.length c0, .slice A1 l1.length c1] w fun e w' => e = .returned (.int .i64 r) ∧ Below w.heap.size w w' := by
 have hu105 := Tryd.underlying105; have HR0 := ak_ hr0; have HC0 := ak_ hc0; clear hr0 hc0; have HR1 := ak_ hr1; have HC1 := ak_ hc1; clear hr1 hc1; have HB := ak_ (Below.refl w.heap.size w); have H : (zaf.l0 k l0 l1 0) = some r := h; clear h; have H' := ak_ H; clear H; go_enter Tryd.func57, Tryd.ntmps57; go_wp2; go_loopg [5] k (fun kq v5 w' => ∃ (x5_1 : Int), v5 = .int .i64 x5_1 ∧ zad (zaf.l0 kq l0 l1 x5_1 = some r) ∧ zad (kq ≤ k) ∧ zad (Below w.heap.size w w'))
 case atStart => exact ⟨(0), q5_, H', ⟨Nat.le_refl _⟩, ⟨q0_⟩⟩
 case round =>
  clear H'; obtain ⟨x5_1, rfl, HA, HK1, HB⟩ := hrel
  cases gk with
  | zero => exact absurd HA.out (by simp [zaf.l0])
  | succ k1 =>
   have H := HA.out; clear HA; simp only [zaf.l0] at H; have HC3 := ak_ H; clear H; go_upto_region 2 with (fail)
   go_cut [15] (fun v15 wc => ∃ (kq : Nat) (x15_2 : Bool), v15 = .bool x15_2 ∧ zad (zaf.j1 kq l0 l1 x5_1 x15_2 = some r) ∧ zad (kq ≤ k1) ∧ zad (Below w.heap.size w wc))
   case first =>
    have H := HC3.out; clear HC3
    by_cases c4 : x5_1 < (l0.length : Int)
    ·rw [if_pos c4] at H; have c4b0 := decide_eq_true c4; clear c4; (first | rw [c4b0] | (simp only [zfu, zgu]; rw [c4b0]) | skip); have H' := ak_ H; clear H; go_wp2; go_meet
     case rel => exact ⟨_, (decide (x5_1 < (l1.length : Int))), q5_, H', ⟨q27_⟩, ⟨q0_⟩⟩
    ·rw [if_neg c4] at H; have c4b0 := decide_eq_false c4; clear c4; (first | rw [c4b0] | (simp only [zfu, zgu]; rw [c4b0]) | skip); have H' := ak_ H; clear H; go_wp2; go_meet
     case rel => exact ⟨_, (false), q5_, H', ⟨q27_⟩, ⟨q0_⟩⟩
   case rest =>
    clear HC3; obtain ⟨kq, x15_2, rfl, HA, HJ2, HB⟩ := hcut
    cases kq with
    | zero => exact absurd HA.out (by simp [zaf.j1])
    | succ kj2 =>
     have H := HA.out; clear HA; simp only [zaf.j1] at H
     by_cases c5 : x15_2 = true
     ·subst c5; replace H := ifT_ H
      by_cases c6 : 0 ≤ x5_1
      ·rw [if_pos c6] at H; have c6b0 := decide_eq_true c6; clear c6
       by_cases c7 : x5_1 < (l0.length : Int)
       ·rw [if_pos c7] at H; have c7b0 := decide_eq_true c7; clear c7
        by_cases c8 : x5_1 < (l1.length : Int)
        ·rw [if_pos c8] at H; have c8b0 := decide_eq_true c8; clear c8; obtain ⟨t292, A9, H⟩ := bi_ H; try dsimp only at H
         try go_wp2
         replace HB := ak_ (zbv HB.out); have p290 : 0 ≤ (x5_1 : Int) := of_decide_eq_true q3_; have q290 : x5_1 < (l0.length : Int) := of_decide_eq_true q3_; obtain ⟨ad290, e290, hx290_0, hx290_1, hx290_2⟩ := zhm HR0.out x5_1 p290 q290; have hw290_2 := hx290_2; have hw290_1 := hx290_1; have hw290_0 := hx290_0; cases e290; replace hx290_0 := hc_ HB.out hx290_0; replace hx290_1 := hc_ HB.out hx290_1; replace hx290_2 := hc_ HB.out hx290_2; replace p290 := eq_true p290; replace q290 := eq_true q290; have p291 : 0 ≤ (x5_1 : Int) := of_decide_eq_true q3_; have q291 : x5_1 < (l1.length : Int) := of_decide_eq_true q3_; obtain ⟨ad291, e291, hx291_0, hx291_1, hx291_2⟩ := zhm HR1.out x5_1 p291 q291; have hw291_2 := hx291_2; have hw291_1 := hx291_1; have hw291_0 := hx291_0; cases e291; replace hx291_0 := hc_ HB.out hx291_0; replace hx291_1 := hc_ HB.out hx291_1; replace hx291_2 := hc_ HB.out hx291_2; replace p291 := eq_true p291; replace q291 := eq_true q291; refine zff (n := 9) (S := fun w' => w'.cell? (ad290.add ((x5_1).toNat * 3)) = some (.int .i64 ((zbb l0 x5_1).f0)) ∧ w'.cell? ⟨(ad290.add ((x5_1).toNat * 3)).block, (ad290.add ((x5_1).toNat * 3)).off + 1, none⟩ = some (.int .i64 ((zbb l0 x5_1).f1)) ∧ w'.cell? ⟨(ad290.add ((x5_1).toNat * 3)).block, (ad290.add ((x5_1).toNat * 3)).off + 2, none⟩ = some (.string ((zbb l0 x5_1).f2)) ∧ w'.cell? (ad291.add ((x5_1).toNat * 3)) = some (.int .i64 ((zbb l1 x5_1).f0)) ∧ w'.cell? ⟨(ad291.add ((x5_1).toNat * 3)).block, (ad291.add ((x5_1).toNat * 3)).off + 1, none⟩ = some (.int .i64 ((zbb l1 x5_1).f1)) ∧ w'.cell? ⟨(ad291.add ((x5_1).toNat * 3)).block, (ad291.add ((x5_1).toNat * 3)).off + 2, none⟩ = some (.string ((zbb l1 x5_1).f2))) (ds := []) (bz 9 0) (by kernel_rfl) rfl rfl ⟨(hc_ HB.out hw290_0), (hc_ HB.out hw290_1), (hc_ HB.out hw290_2), (hc_ HB.out hw291_0), (hc_ HB.out hw291_1), (hc_ HB.out hw291_2)⟩ (fun hHeld => ?_); refine zcl zaf.tab4 zaf.zih (fun HT_ HW_ => ?_); generalize wc.drew = w11 at HB hx290_0 hx290_1 hx290_2 hx291_0 hx291_1 hx291_2 hHeld ⊢; refine pz_ 0 18 (bz 9 1) ?_; refine pz_ 1 19 (bz 9 2) ?_; refine pz_ 2 20 (bz 9 3) ?_; refine pz_ 4 22 b105_4 ?_; refine pz_ 5 23 b105_5 ?_; refine pz_ 6 24 b105_6 ?_; refine tz6_ 3 21 (bz 9 7) hHeld ?_; refine tz6_ 7 25 (bz 9 8) hHeld ?_; refine oz_ 8 (some 26) (bz 9 9) (fun K hK => ?_); refine go1_ Tryd.func85 #[.agg #[.int .i64 ((zbb l0 x5_1).f0), .int .i64 ((zbb l0 x5_1).f1), .string ((zbb l0 x5_1).f2)], .agg #[.int .i64 ((zbb l1 x5_1).f0), .int .i64 ((zbb l1 x5_1).f1), .string ((zbb l1 x5_1).f2)]] ?_
         by_cases c10 : t292 = true
         ·subst c10; replace H := ifT_ H; obtain rfl := Option.some.inj H; (with_reducible refine ca_ (zan.calls kj2 ((zbb l0 x5_1).f0) ((zbb l0 x5_1).f1) ((zbb l0 x5_1).f2) ((zbb l1 x5_1).f0) ((zbb l1 x5_1).f1) ((zbb l1 x5_1).f2) true _ A9.out) ?_); intro w12 hb; replace HB := bs_ hb; clear hb; refine hK.out _ _ ⟨(hc_ HB.out hw290_0), (hc_ HB.out hw290_1), (hc_ HB.out hw290_2), (hc_ HB.out hw291_0), (hc_ HB.out hw291_1), (hc_ HB.out hw291_2)⟩ (fun hHeld => ?_); clear hK K; refine nz_ ?_; refine zfm (zcp HT_.out (by kernel_rfl)) ?_; try go_wp2
          go_ret; exact ⟨q4_, q0_⟩
         ·replace c10 := Bool.eq_false_iff.mpr c10; subst c10; replace H := ifF_ H; obtain ⟨t295, A13, H⟩ := bi_ H; replace H : (if t295 = true then (some 1) else (zaf.l0 kj2 l0 l1 (wrap64 (x5_1 + 1)))) = some r := H; (with_reducible refine ca_ (zan.calls kj2 ((zbb l0 x5_1).f0) ((zbb l0 x5_1).f1) ((zbb l0 x5_1).f2) ((zbb l1 x5_1).f0) ((zbb l1 x5_1).f1) ((zbb l1 x5_1).f2) false _ A9.out) ?_); intro w16 hb; replace HB := bs_ hb; clear hb; refine hK.out _ _ ⟨(hc_ HB.out hw290_0), (hc_ HB.out hw290_1), (hc_ HB.out hw290_2), (hc_ HB.out hw291_0), (hc_ HB.out hw291_1), (hc_ HB.out hw291_2)⟩ (fun hHeld => ?_); clear hK K; refine nz_ ?_; refine zfm (zcp HT_.out (by kernel_rfl)) ?_; try go_wp2
          replace HB := ak_ (zbv HB.out); have p293 : 0 ≤ (x5_1 : Int) := of_decide_eq_true q3_; have q293 : x5_1 < (l1.length : Int) := of_decide_eq_true q3_; obtain ⟨ad293, e293, hx293_0, hx293_1, hx293_2⟩ := zhm HR1.out x5_1 p293 q293; have hw293_2 := hx293_2; have hw293_1 := hx293_1; have hw293_0 := hx293_0; obtain rfl : ad291 = ad293 := (by injection e293); replace hx293_0 := hc_ HB.out hx293_0; replace hx293_1 := hc_ HB.out hx293_1; replace hx293_2 := hc_ HB.out hx293_2; replace p293 := eq_true p293; replace q293 := eq_true q293; have p294 : 0 ≤ (x5_1 : Int) := of_decide_eq_true q3_; have q294 : x5_1 < (l0.length : Int) := of_decide_eq_true q3_; obtain ⟨ad294, e294, hx294_0, hx294_1, hx294_2⟩ := zhm HR0.out x5_1 p294 q294; have hw294_2 := hx294_2; have hw294_1 := hx294_1; have hw294_0 := hx294_0; obtain rfl : ad290 = ad294 := (by injection e294); replace hx294_0 := hc_ HB.out hx294_0; replace hx294_1 := hc_ HB.out hx294_1; replace hx294_2 := hc_ HB.out hx294_2; replace p294 := eq_true p294; replace q294 := eq_true q294; refine zff (n := 9) (S := fun w' => w'.cell? (ad291.add ((x5_1).toNat * 3)) = some (.int .i64 ((zbb l1 x5_1).f0)) ∧ w'.cell? ⟨(ad291.add ((x5_1).toNat * 3)).block, (ad291.add ((x5_1).toNat * 3)).off + 1, none⟩ = some (.int .i64 ((zbb l1 x5_1).f1)) ∧ w'.cell? ⟨(ad291.add ((x5_1).toNat * 3)).block, (ad291.add ((x5_1).toNat * 3)).off + 2, none⟩ = some (.string ((zbb l1 x5_1).f2)) ∧ w'.cell? (ad290.add ((x5_1).toNat * 3)) = some (.int .i64 ((zbb l0 x5_1).f0)) ∧ w'.cell? ⟨(ad290.add ((x5_1).toNat * 3)).block, (ad290.add ((x5_1).toNat * 3)).off + 1, none⟩ = some (.int .i64 ((zbb l0 x5_1).f1)) ∧ w'.cell? ⟨(ad290.add ((x5_1).toNat * 3)).block, (ad290.add ((x5_1).toNat * 3)).off + 2, none⟩ = some (.string ((zbb l0 x5_1).f2))) (ds := []) (bz 9 0) (by kernel_rfl) rfl rfl ⟨(hc_ HB.out hw293_0), (hc_ HB.out hw293_1), (hc_ HB.out hw293_2), (hc_ HB.out hw294_0), (hc_ HB.out hw294_1), (hc_ HB.out hw294_2)⟩ (fun hHeld => ?_); refine zcl zaf.tab6 zaf.bits6 (fun HT_ HW_ => ?_); generalize w16.drew = w17 at HB hx293_0 hx293_1 hx293_2 hx294_0 hx294_1 hx294_2 hHeld ⊢; refine pz_ 0 27 (bz 9 1) ?_; refine pz_ 1 28 (bz 9 2) ?_; refine pz_ 2 29 (bz 9 3) ?_; refine pz_ 4 31 b105_4 ?_; refine pz_ 5 32 b105_5 ?_; refine pz_ 6 33 b105_6 ?_; refine tz6_ 3 30 (bz 9 7) hHeld ?_; refine tz6_ 7 34 (bz 9 8) hHeld ?_; refine oz_ 8 (some 35) (bz 9 9) (fun K hK => ?_); refine go1_ Tryd.func85 #[.agg #[.int .i64 ((zbb l1 x5_1).f0), .int .i64 ((zbb l1 x5_1).f1), .string ((zbb l1 x5_1).f2)], .agg #[.int .i64 ((zbb l0 x5_1).f0), .int .i64 ((zbb l0 x5_1).f1), .string ((zbb l0 x5_1).f2)]] ?_
          by_cases c14 : t295 = true
          ·subst c14; replace H := ifT_ H; obtain rfl := Option.some.inj H; (with_reducible refine ca_ (zan.calls kj2 ((zbb l1 x5_1).f0) ((zbb l1 x5_1).f1) ((zbb l1 x5_1).f2) ((zbb l0 x5_1).f0) ((zbb l0 x5_1).f1) ((zbb l0 x5_1).f2) true _ A13.out) ?_); intro w18 hb; replace HB := bs_ hb; clear hb; refine hK.out _ _ ⟨(hc_ HB.out hw293_0), (hc_ HB.out hw293_1), (hc_ HB.out hw293_2), (hc_ HB.out hw294_0), (hc_ HB.out hw294_1), (hc_ HB.out hw294_2)⟩ (fun hHeld => ?_); clear hK K; refine nz_ ?_; refine zfm (zcp HT_.out (by kernel_rfl)) ?_; try go_wp2
           go_ret; exact ⟨q4_, q0_⟩
          ·replace c14 := Bool.eq_false_iff.mpr c14; subst c14; replace H := ifF_ H; have H' := ak_ H; clear H; (with_reducible refine ca_ (zan.calls kj2 ((zbb l1 x5_1).f0) ((zbb l1 x5_1).f1) ((zbb l1 x5_1).f2) ((zbb l0 x5_1).f0) ((zbb l0 x5_1).f1) ((zbb l0 x5_1).f2) false _ A13.out) ?_); intro w22 hb; replace HB := bs_ hb; clear hb; refine hK.out _ _ ⟨(hc_ HB.out hw293_0), (hc_ HB.out hw293_1), (hc_ HB.out hw293_2), (hc_ HB.out hw294_0), (hc_ HB.out hw294_1), (hc_ HB.out hw294_2)⟩ (fun hHeld => ?_); clear hK K; refine nz_ ?_; refine zfm (zcp HT_.out (by kernel_rfl)) ?_; try go_wp2
           go_roundg kj2
           case measure => have := HK1.out; have := HJ2.out; omega
           case rel => exact ⟨(wrap64 (x5_1 + 1)), q5_, H', ⟨by have := HK1.out; have := HJ2.out; omega⟩, ⟨q0_⟩⟩
        ·rw [if_neg c8] at H; exact absurd H (by simp)
       ·rw [if_neg c7] at H; exact absurd H (by simp)
      ·rw [if_neg c6] at H; exact absurd H (by simp)
     ·replace c5 := Bool.eq_false_iff.mpr c5; subst c5; replace H := ifF_ H
      by_cases c23 : (l0.length : Int) < (l1.length : Int)
      ·rw [if_pos c23] at H; have c23b0 := decide_eq_true c23; have c23b1 : decide (l0.length < l1.length) = true := decide_eq_true (Int.ofNat_lt.mp c23); clear c23; obtain rfl := Option.some.inj H; go_wp2; go_ret; exact ⟨q4_, q0_⟩
      ·rw [if_neg c23] at H; have c23b0 := decide_eq_false c23; have c23b1 : decide (l0.length < l1.length) = false := decide_eq_false (fun h => c23 (Int.ofNat_lt.mpr h)); clear c23
       by_cases c24 : (l0.length : Int) > (l1.length : Int)
       ·rw [if_pos c24] at H; have c24b0 : decide ((l1.length : Int) < (l0.length : Int)) = true := decide_eq_true c24; have c24b1 : decide (l1.length < l0.length) = true := decide_eq_true (Int.ofNat_lt.mp c24); clear c24; obtain rfl := Option.some.inj H; go_wp2; go_ret; exact ⟨q4_, q0_⟩
       ·rw [if_neg c24] at H; have c24b0 : decide ((l1.length : Int) < (l0.length : Int)) = false := decide_eq_false c24; have c24b1 : decide (l1.length < l0.length) = false := decide_eq_false (fun h => c24 (Int.ofNat_lt.mpr h)); clear c24; obtain rfl := Option.some.inj H; go_wp2; go_ret; exact ⟨q4_, q0_⟩

end Go.Proofs.YtchpbnabbjdfgaaDoor.P
