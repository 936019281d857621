-- Written by our own program (wip/xprint) over the seat's translation. Lean checks it.
import Derived.Test.YtmdnnpahmoaicaaDoorPx0
import Derived.Test.YtmdnnpahmoaicaaDoorPx1
namespace Go.Proofs.YtmdnnpahmoaicaaDoor.P
open Go.RowKit Go.Proofs.YtmdnnpahmoaicaaDoorW.PrintWords Go.Proofs.YtmdnnpahmoaicaaDoorW.PrintLast Go.Proofs.YtmdnnpahmoaicaaDoorW.PrintMore
attribute [local go_sem] max2_int min2_mn max_two min_two max_three min_three max_four min_four   -- for this text's walks alone
set_option linter.unusedVariables false
set_option linter.unusedSimpArgs false


/-! ### corollaryref01_Digits: function 44 -/
mutual
def corollaryref01_Digits.j0 : Nat → Int → Bool → Option (ByteArray)
  | 0, _, _ => none
  | k + 1, x0, x9 => if x9 = true then ((some (([(wrap64 (48 - x0)) % 256] : List Int) : List Int)).bind fun y353 => (if 1 + (strOfNums y353).size ≤ 9223372036854775807 then (some ((⟨#[45]⟩ : ByteArray) ++ (strOfNums y353))) else (none))) else (if x0 < 0 then ((corollaryref01_Digits.f k (wrap64 (Int.tdiv x0 10))).bind fun t356 => ((some (([(wrap64 (48 - (Int.tmod x0 10))) % 256] : List Int) : List Int)).bind fun y357 => (if t356.size + (strOfNums y357).size ≤ 9223372036854775807 then (some (t356 ++ (strOfNums y357))) else (none)))) else (corollaryref01_Digits.l0 k x0 (⟨#[]⟩ : ByteArray)))
def corollaryref01_Digits.l0 : Nat → Int → ByteArray → Option (ByteArray)
  | 0, _, _ => none
  | k + 1, x0, x3 => if x0 > 9 then ((some (([(wrap64 (48 + (Int.tmod x0 10))) % 256] : List Int) : List Int)).bind fun y360 => (if (strOfNums y360).size + x3.size ≤ 9223372036854775807 then (corollaryref01_Digits.l0 k (wrap64 (Int.tdiv x0 10)) ((strOfNums y360) ++ x3)) else (none))) else ((some (([(wrap64 (48 + x0)) % 256] : List Int) : List Int)).bind fun y363 => (if (strOfNums y363).size + x3.size ≤ 9223372036854775807 then (some ((strOfNums y363) ++ x3)) else (none)))
def corollaryref01_Digits.f : Nat → Int → Option (ByteArray)
  | 0, _ => none
  | k + 1, a0 => if a0 < 0 then (corollaryref01_Digits.j0 k a0 (decide (a0 > (-10)))) else (corollaryref01_Digits.j0 k a0 false)
end
theorem corollaryref01_Digits.mono_l : ∀ k, (∀ y0, LeO (corollaryref01_Digits.f k y0) (corollaryref01_Digits.f (k + 1) y0)) ∧ (∀ y0 y1, LeO (corollaryref01_Digits.j0 k y0 y1) (corollaryref01_Digits.j0 (k + 1) y0 y1)) ∧ (∀ y0 y1, LeO (corollaryref01_Digits.l0 k y0 y1) (corollaryref01_Digits.l0 (k + 1) y0 y1))
  | 0 => ⟨fun _ r h => by simp [corollaryref01_Digits.f] at h, fun _ _ r h => by simp [corollaryref01_Digits.j0] at h, fun _ _ r h => by simp [corollaryref01_Digits.l0] at h⟩
  | k + 1 => by
    obtain ⟨ih0, ih1, ih2⟩ := corollaryref01_Digits.mono_l k
    refine ⟨?_, ?_, ?_⟩
    all_goals intros
    all_goals first
      | unfold corollaryref01_Digits.f
      | unfold corollaryref01_Digits.j0
      | unfold corollaryref01_Digits.l0
    all_goals repeat' first
      | (with_reducible exact ih0 _)
      | (with_reducible exact ih1 _ _)
      | (with_reducible exact ih2 _ _)
      | (with_reducible exact LeO.refl _)
      | (with_reducible exact LeO.none _)
      | (with_reducible refine LeO.ite ?_ ?_)
      | (with_reducible refine LeO.bind ?_ (fun _ => ?_))
      | exact ih0 _
      | exact ih1 _ _
      | exact ih2 _ _
      | exact LeO.none _
      | refine LeO.ite ?_ ?_
      | refine LeO.bind ?_ (fun _ => ?_)
theorem corollaryref01_Digits.mono : ∀ a0 k, LeO (corollaryref01_Digits.f k a0) (corollaryref01_Digits.f (k + 1) a0) := by
  intro a0 k
  obtain ⟨ih0, ih1, ih2⟩ := corollaryref01_Digits.mono_l k
  exact ih0 a0
def corollaryref01_Digits.T4 : Bool × List (List Nat × List Nat) := (true, [([], []), ([0], [0]), ([1], [1]), ([], []), ([3], [3]), ([4], [4]), ([5], [5]), ([6], [6]), ([7], [7]), ([2, 8], [2, 8]), ([9, 2, 0, 1, 2, 3, 4, 5, 6, 7, 8, 9], [9])])
def corollaryref01_Digits.B4 : List Nat := [0, 1, 3, 0, 8, 24, 56, 120, 248, 511, 1023]
theorem corollaryref01_Digits.tab4 : rtab .any (opsOf Tryd.f44 4) = corollaryref01_Digits.T4 := by kernel_rfl
theorem corollaryref01_Digits.bits4 : waitsOk corollaryref01_Digits.T4.2 corollaryref01_Digits.B4 = true := by kernel_rfl
set_option maxHeartbeats 8000000 in
set_option maxRecDepth 100000 in
theorem corollaryref01_Digits.calls (k : Nat) : ∀ (a0 : Int) (r : ByteArray) (w : World) (h : corollaryref01_Digits.f k a0 = some r),
    Calls Tryd.prog 44 #[.int .i64 a0] w fun e w' => e = .returned (.string r) ∧ Below w.heap.size w w' := by
  induction k using Nat.strongRecOn with
  | _ k ih =>
  intro a0 r w h
  cases k with
  | zero => exact absurd h (by simp [corollaryref01_Digits.f])
  | succ k =>
  simp only [corollaryref01_Digits.f] at h
  have HB := Aside0.mk (Below.refl w.heap.size w)
  have H : (if a0 < 0 then (corollaryref01_Digits.j0 k a0 (decide (a0 > (-10)))) else (corollaryref01_Digits.j0 k a0 false)) = some r := h
  clear h
  have HC2 := Aside0.mk H
  clear H
  go_enter Tryd.func44, Tryd.ntmps44
  go_upto_region 1 with (fail)
  go_cut [9] (fun v9 wc => ∃ (kq : Nat) (x9_1 : Bool), v9 = .bool x9_1 ∧ Aside0 (corollaryref01_Digits.j0 kq a0 x9_1 = some r) ∧ Aside0 (kq ≤ k) ∧ Aside0 (Below w.heap.size w wc))
  case first =>
    have H := HC2.out
    clear HC2
    by_cases c3 : a0 < 0
    · rw [if_pos c3] at H
      have c3b0 : decide (a0 < 0) = true := decide_eq_true c3
      clear c3
      (first | rw [c3b0] | (simp only [i64_w, i32_w]; rw [c3b0]) | skip)
      have H' := Aside0.mk H
      clear H
      go_wp2
      go_meet
      case rel => exact ⟨_, (decide (a0 > (-10))), q20_, H', ⟨by first | omega | exact Nat.le_refl _⟩, ⟨q0_⟩⟩
    · rw [if_neg c3] at H
      have c3b0 : decide (a0 < 0) = false := decide_eq_false c3
      clear c3
      (first | rw [c3b0] | (simp only [i64_w, i32_w]; rw [c3b0]) | skip)
      have H' := Aside0.mk H
      clear H
      go_wp2
      go_meet
      case rel => exact ⟨_, (false), q20_, H', ⟨by first | omega | exact Nat.le_refl _⟩, ⟨q0_⟩⟩
  case rest =>
    clear HC2
    try clear p2
    try clear c3
    try clear c3b0
    obtain ⟨kq, x9_1, rfl, HA, HJ1, HB⟩ := hcut
    cases kq with
    | zero => exact absurd HA.out (by simp [corollaryref01_Digits.j0])
    | succ kj1 =>
      have H := HA.out
      clear HA
      simp only [corollaryref01_Digits.j0] at H
      by_cases c4 : x9_1 = true
      · subst c4
        replace H := ifT_ H
        obtain ⟨y353, hy353⟩ : ∃ y_ : List Int, y_ = (([(wrap64 (48 - a0)) % 256] : List Int)) := ⟨_, rfl⟩
        replace H : (if 1 + (strOfNums y353).size ≤ 9223372036854775807 then (some ((⟨#[45]⟩ : ByteArray) ++ (strOfNums y353))) else (none)) = some r := by first | (rw [hy353]; with_reducible exact H) | (have H2_ := (Option.bind_some _ _).symm.trans H; rw [hy353]; with_reducible exact H2_) | (have H2_ := (Option.bind_some _ _).symm.trans H; with_reducible exact H2_) | with_reducible exact H | (rw [hy353]; exact H) | exact H
        have Ny353 := Aside0.mk hy353
        clear hy353
        by_cases c5 : 1 + (strOfNums y353).size ≤ 9223372036854775807
        · rw [if_pos c5] at H
          have c5b0 := eq_true c5
          have c5b1 : decide (1 + (strOfNums y353).size ≤ 9223372036854775807) = true := decide_eq_true c5
          try have c5b2 : (9223372036854775807 < 1 + (strOfNums y353).size) = False := eq_false (Nat.not_lt.2 c5)
          obtain rfl := Option.some.inj H
          go_wp2_with (first | ((with_reducible refine gate_dst (N := 13) rfl ?_); refine Kd.R_lit (Kd.int .u8) _ 5 ?hg (N := 13) ?hd (xs := ([(wrap64 (48 - a0)) % 256] : List Int)) (inner := [.int .u8 ((wrap64 (48 - a0)) % 256)]) (ok := fun _ => True) (okp := fun _ => True) ?hr ?hp (fun _ hk => hk) trivial (Below.refl _ _) (Nat.le_refl _) (by simp) ?_; (case hd => rfl); (case hg => rfl); (case hr => first | (go_simp; done) | (go_simp; rfl)); (case hp => exact (Reps.one (show Kd.M (Kd.int .u8) _ _ _ ((wrap64 (48 - a0)) % 256) [.int .u8 ((wrap64 (48 - a0)) % 256)] from rfl) (Reps.none _ _))); intro v354 w6 ho7 hb hg_ hnew_; clear hg_ hnew_; (first | rw [← Ny353.out] at ho7 | (simp only [Int.reduceToNat] at ho7; rw [← Ny353.out] at ho7)); have n0_ := Aside0.mk (Kd.R_lower ho7 (below_size q0_)); have n1_ := Aside0.mk (below_step q0_ hb); clear HB; have HO355 := n0_; have HB := n1_; clear n0_ n1_; clear hb ho7; have hcv8 := own_string (P := Tryd.prog) Tryd.underlying46 Tryd.underlying5 Tryd.underlying9 (Kd.own_of_R HO355.out)))
          go_ret
          exact ⟨q13_, q0_⟩
        · rw [if_neg c5] at H
          exact absurd H (by simp)
      · replace c4 := Bool.eq_false_iff.mpr c4
        subst c4
        replace H := ifF_ H
        by_cases c9 : a0 < 0
        · rw [if_pos c9] at H
          have c9b0 : decide (a0 < 0) = true := decide_eq_true c9
          clear c9
          replace H := Option.bind_eq_some_iff.mp H
          obtain ⟨t356, A100, H⟩ := H
          replace H : ((some (([(wrap64 (48 - (Int.tmod a0 10))) % 256] : List Int) : List Int)).bind fun y357 => (if t356.size + (strOfNums y357).size ≤ 9223372036854775807 then (some (t356 ++ (strOfNums y357))) else (none))) = some r := H
          have A10 := Aside0.mk A100
          clear A100
          obtain ⟨y357, hy357⟩ : ∃ y_ : List Int, y_ = (([(wrap64 (48 - (Int.tmod a0 10))) % 256] : List Int)) := ⟨_, rfl⟩
          replace H : (if t356.size + (strOfNums y357).size ≤ 9223372036854775807 then (some (t356 ++ (strOfNums y357))) else (none)) = some r := by first | (rw [hy357]; with_reducible exact H) | (have H2_ := (Option.bind_some _ _).symm.trans H; rw [hy357]; with_reducible exact H2_) | (have H2_ := (Option.bind_some _ _).symm.trans H; with_reducible exact H2_) | with_reducible exact H | (rw [hy357]; exact H) | exact H
          have Ny357 := Aside0.mk hy357
          clear hy357
          by_cases c11 : t356.size + (strOfNums y357).size ≤ 9223372036854775807
          · rw [if_pos c11] at H
            have c11b0 := eq_true c11
            have c11b1 : decide (t356.size + (strOfNums y357).size ≤ 9223372036854775807) = true := decide_eq_true c11
            try have c11b2 : (9223372036854775807 < t356.size + (strOfNums y357).size) = False := eq_false (Nat.not_lt.2 c11)
            obtain rfl := Option.some.inj H
            try go_wp2
            have n0_ := Aside0.mk (below_drew1 HB.out)
            clear HB
            have HB := n0_
            clear n0_
            refine start_ (n := 11) (S := fun w' => True) (ds := []) #[false, false, false, false, false, false, false, false, false, false, false] (by kernel_rfl) rfl rfl trivial (fun hHeld => ?_); refine with_tabW corollaryref01_Digits.tab4 corollaryref01_Digits.bits4 (fun HT_ HW_ => ?_)
            generalize wc.drew = w12 at HB hHeld ⊢
            refine pure_ (i := 0) (N := some 18) (v := ?_) (a' := ?_) #[true, false, false, false, false, false, false, false, false, false, false] rfl rfl (any_of HT_.out (by kernel_rfl)) (fun _ _ _ h => h) (Or.inl ⟨by rfl, ?_⟩) ?_ ?_
            rotate_left
            · intro w'
              go_simp
              with_reducible rfl
            rotate_left
            · simp only [Act.put, List.setIfInBounds_toArray, List.set_cons_zero, List.set_cons_succ, i64_w, i32_w]
              rfl
            refine pure_ (i := 1) (N := some 19) (v := ?_) (a' := ?_) #[true, true, false, false, false, false, false, false, false, false, false] rfl rfl (any_of HT_.out (by kernel_rfl)) (fun _ _ _ h => h) (Or.inl ⟨by rfl, ?_⟩) ?_ ?_
            rotate_left
            · intro w'
              go_simp
              with_reducible rfl
            rotate_left
            · simp only [Act.put, List.setIfInBounds_toArray, List.set_cons_zero, List.set_cons_succ, i64_w, i32_w]
              rfl
            refine pure_ (i := 3) (N := some 21) (v := ?_) (a' := ?_) #[true, true, false, true, false, false, false, false, false, false, false] rfl rfl (any_of HT_.out (by kernel_rfl)) (fun _ _ _ h => h) (Or.inl ⟨by rfl, ?_⟩) ?_ ?_
            rotate_left
            · intro w'
              go_simp
              with_reducible rfl
            rotate_left
            · simp only [Act.put, List.setIfInBounds_toArray, List.set_cons_zero, List.set_cons_succ, i64_w, i32_w]
              rfl
            refine pure_ (i := 4) (N := some 22) (v := ?_) (a' := ?_) #[true, true, false, true, true, false, false, false, false, false, false] rfl rfl (any_of HT_.out (by kernel_rfl)) (fun _ _ _ h => h) (Or.inl ⟨by rfl, ?_⟩) ?_ ?_
            rotate_left
            · intro w'
              go_simp
              with_reducible rfl
            rotate_left
            · simp only [Act.put, List.setIfInBounds_toArray, List.set_cons_zero, List.set_cons_succ, i64_w, i32_w]
              rfl
            refine pure_ (i := 5) (N := some 23) (v := ?_) (a' := ?_) #[true, true, false, true, true, true, false, false, false, false, false] rfl rfl (any_of HT_.out (by kernel_rfl)) (fun _ _ _ h => h) (Or.inl ⟨by rfl, ?_⟩) ?_ ?_
            rotate_left
            · intro w'
              go_simp
              with_reducible rfl
            rotate_left
            · simp only [Act.put, List.setIfInBounds_toArray, List.set_cons_zero, List.set_cons_succ, i64_w, i32_w]
              rfl
            refine pure_ (i := 6) (N := some 24) (v := ?_) (a' := ?_) #[true, true, false, true, true, true, true, false, false, false, false] rfl rfl (any_of HT_.out (by kernel_rfl)) (fun _ _ _ h => h) (Or.inl ⟨by rfl, ?_⟩) ?_ ?_
            rotate_left
            · intro w'
              go_simp
              with_reducible rfl
            rotate_left
            · simp only [Act.put, List.setIfInBounds_toArray, List.set_cons_zero, List.set_cons_succ, i64_w, i32_w]
              rfl
            refine join_ (σ := Value) 2 #[true, true, true, true, true, true, true, true, true, false, false] (fun s_ => [(20, .string t356), (25, s_), (26, .string (strOfNums y357))]) (fun s_ w' => (Kd.R (Kd.int .u8) 5 w' w.heap.size (fun _ => True) s_ y357) ∧ (Below w.heap.size w w')) ?_ ?_
            rotate_left
            · intro hCont
              refine two_ (i := 2) (j := 7) (Ni := some 20) (Nj := some 25) #[true, true, true, true, true, true, true, false, false, false, false] #[true, true, false, true, true, true, true, true, false, false, false] rfl rfl rfl rfl (two_of HT_.out (by kernel_rfl)) (by decide) (by decide) (fun K hK => ?_) (fun K hK => ?_)
              · skip
                refine goes_ Tryd.func44 (by kernel_rfl) rfl #[.int .i64 (wrap64 (Int.tdiv a0 10))] (by rfl) rfl rfl q2_ ?_
                with_reducible refine (ih kj1 (by have := HJ1.out; omega) (wrap64 (Int.tdiv a0 10)) t356 _ A10.out).mono ?_
                rintro e w13 ⟨rfl, hb⟩
                refine ⟨_, rfl, ?_⟩
                have n0_ := Aside0.mk (below_step q0_ hb)
                clear HB
                have HB := n0_
                clear n0_
                (try clear hb)
                (try clear hb2)
                (try clear hk)
                (try clear hi)
                refine hK.out _ _ trivial (fun hHeld => ?_)
                clear hK K
                refine norm_ (a' := ?_) ?_ ?_
                rotate_left
                · show Act.put _ (some 20) _ = _
                  simp only [Act.put, List.setIfInBounds_toArray, List.set_cons_zero, List.set_cons_succ, i64_w, i32_w]
                  rfl
                refine one_ (i := 7) (N := some 25) #[true, true, true, true, true, true, true, true, false, false, false] rfl rfl (one_of HT_.out (by kernel_rfl)) (by decide) (fun K hK => ?_)
                refine Kd.R_lit_step (Kd.int .u8) _ 5 ?hg (N := 25) ?hd (xs := ([(wrap64 (48 - (Int.tmod a0 10))) % 256] : List Int)) (inner := [.int .u8 ((wrap64 (48 - (Int.tmod a0 10))) % 256)]) (ok := fun _ => True) (okp := fun _ => True) ?hr ?hp (fun _ hk => hk) trivial (Below.refl _ _) (Nat.le_refl _) (by simp) ?_; (case hd => rfl); (case hg => rfl); (case hr => first | (go_simp; done) | (go_simp; rfl)); (case hp => exact (Reps.one (show Kd.M (Kd.int .u8) _ _ _ ((wrap64 (48 - (Int.tmod a0 10))) % 256) [.int .u8 ((wrap64 (48 - (Int.tmod a0 10))) % 256)] from rfl) (Reps.none _ _)))
                intro v358 w14 ho15 hb hg_ hnew_
                clear hg_ hnew_
                (first | rw [← Ny357.out] at ho15 | (simp only [Int.reduceToNat] at ho15; rw [← Ny357.out] at ho15))
                have n0_ := Aside0.mk (Kd.R_lower ho15 (below_size q0_))
                have n1_ := Aside0.mk (below_step q0_ hb)
                clear HB
                have HO359 := n0_
                have HB := n1_
                clear n0_ n1_
                clear hb ho15
                refine hK.out _ _ trivial (fun hHeld => ?_)
                clear hK K
                refine norm_ (a' := ?_) ?_ ?_
                rotate_left
                · show Act.put _ (some 25) _ = _
                  simp only [Act.put, List.setIfInBounds_toArray, List.set_cons_zero, List.set_cons_succ, i64_w, i32_w]
                  rfl
                refine one_ (i := 8) (N := some 26) #[true, true, true, true, true, true, true, true, true, false, false] rfl rfl (one_of HT_.out (by kernel_rfl)) (by decide) (fun K hK => ?_)
                have hcv16 := own_string (P := Tryd.prog) Tryd.underlying46 Tryd.underlying5 Tryd.underlying9 (Kd.own_of_R HO359.out)
                refine value_ (w1 := ?_) (v := ?_) (by rfl) rfl ?_ ?_
                rotate_left 2
                · go_simp
                  constructor
                  · rfl
                  · rfl
                clear hcv16
                refine hK.out _ _ trivial (fun hHeld => ?_)
                clear hK K
                refine norm_ (a' := ?_) ?_ ?_
                rotate_left
                · show Act.put _ (some 26) _ = _
                  simp only [Act.put, List.setIfInBounds_toArray, List.set_cons_zero, List.set_cons_succ, i64_w, i32_w]
                  rfl
                exact norm_ (by simp only [putAll, Act.put, List.setIfInBounds_toArray, List.set_cons_zero, List.set_cons_succ]) (hCont (v358) _ ⟨q180_, q0_⟩)
              · skip
                refine Kd.R_lit_step (Kd.int .u8) _ 5 ?hg (N := 25) ?hd (xs := ([(wrap64 (48 - (Int.tmod a0 10))) % 256] : List Int)) (inner := [.int .u8 ((wrap64 (48 - (Int.tmod a0 10))) % 256)]) (ok := fun _ => True) (okp := fun _ => True) ?hr ?hp (fun _ hk => hk) trivial (Below.refl _ _) (Nat.le_refl _) (by simp) ?_; (case hd => rfl); (case hg => rfl); (case hr => first | (go_simp; done) | (go_simp; rfl)); (case hp => exact (Reps.one (show Kd.M (Kd.int .u8) _ _ _ ((wrap64 (48 - (Int.tmod a0 10))) % 256) [.int .u8 ((wrap64 (48 - (Int.tmod a0 10))) % 256)] from rfl) (Reps.none _ _)))
                intro v358 w13 ho14 hb hg_ hnew_
                clear hg_ hnew_
                (first | rw [← Ny357.out] at ho14 | (simp only [Int.reduceToNat] at ho14; rw [← Ny357.out] at ho14))
                have n0_ := Aside0.mk (Kd.R_lower ho14 (below_size q0_))
                have n1_ := Aside0.mk (below_step q0_ hb)
                clear HB
                have HO359 := n0_
                have HB := n1_
                clear n0_ n1_
                clear hb ho14
                refine hK.out _ _ trivial (fun hHeld => ?_)
                clear hK K
                refine norm_ (a' := ?_) ?_ ?_
                rotate_left
                · show Act.put _ (some 25) _ = _
                  simp only [Act.put, List.setIfInBounds_toArray, List.set_cons_zero, List.set_cons_succ, i64_w, i32_w]
                  rfl
                refine two_ (i := 2) (j := 8) (Ni := some 20) (Nj := some 26) #[true, true, true, true, true, true, true, true, false, false, false] #[true, true, false, true, true, true, true, true, true, false, false] rfl rfl rfl rfl (two_of HT_.out (by kernel_rfl)) (by decide) (by decide) (fun K hK => ?_) (fun K hK => ?_)
                · skip
                  refine goes_ Tryd.func44 (by kernel_rfl) rfl #[.int .i64 (wrap64 (Int.tdiv a0 10))] (by rfl) rfl rfl q2_ ?_
                  with_reducible refine (ih kj1 (by have := HJ1.out; omega) (wrap64 (Int.tdiv a0 10)) t356 _ A10.out).mono ?_
                  rintro e w15 ⟨rfl, hb⟩
                  refine ⟨_, rfl, ?_⟩
                  have n0_ := Aside0.mk (Kd.R_below q180_ hb)
                  have n1_ := Aside0.mk (below_step q0_ hb)
                  clear HO359
                  clear HB
                  have HO359 := n0_
                  have HB := n1_
                  clear n0_ n1_
                  (try clear hb)
                  (try clear hb2)
                  (try clear hk)
                  (try clear hi)
                  refine hK.out _ _ trivial (fun hHeld => ?_)
                  clear hK K
                  refine norm_ (a' := ?_) ?_ ?_
                  rotate_left
                  · show Act.put _ (some 20) _ = _
                    simp only [Act.put, List.setIfInBounds_toArray, List.set_cons_zero, List.set_cons_succ, i64_w, i32_w]
                    rfl
                  refine one_ (i := 8) (N := some 26) #[true, true, true, true, true, true, true, true, true, false, false] rfl rfl (one_of HT_.out (by kernel_rfl)) (by decide) (fun K hK => ?_)
                  have hcv16 := own_string (P := Tryd.prog) Tryd.underlying46 Tryd.underlying5 Tryd.underlying9 (Kd.own_of_R HO359.out)
                  refine value_ (w1 := ?_) (v := ?_) (by rfl) rfl ?_ ?_
                  rotate_left 2
                  · go_simp
                    constructor
                    · rfl
                    · rfl
                  clear hcv16
                  refine hK.out _ _ trivial (fun hHeld => ?_)
                  clear hK K
                  refine norm_ (a' := ?_) ?_ ?_
                  rotate_left
                  · show Act.put _ (some 26) _ = _
                    simp only [Act.put, List.setIfInBounds_toArray, List.set_cons_zero, List.set_cons_succ, i64_w, i32_w]
                    rfl
                  exact norm_ (by simp only [putAll, Act.put, List.setIfInBounds_toArray, List.set_cons_zero, List.set_cons_succ]) (hCont (v358) _ ⟨q180_, q0_⟩)
                · skip
                  have hcv15 := own_string (P := Tryd.prog) Tryd.underlying46 Tryd.underlying5 Tryd.underlying9 (Kd.own_of_R HO359.out)
                  refine value_ (w1 := ?_) (v := ?_) (by rfl) rfl ?_ ?_
                  rotate_left 2
                  · go_simp
                    constructor
                    · rfl
                    · rfl
                  clear hcv15
                  refine hK.out _ _ trivial (fun hHeld => ?_)
                  clear hK K
                  refine norm_ (a' := ?_) ?_ ?_
                  rotate_left
                  · show Act.put _ (some 26) _ = _
                    simp only [Act.put, List.setIfInBounds_toArray, List.set_cons_zero, List.set_cons_succ, i64_w, i32_w]
                    rfl
                  refine one_ (i := 2) (N := some 20) #[true, true, true, true, true, true, true, true, true, false, false] rfl rfl (one_of HT_.out (by kernel_rfl)) (by decide) (fun K hK => ?_)
                  refine goes_ Tryd.func44 (by kernel_rfl) rfl #[.int .i64 (wrap64 (Int.tdiv a0 10))] (by rfl) rfl rfl q2_ ?_
                  with_reducible refine (ih kj1 (by have := HJ1.out; omega) (wrap64 (Int.tdiv a0 10)) t356 _ A10.out).mono ?_
                  rintro e w16 ⟨rfl, hb⟩
                  refine ⟨_, rfl, ?_⟩
                  have n0_ := Aside0.mk (Kd.R_below q180_ hb)
                  have n1_ := Aside0.mk (below_step q0_ hb)
                  clear HO359
                  clear HB
                  have HO359 := n0_
                  have HB := n1_
                  clear n0_ n1_
                  (try clear hb)
                  (try clear hb2)
                  (try clear hk)
                  (try clear hi)
                  refine hK.out _ _ trivial (fun hHeld => ?_)
                  clear hK K
                  refine norm_ (a' := ?_) ?_ ?_
                  rotate_left
                  · show Act.put _ (some 20) _ = _
                    simp only [Act.put, List.setIfInBounds_toArray, List.set_cons_zero, List.set_cons_succ, i64_w, i32_w]
                    rfl
                  exact norm_ (by simp only [putAll, Act.put, List.setIfInBounds_toArray, List.set_cons_zero, List.set_cons_succ]) (hCont (v358) _ ⟨q180_, q0_⟩)
            rintro v358 w17 ⟨h0_, h1_⟩
            have n0_ : Aside0 (Kd.R (Kd.int .u8) 5 w17 w.heap.size (fun _ => True) v358 y357) := ⟨h0_⟩
            have n1_ : Aside0 (Below w.heap.size w w17) := ⟨h1_⟩
            clear HB
            clear h0_ h1_
            have HO359 := n0_
            have HB := n1_
            clear n0_ n1_
            have hHeld := trivial
            refine norm_ (a' := ?_) ?_ ?_
            rotate_left
            · simp only [putAll, Act.put, List.setIfInBounds_toArray, List.set_cons_zero, List.set_cons_succ]
              rfl
            refine pure_ (i := 9) (N := some 27) (v := ?_) (a' := ?_) #[true, true, true, true, true, true, true, true, true, true, false] rfl rfl (any_of HT_.out (by kernel_rfl)) (fun _ _ _ h => h) (Or.inl ⟨by rfl, ?_⟩) ?_ ?_
            rotate_left
            · intro w'
              go_simp
              with_reducible rfl
            rotate_left
            · simp only [Act.put, List.setIfInBounds_toArray, List.set_cons_zero, List.set_cons_succ, i64_w, i32_w]
              rfl
            refine pure_ (i := 10) (N := some 2) (v := ?_) (a' := ?_) #[true, true, true, true, true, true, true, true, true, true, true] rfl rfl (any_of HT_.out (by kernel_rfl)) (fun _ _ _ h => h) (Or.inl ⟨by rfl, ?_⟩) ?_ ?_
            rotate_left
            · intro w'
              go_simp
              with_reducible rfl
            rotate_left
            · simp only [Act.put, List.setIfInBounds_toArray, List.set_cons_zero, List.set_cons_succ, i64_w, i32_w]
              rfl
            refine done_ (done_of HT_.out (by kernel_rfl)) ?_
            try go_wp2
            go_ret
            exact ⟨q13_, q0_⟩
          · rw [if_neg c11] at H
            exact absurd H (by simp)
        · rw [if_neg c9] at H
          have c9b0 : decide (a0 < 0) = false := decide_eq_false c9
          clear c9
          have H' := Aside0.mk H
          clear H
          go_wp2
          go_loopg [0, 3] kj1 (fun kq v0 v3 w' => ∃ (x0_2 : Int) (x3_2 : ByteArray), v0 = .int .i64 x0_2 ∧ v3 = .string x3_2 ∧ Aside0 (corollaryref01_Digits.l0 kq x0_2 x3_2 = some r) ∧ Aside0 (kq ≤ kj1) ∧ Aside0 (Below w.heap.size w w'))
          case atStart => exact ⟨(a0), ((⟨#[]⟩ : ByteArray)), q20_, q20_, H', ⟨Nat.le_refl _⟩, ⟨q0_⟩⟩
          case round =>
            clear H'
            try clear c1
            try clear hcv1
            try clear p2
            try clear c3
            try clear c3b0
            try clear c4
            try clear c5
            try clear c5b0
            try clear c5b1
            try clear c5b2
            try clear p6
            try clear hcv8
            try clear c9
            try clear c9b0
            try clear c11
            try clear c11b0
            try clear c11b1
            try clear c11b2
            try clear hcv15
            try clear hcv16
            try clear p2
            obtain ⟨x0_2, x3_2, rfl, rfl, HA, HK2, HB⟩ := hrel
            cases gk with
            | zero => exact absurd HA.out (by simp [corollaryref01_Digits.l0])
            | succ k2 =>
              have H := HA.out
              clear HA
              simp only [corollaryref01_Digits.l0] at H
              by_cases c18 : x0_2 > 9
              · rw [if_pos c18] at H
                have c18b0 : decide (9 < x0_2) = true := decide_eq_true c18
                clear c18
                obtain ⟨y360, hy360⟩ : ∃ y_ : List Int, y_ = (([(wrap64 (48 + (Int.tmod x0_2 10))) % 256] : List Int)) := ⟨_, rfl⟩
                replace H : (if (strOfNums y360).size + x3_2.size ≤ 9223372036854775807 then (corollaryref01_Digits.l0 k2 (wrap64 (Int.tdiv x0_2 10)) ((strOfNums y360) ++ x3_2)) else (none)) = some r := by first | (rw [hy360]; with_reducible exact H) | (have H2_ := (Option.bind_some _ _).symm.trans H; rw [hy360]; with_reducible exact H2_) | (have H2_ := (Option.bind_some _ _).symm.trans H; with_reducible exact H2_) | with_reducible exact H | (rw [hy360]; exact H) | exact H
                have Ny360 := Aside0.mk hy360
                clear hy360
                by_cases c19 : (strOfNums y360).size + x3_2.size ≤ 9223372036854775807
                · rw [if_pos c19] at H
                  have c19b0 := eq_true c19
                  have c19b1 : decide ((strOfNums y360).size + x3_2.size ≤ 9223372036854775807) = true := decide_eq_true c19
                  try have c19b2 : (9223372036854775807 < (strOfNums y360).size + x3_2.size) = False := eq_false (Nat.not_lt.2 c19)
                  have H' := Aside0.mk H
                  clear H
                  go_wp2_with (first | ((with_reducible refine gate_dst (N := 34) rfl ?_); refine Kd.R_lit (Kd.int .u8) _ 5 ?hg (N := 34) ?hd (xs := ([(wrap64 (48 + (Int.tmod x0_2 10))) % 256] : List Int)) (inner := [.int .u8 ((wrap64 (48 + (Int.tmod x0_2 10))) % 256)]) (ok := fun _ => True) (okp := fun _ => True) ?hr ?hp (fun _ hk => hk) trivial (Below.refl _ _) (Nat.le_refl _) (by simp) ?_; (case hd => rfl); (case hg => rfl); (case hr => first | (go_simp; done) | (go_simp; rfl)); (case hp => exact (Reps.one (show Kd.M (Kd.int .u8) _ _ _ ((wrap64 (48 + (Int.tmod x0_2 10))) % 256) [.int .u8 ((wrap64 (48 + (Int.tmod x0_2 10))) % 256)] from rfl) (Reps.none _ _))); intro v361 w20 ho21 hb hg_ hnew_; clear hg_ hnew_; (first | rw [← Ny360.out] at ho21 | (simp only [Int.reduceToNat] at ho21; rw [← Ny360.out] at ho21)); have n0_ := Aside0.mk (Kd.R_lower ho21 (below_size q0_)); have n1_ := Aside0.mk (below_step q0_ hb); clear HB; have HO362 := n0_; have HB := n1_; clear n0_ n1_; clear hb ho21; have hcv22 := own_string (P := Tryd.prog) Tryd.underlying46 Tryd.underlying5 Tryd.underlying9 (Kd.own_of_R HO362.out)))
                  go_roundg k2
                  case measure => have := HJ1.out; have := HK2.out; omega
                  case rel => exact ⟨(wrap64 (Int.tdiv x0_2 10)), ((strOfNums y360) ++ x3_2), q20_, q20_, H', ⟨by have := HJ1.out; have := HK2.out; omega⟩, ⟨q0_⟩⟩
                · rw [if_neg c19] at H
                  exact absurd H (by simp)
              · rw [if_neg c18] at H
                have c18b0 : decide (9 < x0_2) = false := decide_eq_false c18
                clear c18
                obtain ⟨y363, hy363⟩ : ∃ y_ : List Int, y_ = (([(wrap64 (48 + x0_2)) % 256] : List Int)) := ⟨_, rfl⟩
                replace H : (if (strOfNums y363).size + x3_2.size ≤ 9223372036854775807 then (some ((strOfNums y363) ++ x3_2)) else (none)) = some r := by first | (rw [hy363]; with_reducible exact H) | (have H2_ := (Option.bind_some _ _).symm.trans H; rw [hy363]; with_reducible exact H2_) | (have H2_ := (Option.bind_some _ _).symm.trans H; with_reducible exact H2_) | with_reducible exact H | (rw [hy363]; exact H) | exact H
                have Ny363 := Aside0.mk hy363
                clear hy363
                by_cases c23 : (strOfNums y363).size + x3_2.size ≤ 9223372036854775807
                · rw [if_pos c23] at H
                  have c23b0 := eq_true c23
                  have c23b1 : decide ((strOfNums y363).size + x3_2.size ≤ 9223372036854775807) = true := decide_eq_true c23
                  try have c23b2 : (9223372036854775807 < (strOfNums y363).size + x3_2.size) = False := eq_false (Nat.not_lt.2 c23)
                  obtain rfl := Option.some.inj H
                  go_wp2_with (first | ((with_reducible refine gate_dst (N := 43) rfl ?_); refine Kd.R_lit (Kd.int .u8) _ 5 ?hg (N := 43) ?hd (xs := ([(wrap64 (48 + x0_2)) % 256] : List Int)) (inner := [.int .u8 ((wrap64 (48 + x0_2)) % 256)]) (ok := fun _ => True) (okp := fun _ => True) ?hr ?hp (fun _ hk => hk) trivial (Below.refl _ _) (Nat.le_refl _) (by simp) ?_; (case hd => rfl); (case hg => rfl); (case hr => first | (go_simp; done) | (go_simp; rfl)); (case hp => exact (Reps.one (show Kd.M (Kd.int .u8) _ _ _ ((wrap64 (48 + x0_2)) % 256) [.int .u8 ((wrap64 (48 + x0_2)) % 256)] from rfl) (Reps.none _ _))); intro v364 w24 ho25 hb hg_ hnew_; clear hg_ hnew_; (first | rw [← Ny363.out] at ho25 | (simp only [Int.reduceToNat] at ho25; rw [← Ny363.out] at ho25)); have n0_ := Aside0.mk (Kd.R_lower ho25 (below_size q0_)); have n1_ := Aside0.mk (below_step q0_ hb); clear HB; have HO365 := n0_; have HB := n1_; clear n0_ n1_; clear hb ho25; have hcv26 := own_string (P := Tryd.prog) Tryd.underlying46 Tryd.underlying5 Tryd.underlying9 (Kd.own_of_R HO365.out)))
                  go_ret
                  exact ⟨q13_, q0_⟩
                · rw [if_neg c23] at H
                  exact absurd H (by simp)


/-! ### corollaryref01_Show: function 24 -/
def corollaryref01_Show.l0 : Nat → ByteArray → ByteArray → Int → Int → Int → ByteArray → Option (ByteArray)
  | 0, _, _, _, _, _, _ => none
  | k + 1, x3, x4, x5, x367000, x367001, x367002 => if x5 < (x367002.size : Int) then (if 0 ≤ x5 then (if x367000 = 4 then (if 0 ≤ ((Int.tdiv (bt x367002 x5) 16) % 256) then (if ((Int.tdiv (bt x367002 x5) 16) % 256) ≤ ((((Int.tdiv (bt x367002 x5) 16) % 256) + 1) % 256) then (if ((((Int.tdiv (bt x367002 x5) 16) % 256) + 1) % 256) ≤ (x3.size : Int) then (if x4.size + (x3.extract (((Int.tdiv (bt x367002 x5) 16) % 256) : Int).toNat (((((Int.tdiv (bt x367002 x5) 16) % 256) + 1) % 256) : Int).toNat).size ≤ 9223372036854775807 then (if 0 ≤ (Int.tmod (bt x367002 x5) 16) then (if (Int.tmod (bt x367002 x5) 16) ≤ (((Int.tmod (bt x367002 x5) 16) + 1) % 256) then (if (((Int.tmod (bt x367002 x5) 16) + 1) % 256) ≤ (x3.size : Int) then (if (x4 ++ (x3.extract (((Int.tdiv (bt x367002 x5) 16) % 256) : Int).toNat (((((Int.tdiv (bt x367002 x5) 16) % 256) + 1) % 256) : Int).toNat)).size + (x3.extract ((Int.tmod (bt x367002 x5) 16) : Int).toNat ((((Int.tmod (bt x367002 x5) 16) + 1) % 256) : Int).toNat).size ≤ 9223372036854775807 then (corollaryref01_Show.l0 k x3 ((x4 ++ (x3.extract (((Int.tdiv (bt x367002 x5) 16) % 256) : Int).toNat (((((Int.tdiv (bt x367002 x5) 16) % 256) + 1) % 256) : Int).toNat)) ++ (x3.extract ((Int.tmod (bt x367002 x5) 16) : Int).toNat ((((Int.tmod (bt x367002 x5) 16) + 1) % 256) : Int).toNat)) (wrap64 (x5 + 1)) x367000 x367001 x367002) else (none)) else (none)) else (none)) else (none)) else (none)) else (none)) else (none)) else (none)) else (if x5 ≤ (wrap64 (x5 + 1)) then (if (wrap64 (x5 + 1)) ≤ (x367002.size : Int) then (if x4.size + (x367002.extract (x5 : Int).toNat ((wrap64 (x5 + 1)) : Int).toNat).size ≤ 9223372036854775807 then (if (bt x367002 x5) = 39 then (if (x4 ++ (x367002.extract (x5 : Int).toNat ((wrap64 (x5 + 1)) : Int).toNat)).size + 1 ≤ 9223372036854775807 then (corollaryref01_Show.l0 k x3 ((x4 ++ (x367002.extract (x5 : Int).toNat ((wrap64 (x5 + 1)) : Int).toNat)) ++ (⟨#[39]⟩ : ByteArray)) (wrap64 (x5 + 1)) x367000 x367001 x367002) else (none)) else (corollaryref01_Show.l0 k x3 (x4 ++ (x367002.extract (x5 : Int).toNat ((wrap64 (x5 + 1)) : Int).toNat)) (wrap64 (x5 + 1)) x367000 x367001 x367002)) else (none)) else (none)) else (none))) else (none)) else (if x367000 = 4 then (if 1 + x4.size ≤ 9223372036854775807 then (if ((⟨#[120]⟩ : ByteArray) ++ x4).size + 1 ≤ 9223372036854775807 then (some (((⟨#[120]⟩ : ByteArray) ++ x4) ++ (⟨#[39]⟩ : ByteArray))) else (none)) else (none)) else (if x4.size + 1 ≤ 9223372036854775807 then (some (x4 ++ (⟨#[39]⟩ : ByteArray))) else (none)))
def corollaryref01_Show.f (k : Nat) (a0_0 : Int) (a0_1 : Int) (a0_2 : ByteArray) : Option (ByteArray) := if a0_0 = 0 then (some (⟨#[110, 117, 108, 108]⟩ : ByteArray)) else (if a0_0 = 1 then (if a0_1 = 1 then (some (⟨#[116, 114, 117, 101]⟩ : ByteArray)) else (some (⟨#[102, 97, 108, 115, 101]⟩ : ByteArray))) else (if a0_0 = 2 then ((corollaryref01_Digits.f k a0_1).bind fun t367 => (some t367)) else (corollaryref01_Show.l0 k (⟨#[48, 49, 50, 51, 52, 53, 54, 55, 56, 57, 97, 98, 99, 100, 101, 102]⟩ : ByteArray) (⟨#[39]⟩ : ByteArray) 0 a0_0 a0_1 a0_2)))
theorem corollaryref01_Show.mono_l : ∀ k, (∀ y0 y1 y2 y3 y4 y5, LeO (corollaryref01_Show.l0 k y0 y1 y2 y3 y4 y5) (corollaryref01_Show.l0 (k + 1) y0 y1 y2 y3 y4 y5))
  | 0 => fun _ _ _ _ _ _ r h => by simp [corollaryref01_Show.l0] at h
  | k + 1 => by
    have ih0 := corollaryref01_Show.mono_l k
    · intro y0 y1 y2 y3 y4 y5
      unfold corollaryref01_Show.l0
      repeat' first
      | (with_reducible exact ih0 _ _ _ _ _ _)
      | (with_reducible exact corollaryref01_Digits.mono _ _)
      | (with_reducible exact LeO.refl _)
      | (with_reducible exact LeO.none _)
      | (with_reducible refine LeO.ite ?_ ?_)
      | (with_reducible refine LeO.bind ?_ (fun _ => ?_))
      | exact ih0 _ _ _ _ _ _
      | exact corollaryref01_Digits.mono _ _
      | exact LeO.none _
      | refine LeO.ite ?_ ?_
      | refine LeO.bind ?_ (fun _ => ?_)
theorem corollaryref01_Show.mono : ∀ a0 a1 a2 k, LeO (corollaryref01_Show.f k a0 a1 a2) (corollaryref01_Show.f (k + 1) a0 a1 a2) := by
  intro a0 a1 a2 k
  have ih0 := corollaryref01_Show.mono_l k
  unfold corollaryref01_Show.f
  repeat' first
      | (with_reducible exact ih0 _ _ _ _ _ _)
      | (with_reducible exact corollaryref01_Digits.mono _ _)
      | (with_reducible exact LeO.refl _)
      | (with_reducible exact LeO.none _)
      | (with_reducible refine LeO.ite ?_ ?_)
      | (with_reducible refine LeO.bind ?_ (fun _ => ?_))
      | exact ih0 _ _ _ _ _ _
      | exact corollaryref01_Digits.mono _ _
      | exact LeO.none _
      | refine LeO.ite ?_ ?_
      | refine LeO.bind ?_ (fun _ => ?_)
set_option maxHeartbeats 8000000 in
set_option maxRecDepth 100000 in
theorem corollaryref01_Show.calls (k : Nat) (a0_0 : Int) (a0_1 : Int) (a0_2 : ByteArray) (r : ByteArray) (w : World) (h : corollaryref01_Show.f k a0_0 a0_1 a0_2 = some r) :
    Calls Tryd.prog 24 #[.agg #[.int .i64 a0_0, .int .i64 a0_1, .string a0_2]] w fun e w' => e = .returned (.string r) ∧ Below w.heap.size w w' := by
  have hu23 := Tryd.underlying23
  have HB := Aside0.mk (Below.refl w.heap.size w)
  have H : (if a0_0 = 0 then (some (⟨#[110, 117, 108, 108]⟩ : ByteArray)) else (if a0_0 = 1 then (if a0_1 = 1 then (some (⟨#[116, 114, 117, 101]⟩ : ByteArray)) else (some (⟨#[102, 97, 108, 115, 101]⟩ : ByteArray))) else (if a0_0 = 2 then ((corollaryref01_Digits.f k a0_1).bind fun t367 => (some t367)) else (corollaryref01_Show.l0 k (⟨#[48, 49, 50, 51, 52, 53, 54, 55, 56, 57, 97, 98, 99, 100, 101, 102]⟩ : ByteArray) (⟨#[39]⟩ : ByteArray) 0 a0_0 a0_1 a0_2)))) = some r := h
  clear h
  by_cases c2 : a0_0 = 0
  · rw [if_pos c2] at H
    have c2b0 : (a0_0 == 0) = true := beq_iff_eq.mpr c2
    have c2b1 : (a0_0 != 0) = false := bne_eq_false_iff_eq.mpr c2
    clear c2
    obtain rfl := Option.some.inj H
    go_enter Tryd.func24, Tryd.ntmps24
    go_wp2_with (first | ((with_reducible refine gate_dst (N := 1) rfl ?_); refine box_event ?hg (N := 1) ?hd (cs := #[.int .i64 a0_0, .int .i64 a0_1, .string a0_2]) (t := 23) ?hr ?_; (case hd => rfl); (case hg => rfl); (case hr => first | (go_simp; done) | (go_simp; rfl)); intro gb366 hg w3 hbox hb; have n0_ := Aside0.mk (below_step q0_ hb); have n1_ := Aside0.mk (hbox); have n2_ := Aside0.mk ((q1_ : w.heap.size ≤ gb366)); have n3_ := Aside0.mk ((q1_ : w.heap.size ≤ gb366)); clear HB; have HB := n0_; have BK366 := n1_; have GW366 := n2_; have GE366 := n3_; clear n0_ n1_ n2_ n3_; clear hb hbox hg; have hcz4_0 : w3.cell? ⟨gb366, 0, none⟩ = some (.int .i64 a0_0) := (blk_cell BK366.out 0).trans rfl; have hcz4_1 : w3.cell? ⟨gb366, 1, none⟩ = some (.int .i64 a0_1) := (blk_cell BK366.out 1).trans rfl; have hcz4_2 : w3.cell? ⟨gb366, 2, none⟩ = some (.string a0_2) := (blk_cell BK366.out 2).trans rfl; have hfz4_0 := blk_frozen BK366.out 0; have hfz4_1 := blk_frozen BK366.out 1; have hfz4_2 := blk_frozen BK366.out 2))
    repeat (go_quiet (first | ((with_reducible refine gate_dst (N := 1) rfl ?_); refine box_event ?hg (N := 1) ?hd (cs := #[.int .i64 a0_0, .int .i64 a0_1, .string a0_2]) (t := 23) ?hr ?_; (case hd => rfl); (case hg => rfl); (case hr => first | (go_simp; done) | (go_simp; rfl)); intro gb366 hg w3 hbox hb; have n0_ := Aside0.mk (below_step q0_ hb); have n1_ := Aside0.mk (hbox); have n2_ := Aside0.mk ((q1_ : w.heap.size ≤ gb366)); have n3_ := Aside0.mk ((q1_ : w.heap.size ≤ gb366)); clear HB; have HB := n0_; have BK366 := n1_; have GW366 := n2_; have GE366 := n3_; clear n0_ n1_ n2_ n3_; clear hb hbox hg; have hcz4_0 : w3.cell? ⟨gb366, 0, none⟩ = some (.int .i64 a0_0) := (blk_cell BK366.out 0).trans rfl; have hcz4_1 : w3.cell? ⟨gb366, 1, none⟩ = some (.int .i64 a0_1) := (blk_cell BK366.out 1).trans rfl; have hcz4_2 : w3.cell? ⟨gb366, 2, none⟩ = some (.string a0_2) := (blk_cell BK366.out 2).trans rfl; have hfz4_0 := blk_frozen BK366.out 0; have hfz4_1 := blk_frozen BK366.out 1; have hfz4_2 := blk_frozen BK366.out 2)); try go_wp2_with (first | ((with_reducible refine gate_dst (N := 1) rfl ?_); refine box_event ?hg (N := 1) ?hd (cs := #[.int .i64 a0_0, .int .i64 a0_1, .string a0_2]) (t := 23) ?hr ?_; (case hd => rfl); (case hg => rfl); (case hr => first | (go_simp; done) | (go_simp; rfl)); intro gb366 hg w3 hbox hb; have n0_ := Aside0.mk (below_step q0_ hb); have n1_ := Aside0.mk (hbox); have n2_ := Aside0.mk ((q1_ : w.heap.size ≤ gb366)); have n3_ := Aside0.mk ((q1_ : w.heap.size ≤ gb366)); clear HB; have HB := n0_; have BK366 := n1_; have GW366 := n2_; have GE366 := n3_; clear n0_ n1_ n2_ n3_; clear hb hbox hg; have hcz4_0 : w3.cell? ⟨gb366, 0, none⟩ = some (.int .i64 a0_0) := (blk_cell BK366.out 0).trans rfl; have hcz4_1 : w3.cell? ⟨gb366, 1, none⟩ = some (.int .i64 a0_1) := (blk_cell BK366.out 1).trans rfl; have hcz4_2 : w3.cell? ⟨gb366, 2, none⟩ = some (.string a0_2) := (blk_cell BK366.out 2).trans rfl; have hfz4_0 := blk_frozen BK366.out 0; have hfz4_1 := blk_frozen BK366.out 1; have hfz4_2 := blk_frozen BK366.out 2)))
    go_ret
    exact ⟨q13_, q0_⟩
  · rw [if_neg c2] at H
    have c2b0 : (a0_0 == 0) = false := beq_eq_false_iff_ne.mpr c2
    have c2b1 : (a0_0 != 0) = true := bne_iff_ne.mpr c2
    by_cases c5 : a0_0 = 1
    · rw [if_pos c5] at H
      have c5b0 : (a0_0 == 1) = true := beq_iff_eq.mpr c5
      have c5b1 : (a0_0 != 1) = false := bne_eq_false_iff_eq.mpr c5
      clear c5
      by_cases c6 : a0_1 = 1
      · rw [if_pos c6] at H
        have c6b0 : (a0_1 == 1) = true := beq_iff_eq.mpr c6
        have c6b1 : (a0_1 != 1) = false := bne_eq_false_iff_eq.mpr c6
        clear c6
        obtain rfl := Option.some.inj H
        go_enter Tryd.func24, Tryd.ntmps24
        go_wp2_with (first | ((with_reducible refine gate_dst (N := 1) rfl ?_); refine box_event ?hg (N := 1) ?hd (cs := #[.int .i64 a0_0, .int .i64 a0_1, .string a0_2]) (t := 23) ?hr ?_; (case hd => rfl); (case hg => rfl); (case hr => first | (go_simp; done) | (go_simp; rfl)); intro gb366 hg w7 hbox hb; have n0_ := Aside0.mk (below_step q0_ hb); have n1_ := Aside0.mk (hbox); have n2_ := Aside0.mk ((q1_ : w.heap.size ≤ gb366)); have n3_ := Aside0.mk ((q1_ : w.heap.size ≤ gb366)); clear HB; have HB := n0_; have BK366 := n1_; have GW366 := n2_; have GE366 := n3_; clear n0_ n1_ n2_ n3_; clear hb hbox hg; have hcz8_0 : w7.cell? ⟨gb366, 0, none⟩ = some (.int .i64 a0_0) := (blk_cell BK366.out 0).trans rfl; have hcz8_1 : w7.cell? ⟨gb366, 1, none⟩ = some (.int .i64 a0_1) := (blk_cell BK366.out 1).trans rfl; have hcz8_2 : w7.cell? ⟨gb366, 2, none⟩ = some (.string a0_2) := (blk_cell BK366.out 2).trans rfl; have hfz8_0 := blk_frozen BK366.out 0; have hfz8_1 := blk_frozen BK366.out 1; have hfz8_2 := blk_frozen BK366.out 2))
        repeat (go_quiet (first | ((with_reducible refine gate_dst (N := 1) rfl ?_); refine box_event ?hg (N := 1) ?hd (cs := #[.int .i64 a0_0, .int .i64 a0_1, .string a0_2]) (t := 23) ?hr ?_; (case hd => rfl); (case hg => rfl); (case hr => first | (go_simp; done) | (go_simp; rfl)); intro gb366 hg w7 hbox hb; have n0_ := Aside0.mk (below_step q0_ hb); have n1_ := Aside0.mk (hbox); have n2_ := Aside0.mk ((q1_ : w.heap.size ≤ gb366)); have n3_ := Aside0.mk ((q1_ : w.heap.size ≤ gb366)); clear HB; have HB := n0_; have BK366 := n1_; have GW366 := n2_; have GE366 := n3_; clear n0_ n1_ n2_ n3_; clear hb hbox hg; have hcz8_0 : w7.cell? ⟨gb366, 0, none⟩ = some (.int .i64 a0_0) := (blk_cell BK366.out 0).trans rfl; have hcz8_1 : w7.cell? ⟨gb366, 1, none⟩ = some (.int .i64 a0_1) := (blk_cell BK366.out 1).trans rfl; have hcz8_2 : w7.cell? ⟨gb366, 2, none⟩ = some (.string a0_2) := (blk_cell BK366.out 2).trans rfl; have hfz8_0 := blk_frozen BK366.out 0; have hfz8_1 := blk_frozen BK366.out 1; have hfz8_2 := blk_frozen BK366.out 2)); try go_wp2_with (first | ((with_reducible refine gate_dst (N := 1) rfl ?_); refine box_event ?hg (N := 1) ?hd (cs := #[.int .i64 a0_0, .int .i64 a0_1, .string a0_2]) (t := 23) ?hr ?_; (case hd => rfl); (case hg => rfl); (case hr => first | (go_simp; done) | (go_simp; rfl)); intro gb366 hg w7 hbox hb; have n0_ := Aside0.mk (below_step q0_ hb); have n1_ := Aside0.mk (hbox); have n2_ := Aside0.mk ((q1_ : w.heap.size ≤ gb366)); have n3_ := Aside0.mk ((q1_ : w.heap.size ≤ gb366)); clear HB; have HB := n0_; have BK366 := n1_; have GW366 := n2_; have GE366 := n3_; clear n0_ n1_ n2_ n3_; clear hb hbox hg; have hcz8_0 : w7.cell? ⟨gb366, 0, none⟩ = some (.int .i64 a0_0) := (blk_cell BK366.out 0).trans rfl; have hcz8_1 : w7.cell? ⟨gb366, 1, none⟩ = some (.int .i64 a0_1) := (blk_cell BK366.out 1).trans rfl; have hcz8_2 : w7.cell? ⟨gb366, 2, none⟩ = some (.string a0_2) := (blk_cell BK366.out 2).trans rfl; have hfz8_0 := blk_frozen BK366.out 0; have hfz8_1 := blk_frozen BK366.out 1; have hfz8_2 := blk_frozen BK366.out 2)))
        go_ret
        exact ⟨q13_, q0_⟩
      · rw [if_neg c6] at H
        have c6b0 : (a0_1 == 1) = false := beq_eq_false_iff_ne.mpr c6
        have c6b1 : (a0_1 != 1) = true := bne_iff_ne.mpr c6
        obtain rfl := Option.some.inj H
        go_enter Tryd.func24, Tryd.ntmps24
        go_wp2_with (first | ((with_reducible refine gate_dst (N := 1) rfl ?_); refine box_event ?hg (N := 1) ?hd (cs := #[.int .i64 a0_0, .int .i64 a0_1, .string a0_2]) (t := 23) ?hr ?_; (case hd => rfl); (case hg => rfl); (case hr => first | (go_simp; done) | (go_simp; rfl)); intro gb366 hg w9 hbox hb; have n0_ := Aside0.mk (below_step q0_ hb); have n1_ := Aside0.mk (hbox); have n2_ := Aside0.mk ((q1_ : w.heap.size ≤ gb366)); have n3_ := Aside0.mk ((q1_ : w.heap.size ≤ gb366)); clear HB; have HB := n0_; have BK366 := n1_; have GW366 := n2_; have GE366 := n3_; clear n0_ n1_ n2_ n3_; clear hb hbox hg; have hcz10_0 : w9.cell? ⟨gb366, 0, none⟩ = some (.int .i64 a0_0) := (blk_cell BK366.out 0).trans rfl; have hcz10_1 : w9.cell? ⟨gb366, 1, none⟩ = some (.int .i64 a0_1) := (blk_cell BK366.out 1).trans rfl; have hcz10_2 : w9.cell? ⟨gb366, 2, none⟩ = some (.string a0_2) := (blk_cell BK366.out 2).trans rfl; have hfz10_0 := blk_frozen BK366.out 0; have hfz10_1 := blk_frozen BK366.out 1; have hfz10_2 := blk_frozen BK366.out 2))
        repeat (go_quiet (first | ((with_reducible refine gate_dst (N := 1) rfl ?_); refine box_event ?hg (N := 1) ?hd (cs := #[.int .i64 a0_0, .int .i64 a0_1, .string a0_2]) (t := 23) ?hr ?_; (case hd => rfl); (case hg => rfl); (case hr => first | (go_simp; done) | (go_simp; rfl)); intro gb366 hg w9 hbox hb; have n0_ := Aside0.mk (below_step q0_ hb); have n1_ := Aside0.mk (hbox); have n2_ := Aside0.mk ((q1_ : w.heap.size ≤ gb366)); have n3_ := Aside0.mk ((q1_ : w.heap.size ≤ gb366)); clear HB; have HB := n0_; have BK366 := n1_; have GW366 := n2_; have GE366 := n3_; clear n0_ n1_ n2_ n3_; clear hb hbox hg; have hcz10_0 : w9.cell? ⟨gb366, 0, none⟩ = some (.int .i64 a0_0) := (blk_cell BK366.out 0).trans rfl; have hcz10_1 : w9.cell? ⟨gb366, 1, none⟩ = some (.int .i64 a0_1) := (blk_cell BK366.out 1).trans rfl; have hcz10_2 : w9.cell? ⟨gb366, 2, none⟩ = some (.string a0_2) := (blk_cell BK366.out 2).trans rfl; have hfz10_0 := blk_frozen BK366.out 0; have hfz10_1 := blk_frozen BK366.out 1; have hfz10_2 := blk_frozen BK366.out 2)); try go_wp2_with (first | ((with_reducible refine gate_dst (N := 1) rfl ?_); refine box_event ?hg (N := 1) ?hd (cs := #[.int .i64 a0_0, .int .i64 a0_1, .string a0_2]) (t := 23) ?hr ?_; (case hd => rfl); (case hg => rfl); (case hr => first | (go_simp; done) | (go_simp; rfl)); intro gb366 hg w9 hbox hb; have n0_ := Aside0.mk (below_step q0_ hb); have n1_ := Aside0.mk (hbox); have n2_ := Aside0.mk ((q1_ : w.heap.size ≤ gb366)); have n3_ := Aside0.mk ((q1_ : w.heap.size ≤ gb366)); clear HB; have HB := n0_; have BK366 := n1_; have GW366 := n2_; have GE366 := n3_; clear n0_ n1_ n2_ n3_; clear hb hbox hg; have hcz10_0 : w9.cell? ⟨gb366, 0, none⟩ = some (.int .i64 a0_0) := (blk_cell BK366.out 0).trans rfl; have hcz10_1 : w9.cell? ⟨gb366, 1, none⟩ = some (.int .i64 a0_1) := (blk_cell BK366.out 1).trans rfl; have hcz10_2 : w9.cell? ⟨gb366, 2, none⟩ = some (.string a0_2) := (blk_cell BK366.out 2).trans rfl; have hfz10_0 := blk_frozen BK366.out 0; have hfz10_1 := blk_frozen BK366.out 1; have hfz10_2 := blk_frozen BK366.out 2)))
        go_ret
        exact ⟨q13_, q0_⟩
    · rw [if_neg c5] at H
      have c5b0 : (a0_0 == 1) = false := beq_eq_false_iff_ne.mpr c5
      have c5b1 : (a0_0 != 1) = true := bne_iff_ne.mpr c5
      by_cases c11 : a0_0 = 2
      · rw [if_pos c11] at H
        have c11b0 : (a0_0 == 2) = true := beq_iff_eq.mpr c11
        have c11b1 : (a0_0 != 2) = false := bne_eq_false_iff_eq.mpr c11
        clear c11
        replace H := Option.bind_eq_some_iff.mp H
        obtain ⟨t367, A120, H⟩ := H
        replace H : (some t367) = some r := H
        have A12 := Aside0.mk A120
        clear A120
        obtain rfl := Option.some.inj H
        go_enter Tryd.func24, Tryd.ntmps24
        go_wp2_with (first | ((with_reducible refine gate_dst (N := 1) rfl ?_); refine box_event ?hg (N := 1) ?hd (cs := #[.int .i64 a0_0, .int .i64 a0_1, .string a0_2]) (t := 23) ?hr ?_; (case hd => rfl); (case hg => rfl); (case hr => first | (go_simp; done) | (go_simp; rfl)); intro gb366 hg w13 hbox hb; have n0_ := Aside0.mk (below_step q0_ hb); have n1_ := Aside0.mk (hbox); have n2_ := Aside0.mk ((q1_ : w.heap.size ≤ gb366)); have n3_ := Aside0.mk ((q1_ : w.heap.size ≤ gb366)); clear HB; have HB := n0_; have BK366 := n1_; have GW366 := n2_; have GE366 := n3_; clear n0_ n1_ n2_ n3_; clear hb hbox hg; have hcz14_0 : w13.cell? ⟨gb366, 0, none⟩ = some (.int .i64 a0_0) := (blk_cell BK366.out 0).trans rfl; have hcz14_1 : w13.cell? ⟨gb366, 1, none⟩ = some (.int .i64 a0_1) := (blk_cell BK366.out 1).trans rfl; have hcz14_2 : w13.cell? ⟨gb366, 2, none⟩ = some (.string a0_2) := (blk_cell BK366.out 2).trans rfl; have hfz14_0 := blk_frozen BK366.out 0; have hfz14_1 := blk_frozen BK366.out 1; have hfz14_2 := blk_frozen BK366.out 2) | (go_at_call 44; (with_reducible refine (corollaryref01_Digits.calls k a0_1 t367 _ A12.out).mono ?_); rintro e w15 ⟨rfl, hb⟩; have n0_ := Aside0.mk (blk_below (g := gb366) (o := .cells #[.int .i64 a0_0, .int .i64 a0_1, .string a0_2] 23 (0, 0)) q167_ hb); have n1_ := Aside0.mk (below_step q0_ hb); clear BK366; clear HB; have BK366 := n0_; have HB := n1_; clear n0_ n1_; (try clear hb); (try clear hb2); (try clear hk); (try clear hi)))
        repeat (go_quiet (first | ((with_reducible refine gate_dst (N := 1) rfl ?_); refine box_event ?hg (N := 1) ?hd (cs := #[.int .i64 a0_0, .int .i64 a0_1, .string a0_2]) (t := 23) ?hr ?_; (case hd => rfl); (case hg => rfl); (case hr => first | (go_simp; done) | (go_simp; rfl)); intro gb366 hg w13 hbox hb; have n0_ := Aside0.mk (below_step q0_ hb); have n1_ := Aside0.mk (hbox); have n2_ := Aside0.mk ((q1_ : w.heap.size ≤ gb366)); have n3_ := Aside0.mk ((q1_ : w.heap.size ≤ gb366)); clear HB; have HB := n0_; have BK366 := n1_; have GW366 := n2_; have GE366 := n3_; clear n0_ n1_ n2_ n3_; clear hb hbox hg; have hcz14_0 : w13.cell? ⟨gb366, 0, none⟩ = some (.int .i64 a0_0) := (blk_cell BK366.out 0).trans rfl; have hcz14_1 : w13.cell? ⟨gb366, 1, none⟩ = some (.int .i64 a0_1) := (blk_cell BK366.out 1).trans rfl; have hcz14_2 : w13.cell? ⟨gb366, 2, none⟩ = some (.string a0_2) := (blk_cell BK366.out 2).trans rfl; have hfz14_0 := blk_frozen BK366.out 0; have hfz14_1 := blk_frozen BK366.out 1; have hfz14_2 := blk_frozen BK366.out 2) | (go_at_call 44; (with_reducible refine (corollaryref01_Digits.calls k a0_1 t367 _ A12.out).mono ?_); rintro e w15 ⟨rfl, hb⟩; have n0_ := Aside0.mk (blk_below (g := gb366) (o := .cells #[.int .i64 a0_0, .int .i64 a0_1, .string a0_2] 23 (0, 0)) q167_ hb); have n1_ := Aside0.mk (below_step q0_ hb); clear BK366; clear HB; have BK366 := n0_; have HB := n1_; clear n0_ n1_; (try clear hb); (try clear hb2); (try clear hk); (try clear hi))); try go_wp2_with (first | ((with_reducible refine gate_dst (N := 1) rfl ?_); refine box_event ?hg (N := 1) ?hd (cs := #[.int .i64 a0_0, .int .i64 a0_1, .string a0_2]) (t := 23) ?hr ?_; (case hd => rfl); (case hg => rfl); (case hr => first | (go_simp; done) | (go_simp; rfl)); intro gb366 hg w13 hbox hb; have n0_ := Aside0.mk (below_step q0_ hb); have n1_ := Aside0.mk (hbox); have n2_ := Aside0.mk ((q1_ : w.heap.size ≤ gb366)); have n3_ := Aside0.mk ((q1_ : w.heap.size ≤ gb366)); clear HB; have HB := n0_; have BK366 := n1_; have GW366 := n2_; have GE366 := n3_; clear n0_ n1_ n2_ n3_; clear hb hbox hg; have hcz14_0 : w13.cell? ⟨gb366, 0, none⟩ = some (.int .i64 a0_0) := (blk_cell BK366.out 0).trans rfl; have hcz14_1 : w13.cell? ⟨gb366, 1, none⟩ = some (.int .i64 a0_1) := (blk_cell BK366.out 1).trans rfl; have hcz14_2 : w13.cell? ⟨gb366, 2, none⟩ = some (.string a0_2) := (blk_cell BK366.out 2).trans rfl; have hfz14_0 := blk_frozen BK366.out 0; have hfz14_1 := blk_frozen BK366.out 1; have hfz14_2 := blk_frozen BK366.out 2) | (go_at_call 44; (with_reducible refine (corollaryref01_Digits.calls k a0_1 t367 _ A12.out).mono ?_); rintro e w15 ⟨rfl, hb⟩; have n0_ := Aside0.mk (blk_below (g := gb366) (o := .cells #[.int .i64 a0_0, .int .i64 a0_1, .string a0_2] 23 (0, 0)) q167_ hb); have n1_ := Aside0.mk (below_step q0_ hb); clear BK366; clear HB; have BK366 := n0_; have HB := n1_; clear n0_ n1_; (try clear hb); (try clear hb2); (try clear hk); (try clear hi))))
        go_ret
        exact ⟨q13_, q0_⟩
      · rw [if_neg c11] at H
        have c11b0 : (a0_0 == 2) = false := beq_eq_false_iff_ne.mpr c11
        have c11b1 : (a0_0 != 2) = true := bne_iff_ne.mpr c11
        have H' := Aside0.mk H
        clear H
        go_enter Tryd.func24, Tryd.ntmps24
        go_wp2_with (first | ((with_reducible refine gate_dst (N := 1) rfl ?_); refine box_event ?hg (N := 1) ?hd (cs := #[.int .i64 a0_0, .int .i64 a0_1, .string a0_2]) (t := 23) ?hr ?_; (case hd => rfl); (case hg => rfl); (case hr => first | (go_simp; done) | (go_simp; rfl)); intro gb366 hg w16 hbox hb; have n0_ := Aside0.mk (below_step q0_ hb); have n1_ := Aside0.mk (hbox); have n2_ := Aside0.mk ((q1_ : w.heap.size ≤ gb366)); have n3_ := Aside0.mk ((q1_ : w.heap.size ≤ gb366)); clear HB; have HB := n0_; have BK366 := n1_; have GW366 := n2_; have GE366 := n3_; clear n0_ n1_ n2_ n3_; clear hb hbox hg; have hcz17_0 : w16.cell? ⟨gb366, 0, none⟩ = some (.int .i64 a0_0) := (blk_cell BK366.out 0).trans rfl; have hcz17_1 : w16.cell? ⟨gb366, 1, none⟩ = some (.int .i64 a0_1) := (blk_cell BK366.out 1).trans rfl; have hcz17_2 : w16.cell? ⟨gb366, 2, none⟩ = some (.string a0_2) := (blk_cell BK366.out 2).trans rfl; have hfz17_0 := blk_frozen BK366.out 0; have hfz17_1 := blk_frozen BK366.out 1; have hfz17_2 := blk_frozen BK366.out 2))
        repeat (go_quiet (first | ((with_reducible refine gate_dst (N := 1) rfl ?_); refine box_event ?hg (N := 1) ?hd (cs := #[.int .i64 a0_0, .int .i64 a0_1, .string a0_2]) (t := 23) ?hr ?_; (case hd => rfl); (case hg => rfl); (case hr => first | (go_simp; done) | (go_simp; rfl)); intro gb366 hg w16 hbox hb; have n0_ := Aside0.mk (below_step q0_ hb); have n1_ := Aside0.mk (hbox); have n2_ := Aside0.mk ((q1_ : w.heap.size ≤ gb366)); have n3_ := Aside0.mk ((q1_ : w.heap.size ≤ gb366)); clear HB; have HB := n0_; have BK366 := n1_; have GW366 := n2_; have GE366 := n3_; clear n0_ n1_ n2_ n3_; clear hb hbox hg; have hcz17_0 : w16.cell? ⟨gb366, 0, none⟩ = some (.int .i64 a0_0) := (blk_cell BK366.out 0).trans rfl; have hcz17_1 : w16.cell? ⟨gb366, 1, none⟩ = some (.int .i64 a0_1) := (blk_cell BK366.out 1).trans rfl; have hcz17_2 : w16.cell? ⟨gb366, 2, none⟩ = some (.string a0_2) := (blk_cell BK366.out 2).trans rfl; have hfz17_0 := blk_frozen BK366.out 0; have hfz17_1 := blk_frozen BK366.out 1; have hfz17_2 := blk_frozen BK366.out 2)); try go_wp2_with (first | ((with_reducible refine gate_dst (N := 1) rfl ?_); refine box_event ?hg (N := 1) ?hd (cs := #[.int .i64 a0_0, .int .i64 a0_1, .string a0_2]) (t := 23) ?hr ?_; (case hd => rfl); (case hg => rfl); (case hr => first | (go_simp; done) | (go_simp; rfl)); intro gb366 hg w16 hbox hb; have n0_ := Aside0.mk (below_step q0_ hb); have n1_ := Aside0.mk (hbox); have n2_ := Aside0.mk ((q1_ : w.heap.size ≤ gb366)); have n3_ := Aside0.mk ((q1_ : w.heap.size ≤ gb366)); clear HB; have HB := n0_; have BK366 := n1_; have GW366 := n2_; have GE366 := n3_; clear n0_ n1_ n2_ n3_; clear hb hbox hg; have hcz17_0 : w16.cell? ⟨gb366, 0, none⟩ = some (.int .i64 a0_0) := (blk_cell BK366.out 0).trans rfl; have hcz17_1 : w16.cell? ⟨gb366, 1, none⟩ = some (.int .i64 a0_1) := (blk_cell BK366.out 1).trans rfl; have hcz17_2 : w16.cell? ⟨gb366, 2, none⟩ = some (.string a0_2) := (blk_cell BK366.out 2).trans rfl; have hfz17_0 := blk_frozen BK366.out 0; have hfz17_1 := blk_frozen BK366.out 1; have hfz17_2 := blk_frozen BK366.out 2)))
        go_loopg [4, 5] k (fun kq v4 v5 w' => ∃ (x4_1 : ByteArray) (x5_1 : Int), v4 = .string x4_1 ∧ v5 = .int .i64 x5_1 ∧ Aside0 (corollaryref01_Show.l0 kq (⟨#[48, 49, 50, 51, 52, 53, 54, 55, 56, 57, 97, 98, 99, 100, 101, 102]⟩ : ByteArray) x4_1 x5_1 a0_0 a0_1 a0_2 = some r) ∧ Aside0 (kq ≤ k) ∧ Aside0 (w'.heap[gb366]? = some (.cells #[.int .i64 a0_0, .int .i64 a0_1, .string a0_2] 23 (0, 0))) ∧ Aside0 (Below w.heap.size w w'))
        case atStart => exact ⟨((⟨#[39]⟩ : ByteArray)), (0), q20_, q20_, H', ⟨Nat.le_refl _⟩, ⟨q167_⟩, ⟨q0_⟩⟩
        case round =>
          clear H'
          try clear c1
          try clear c2
          try clear c2b0
          try clear c2b1
          try clear p2
          try clear c5
          try clear c5b0
          try clear c5b1
          try clear c6
          try clear c6b0
          try clear c6b1
          try clear c11
          try clear c11b0
          try clear c11b1
          try clear hcz10_0
          try clear hcz10_1
          try clear hcz10_2
          try clear hcz14_0
          try clear hcz14_1
          try clear hcz14_2
          try clear hcz17_0
          try clear hcz17_1
          try clear hcz17_2
          try clear hcz4_0
          try clear hcz4_1
          try clear hcz4_2
          try clear hcz8_0
          try clear hcz8_1
          try clear hcz8_2
          try clear hfz10_0
          try clear hfz10_1
          try clear hfz10_2
          try clear hfz14_0
          try clear hfz14_1
          try clear hfz14_2
          try clear hfz17_0
          try clear hfz17_1
          try clear hfz17_2
          try clear hfz4_0
          try clear hfz4_1
          try clear hfz4_2
          try clear hfz8_0
          try clear hfz8_1
          try clear hfz8_2
          obtain ⟨x4_1, x5_1, rfl, rfl, HA, HK1, BK366, HB⟩ := hrel
          cases gk with
          | zero => exact absurd HA.out (by simp [corollaryref01_Show.l0])
          | succ k1 =>
            have H := HA.out
            clear HA
            simp only [corollaryref01_Show.l0] at H
            by_cases c18 : x5_1 < (a0_2.size : Int)
            · rw [if_pos c18] at H
              have c18b0 : decide (x5_1 < (a0_2.size : Int)) = true := decide_eq_true c18
              clear c18
              by_cases c19 : 0 ≤ x5_1
              · rw [if_pos c19] at H
                have c19b0 : decide (0 ≤ x5_1) = true := decide_eq_true c19
                clear c19
                by_cases c21 : a0_0 = 4
                · rw [if_pos c21] at H
                  have c21b0 : (a0_0 == 4) = true := beq_iff_eq.mpr c21
                  have c21b1 : (a0_0 != 4) = false := bne_eq_false_iff_eq.mpr c21
                  clear c21
                  obtain ⟨ji22, hji22⟩ : ∃ j_ : Int, ((Int.tdiv (bt a0_2 x5_1) 16) % 256) = j_ := ⟨_, rfl⟩
                  replace H : (if 0 ≤ (ji22) then (if (ji22) ≤ (((ji22) + 1) % 256) then (if (((ji22) + 1) % 256) ≤ ((⟨#[48, 49, 50, 51, 52, 53, 54, 55, 56, 57, 97, 98, 99, 100, 101, 102]⟩ : ByteArray).size : Int) then (if x4_1.size + ((⟨#[48, 49, 50, 51, 52, 53, 54, 55, 56, 57, 97, 98, 99, 100, 101, 102]⟩ : ByteArray).extract ((ji22) : Int).toNat ((((ji22) + 1) % 256) : Int).toNat).size ≤ 9223372036854775807 then (if 0 ≤ (Int.tmod (bt a0_2 x5_1) 16) then (if (Int.tmod (bt a0_2 x5_1) 16) ≤ (((Int.tmod (bt a0_2 x5_1) 16) + 1) % 256) then (if (((Int.tmod (bt a0_2 x5_1) 16) + 1) % 256) ≤ ((⟨#[48, 49, 50, 51, 52, 53, 54, 55, 56, 57, 97, 98, 99, 100, 101, 102]⟩ : ByteArray).size : Int) then (if (x4_1 ++ ((⟨#[48, 49, 50, 51, 52, 53, 54, 55, 56, 57, 97, 98, 99, 100, 101, 102]⟩ : ByteArray).extract ((ji22) : Int).toNat ((((ji22) + 1) % 256) : Int).toNat)).size + ((⟨#[48, 49, 50, 51, 52, 53, 54, 55, 56, 57, 97, 98, 99, 100, 101, 102]⟩ : ByteArray).extract ((Int.tmod (bt a0_2 x5_1) 16) : Int).toNat ((((Int.tmod (bt a0_2 x5_1) 16) + 1) % 256) : Int).toNat).size ≤ 9223372036854775807 then (corollaryref01_Show.l0 k1 (⟨#[48, 49, 50, 51, 52, 53, 54, 55, 56, 57, 97, 98, 99, 100, 101, 102]⟩ : ByteArray) ((x4_1 ++ ((⟨#[48, 49, 50, 51, 52, 53, 54, 55, 56, 57, 97, 98, 99, 100, 101, 102]⟩ : ByteArray).extract ((ji22) : Int).toNat ((((ji22) + 1) % 256) : Int).toNat)) ++ ((⟨#[48, 49, 50, 51, 52, 53, 54, 55, 56, 57, 97, 98, 99, 100, 101, 102]⟩ : ByteArray).extract ((Int.tmod (bt a0_2 x5_1) 16) : Int).toNat ((((Int.tmod (bt a0_2 x5_1) 16) + 1) % 256) : Int).toNat)) (wrap64 (x5_1 + 1)) a0_0 a0_1 a0_2) else (none)) else (none)) else (none)) else (none)) else (none)) else (none)) else (none)) else (none)) = some r := by first | (rw [hji22] at H; exact H) | (simp only [hji22] at H ⊢; exact H)
                  by_cases c23 : 0 ≤ (ji22)
                  · rw [if_pos c23] at H
                    have c23b0 := eq_true c23
                    have c23b1 : decide (0 ≤ (ji22)) = true := decide_eq_true c23
                    clear c23
                    by_cases c24 : (ji22) ≤ (((ji22) + 1) % 256)
                    · rw [if_pos c24] at H
                      have c24b0 := eq_true c24
                      have c24b1 : decide ((ji22) ≤ (((ji22) + 1) % 256)) = true := decide_eq_true c24
                      by_cases c25 : (((ji22) + 1) % 256) ≤ ((⟨#[48, 49, 50, 51, 52, 53, 54, 55, 56, 57, 97, 98, 99, 100, 101, 102]⟩ : ByteArray).size : Int)
                      · rw [if_pos c25] at H
                        have c25b0 := eq_true c25
                        have c25b1 : decide ((((ji22) + 1) % 256) ≤ ((⟨#[48, 49, 50, 51, 52, 53, 54, 55, 56, 57, 97, 98, 99, 100, 101, 102]⟩ : ByteArray).size : Int)) = true := decide_eq_true c25
                        by_cases c26 : x4_1.size + ((⟨#[48, 49, 50, 51, 52, 53, 54, 55, 56, 57, 97, 98, 99, 100, 101, 102]⟩ : ByteArray).extract ((ji22) : Int).toNat ((((ji22) + 1) % 256) : Int).toNat).size ≤ 9223372036854775807
                        · rw [if_pos c26] at H
                          have c26b0 := eq_true c26
                          have c26b1 : decide (x4_1.size + ((⟨#[48, 49, 50, 51, 52, 53, 54, 55, 56, 57, 97, 98, 99, 100, 101, 102]⟩ : ByteArray).extract ((ji22) : Int).toNat ((((ji22) + 1) % 256) : Int).toNat).size ≤ 9223372036854775807) = true := decide_eq_true c26
                          try have c26b2 : (9223372036854775807 < x4_1.size + ((⟨#[48, 49, 50, 51, 52, 53, 54, 55, 56, 57, 97, 98, 99, 100, 101, 102]⟩ : ByteArray).extract ((ji22) : Int).toNat ((((ji22) + 1) % 256) : Int).toNat).size) = False := eq_false (Nat.not_lt.2 c26)
                          (try (have c26b5 : (9223372036854775807 < x4_1.size + (((((ji22) + 1) % 256) : Int).toNat - ((ji22) : Int).toNat)) = False := eq_false (by have hq_ := c26; (try simp only [ByteArray.size_append, ByteArray.size_extract] at hq_); first | omega | (simp only [decide_eq_true_eq] at *; omega))))
                          obtain ⟨ji27, hji27⟩ : ∃ j_ : Int, (Int.tmod (bt a0_2 x5_1) 16) = j_ := ⟨_, rfl⟩
                          replace H : (if 0 ≤ (ji27) then (if (ji27) ≤ (((ji27) + 1) % 256) then (if (((ji27) + 1) % 256) ≤ ((⟨#[48, 49, 50, 51, 52, 53, 54, 55, 56, 57, 97, 98, 99, 100, 101, 102]⟩ : ByteArray).size : Int) then (if (x4_1 ++ ((⟨#[48, 49, 50, 51, 52, 53, 54, 55, 56, 57, 97, 98, 99, 100, 101, 102]⟩ : ByteArray).extract ((ji22) : Int).toNat ((((ji22) + 1) % 256) : Int).toNat)).size + ((⟨#[48, 49, 50, 51, 52, 53, 54, 55, 56, 57, 97, 98, 99, 100, 101, 102]⟩ : ByteArray).extract ((ji27) : Int).toNat ((((ji27) + 1) % 256) : Int).toNat).size ≤ 9223372036854775807 then (corollaryref01_Show.l0 k1 (⟨#[48, 49, 50, 51, 52, 53, 54, 55, 56, 57, 97, 98, 99, 100, 101, 102]⟩ : ByteArray) ((x4_1 ++ ((⟨#[48, 49, 50, 51, 52, 53, 54, 55, 56, 57, 97, 98, 99, 100, 101, 102]⟩ : ByteArray).extract ((ji22) : Int).toNat ((((ji22) + 1) % 256) : Int).toNat)) ++ ((⟨#[48, 49, 50, 51, 52, 53, 54, 55, 56, 57, 97, 98, 99, 100, 101, 102]⟩ : ByteArray).extract ((ji27) : Int).toNat ((((ji27) + 1) % 256) : Int).toNat)) (wrap64 (x5_1 + 1)) a0_0 a0_1 a0_2) else (none)) else (none)) else (none)) else (none)) = some r := by first | (rw [hji27] at H; exact H) | (simp only [hji27] at H ⊢; exact H)
                          by_cases c28 : 0 ≤ (ji27)
                          · rw [if_pos c28] at H
                            have c28b0 := eq_true c28
                            have c28b1 : decide (0 ≤ (ji27)) = true := decide_eq_true c28
                            clear c28
                            by_cases c29 : (ji27) ≤ (((ji27) + 1) % 256)
                            · rw [if_pos c29] at H
                              have c29b0 := eq_true c29
                              have c29b1 : decide ((ji27) ≤ (((ji27) + 1) % 256)) = true := decide_eq_true c29
                              by_cases c30 : (((ji27) + 1) % 256) ≤ ((⟨#[48, 49, 50, 51, 52, 53, 54, 55, 56, 57, 97, 98, 99, 100, 101, 102]⟩ : ByteArray).size : Int)
                              · rw [if_pos c30] at H
                                have c30b0 := eq_true c30
                                have c30b1 : decide ((((ji27) + 1) % 256) ≤ ((⟨#[48, 49, 50, 51, 52, 53, 54, 55, 56, 57, 97, 98, 99, 100, 101, 102]⟩ : ByteArray).size : Int)) = true := decide_eq_true c30
                                by_cases c31 : (x4_1 ++ ((⟨#[48, 49, 50, 51, 52, 53, 54, 55, 56, 57, 97, 98, 99, 100, 101, 102]⟩ : ByteArray).extract ((ji22) : Int).toNat ((((ji22) + 1) % 256) : Int).toNat)).size + ((⟨#[48, 49, 50, 51, 52, 53, 54, 55, 56, 57, 97, 98, 99, 100, 101, 102]⟩ : ByteArray).extract ((ji27) : Int).toNat ((((ji27) + 1) % 256) : Int).toNat).size ≤ 9223372036854775807
                                · rw [if_pos c31] at H
                                  have c31b0 := eq_true c31
                                  have c31b1 : decide ((x4_1 ++ ((⟨#[48, 49, 50, 51, 52, 53, 54, 55, 56, 57, 97, 98, 99, 100, 101, 102]⟩ : ByteArray).extract ((ji22) : Int).toNat ((((ji22) + 1) % 256) : Int).toNat)).size + ((⟨#[48, 49, 50, 51, 52, 53, 54, 55, 56, 57, 97, 98, 99, 100, 101, 102]⟩ : ByteArray).extract ((ji27) : Int).toNat ((((ji27) + 1) % 256) : Int).toNat).size ≤ 9223372036854775807) = true := decide_eq_true c31
                                  try have c31b2 : (9223372036854775807 < (x4_1 ++ ((⟨#[48, 49, 50, 51, 52, 53, 54, 55, 56, 57, 97, 98, 99, 100, 101, 102]⟩ : ByteArray).extract ((ji22) : Int).toNat ((((ji22) + 1) % 256) : Int).toNat)).size + ((⟨#[48, 49, 50, 51, 52, 53, 54, 55, 56, 57, 97, 98, 99, 100, 101, 102]⟩ : ByteArray).extract ((ji27) : Int).toNat ((((ji27) + 1) % 256) : Int).toNat).size) = False := eq_false (Nat.not_lt.2 c31)
                                  (try (have c31b3 : x4_1.size + ((⟨#[48, 49, 50, 51, 52, 53, 54, 55, 56, 57, 97, 98, 99, 100, 101, 102]⟩ : ByteArray).extract ((ji22) : Int).toNat ((((ji22) + 1) % 256) : Int).toNat).size + ((⟨#[48, 49, 50, 51, 52, 53, 54, 55, 56, 57, 97, 98, 99, 100, 101, 102]⟩ : ByteArray).extract ((ji27) : Int).toNat ((((ji27) + 1) % 256) : Int).toNat).size ≤ 9223372036854775807 := by first | (have hq_ := c31; simp only [ByteArray.size_append] at hq_; exact hq_) | simpa [ByteArray.size_append] using c31))
                                  (try (have c31b4 : (9223372036854775807 < x4_1.size + ((⟨#[48, 49, 50, 51, 52, 53, 54, 55, 56, 57, 97, 98, 99, 100, 101, 102]⟩ : ByteArray).extract ((ji22) : Int).toNat ((((ji22) + 1) % 256) : Int).toNat).size + ((⟨#[48, 49, 50, 51, 52, 53, 54, 55, 56, 57, 97, 98, 99, 100, 101, 102]⟩ : ByteArray).extract ((ji27) : Int).toNat ((((ji27) + 1) % 256) : Int).toNat).size) = False := eq_false (Nat.not_lt.2 c31b3)))
                                  (try (have c31b5 : (9223372036854775807 < x4_1.size + (((((ji22) + 1) % 256) : Int).toNat - ((ji22) : Int).toNat) + (((((ji27) + 1) % 256) : Int).toNat - ((ji27) : Int).toNat)) = False := eq_false (by have hq_ := c31; (try simp only [ByteArray.size_append, ByteArray.size_extract] at hq_); first | omega | (simp only [decide_eq_true_eq] at *; omega))))
                                  have hAa : 0 ≤ ji22 := of_decide_eq_true c23b1
                                  have hBa : 0 ≤ ji27 := of_decide_eq_true c28b1
                                  have hAb : (ji22 + 1) % 256 ≤ 16 := c25
                                  have hAc : ji22 ≤ (ji22 + 1) % 256 := c24
                                  have eA : (ji22 + 1) % 256 = ji22 + 1 := by omega
                                  have hBb : (ji27 + 1) % 256 ≤ 16 := c30
                                  have hBc : ji27 ≤ (ji27 + 1) % 256 := c29
                                  have eB : (ji27 + 1) % 256 = ji27 + 1 := by omega
                                  have hS1 := c26
                                  have hS2 := c31
                                  simp only [eA, eB] at H hS1 hS2 hAb hBb
                                  (try clear c24)
                                  (try clear c24b0)
                                  (try clear c24b1)
                                  (try clear c24b2)
                                  (try clear c24b3)
                                  (try clear c24b4)
                                  (try clear c24b5)
                                  (try clear c25)
                                  (try clear c25b0)
                                  (try clear c25b1)
                                  (try clear c25b2)
                                  (try clear c25b3)
                                  (try clear c25b4)
                                  (try clear c25b5)
                                  (try clear c29)
                                  (try clear c29b0)
                                  (try clear c29b1)
                                  (try clear c29b2)
                                  (try clear c29b3)
                                  (try clear c29b4)
                                  (try clear c29b5)
                                  (try clear c30)
                                  (try clear c30b0)
                                  (try clear c30b1)
                                  (try clear c30b2)
                                  (try clear c30b3)
                                  (try clear c30b4)
                                  (try clear c30b5)
                                  (try clear c26)
                                  (try clear c26b0)
                                  (try clear c26b1)
                                  (try clear c26b2)
                                  (try clear c26b3)
                                  (try clear c26b4)
                                  (try clear c26b5)
                                  (try clear c31)
                                  (try clear c31b0)
                                  (try clear c31b1)
                                  (try clear c31b2)
                                  (try clear c31b3)
                                  (try clear c31b4)
                                  (try clear c31b5)
                                  clear hAc hBc
                                  obtain ⟨EA, hEA⟩ : ∃ e_ : ByteArray, (⟨#[48, 49, 50, 51, 52, 53, 54, 55, 56, 57, 97, 98, 99, 100, 101, 102]⟩ : ByteArray).extract ji22.toNat (ji22 + 1).toNat = e_ := ⟨_, rfl⟩
                                  have slA : ∀ w : World, (Instr.slice 9 (.string (⟨#[48, 49, 50, 51, 52, 53, 54, 55, 56, 57, 97, 98, 99, 100, 101, 102]⟩ : ByteArray)) (some (.int .u8 ji22)) (some (.int .u8 (ji22 + 1))) none).run Tryd.prog w = .ok (.string EA) w := fun w => hEA ▸ run_slice_string w 9 (⟨#[48, 49, 50, 51, 52, 53, 54, 55, 56, 57, 97, 98, 99, 100, 101, 102]⟩ : ByteArray) .u8 .u8 ji22 (ji22 + 1) Tryd.underlying9 hAa (by omega) (show ji22 + 1 ≤ ((16 : Nat) : Int) by omega)
                                  obtain ⟨EB, hEB⟩ : ∃ e_ : ByteArray, (⟨#[48, 49, 50, 51, 52, 53, 54, 55, 56, 57, 97, 98, 99, 100, 101, 102]⟩ : ByteArray).extract ji27.toNat (ji27 + 1).toNat = e_ := ⟨_, rfl⟩
                                  have slB : ∀ w : World, (Instr.slice 9 (.string (⟨#[48, 49, 50, 51, 52, 53, 54, 55, 56, 57, 97, 98, 99, 100, 101, 102]⟩ : ByteArray)) (some (.int .u8 ji27)) (some (.int .u8 (ji27 + 1))) none).run Tryd.prog w = .ok (.string EB) w := fun w => hEB ▸ run_slice_string w 9 (⟨#[48, 49, 50, 51, 52, 53, 54, 55, 56, 57, 97, 98, 99, 100, 101, 102]⟩ : ByteArray) .u8 .u8 ji27 (ji27 + 1) Tryd.underlying9 hBa (by omega) (show ji27 + 1 ≤ ((16 : Nat) : Int) by omega)
                                  rw [hEA, hEB] at H
                                  rw [hEA] at hS1 hS2
                                  rw [hEB] at hS2
                                  rw [ByteArray.size_append] at hS2
                                  clear hAb hBb
                                  have yA : (9223372036854775807 < x4_1.size + EA.size) = False := eq_false (by omega)
                                  have yB : (9223372036854775807 < x4_1.size + EA.size + EB.size) = False := eq_false (by omega)
                                  clear hEA hEB hS1 hS2
                                  have H' := Aside0.mk H
                                  clear H
                                  have hcz32_0 : wr.cell? ⟨gb366, 0, none⟩ = some (.int .i64 a0_0) := (blk_cell BK366.out 0).trans rfl
                                  have hcz32_1 : wr.cell? ⟨gb366, 1, none⟩ = some (.int .i64 a0_1) := (blk_cell BK366.out 1).trans rfl
                                  have hcz32_2 : wr.cell? ⟨gb366, 2, none⟩ = some (.string a0_2) := (blk_cell BK366.out 2).trans rfl
                                  have hfz32_0 := blk_frozen BK366.out 0
                                  have hfz32_1 := blk_frozen BK366.out 1
                                  have hfz32_2 := blk_frozen BK366.out 2
                                  have p20 : 0 ≤ (x5_1 : Int) := of_decide_eq_true q47_
                                  have q20 : x5_1 < (a0_2.size : Int) := of_decide_eq_true q47_
                                  have hx20 := bt_at a0_2 x5_1
                                  replace p20 := eq_true p20
                                  replace q20 := eq_true q20
                                  go_wp2
                                  repeat (go_quiet (fail); try go_wp2)
                                  go_roundg k1
                                  case measure => have := HK1.out; omega
                                  case rel => exact ⟨(x4_1 ++ EA ++ EB), (wrap64 (x5_1 + 1)), (by first | rfl | (simp; done) | (simp only [← hji22, ← hji27] <;> (first | rfl | simp)) | (simp [*]; done)), q20_, H', ⟨by have := HK1.out; omega⟩, ⟨q167_⟩, ⟨q0_⟩⟩
                                · rw [if_neg c31] at H
                                  exact absurd H (by simp)
                              · rw [if_neg c30] at H
                                exact absurd H (by simp)
                            · rw [if_neg c29] at H
                              exact absurd H (by simp)
                          · rw [if_neg c28] at H
                            exact absurd H (by simp)
                        · rw [if_neg c26] at H
                          exact absurd H (by simp)
                      · rw [if_neg c25] at H
                        exact absurd H (by simp)
                    · rw [if_neg c24] at H
                      exact absurd H (by simp)
                  · rw [if_neg c23] at H
                    exact absurd H (by simp)
                · rw [if_neg c21] at H
                  have c21b0 : (a0_0 == 4) = false := beq_eq_false_iff_ne.mpr c21
                  have c21b1 : (a0_0 != 4) = true := bne_iff_ne.mpr c21
                  have c33b0 := eq_true (of_decide_eq_true q47_ : 0 ≤ x5_1)
                  by_cases c34 : x5_1 ≤ (wrap64 (x5_1 + 1))
                  · rw [if_pos c34] at H
                    have c34b0 := eq_true c34
                    have c34b1 : decide (x5_1 ≤ (wrap64 (x5_1 + 1))) = true := decide_eq_true c34
                    by_cases c35 : (wrap64 (x5_1 + 1)) ≤ (a0_2.size : Int)
                    · rw [if_pos c35] at H
                      have c35b0 := eq_true c35
                      have c35b1 : decide ((wrap64 (x5_1 + 1)) ≤ (a0_2.size : Int)) = true := decide_eq_true c35
                      by_cases c36 : x4_1.size + (a0_2.extract (x5_1 : Int).toNat ((wrap64 (x5_1 + 1)) : Int).toNat).size ≤ 9223372036854775807
                      · rw [if_pos c36] at H
                        have c36b0 := eq_true c36
                        have c36b1 : decide (x4_1.size + (a0_2.extract (x5_1 : Int).toNat ((wrap64 (x5_1 + 1)) : Int).toNat).size ≤ 9223372036854775807) = true := decide_eq_true c36
                        try have c36b2 : (9223372036854775807 < x4_1.size + (a0_2.extract (x5_1 : Int).toNat ((wrap64 (x5_1 + 1)) : Int).toNat).size) = False := eq_false (Nat.not_lt.2 c36)
                        (try (have c36b5 : (9223372036854775807 < x4_1.size + (((wrap64 (x5_1 + 1)) : Int).toNat - (x5_1 : Int).toNat)) = False := eq_false (by have hq_ := c36; (try simp only [ByteArray.size_append, ByteArray.size_extract] at hq_); first | omega | (simp only [decide_eq_true_eq] at *; omega))))
                        by_cases c37 : (bt a0_2 x5_1) = 39
                        · rw [if_pos c37] at H
                          have c37b0 : ((bt a0_2 x5_1) == 39) = true := beq_iff_eq.mpr c37
                          have c37b1 : ((bt a0_2 x5_1) != 39) = false := bne_eq_false_iff_eq.mpr c37
                          clear c37
                          by_cases c38 : (x4_1 ++ (a0_2.extract (x5_1 : Int).toNat ((wrap64 (x5_1 + 1)) : Int).toNat)).size + 1 ≤ 9223372036854775807
                          · rw [if_pos c38] at H
                            have c38b0 := eq_true c38
                            have c38b1 : decide ((x4_1 ++ (a0_2.extract (x5_1 : Int).toNat ((wrap64 (x5_1 + 1)) : Int).toNat)).size + 1 ≤ 9223372036854775807) = true := decide_eq_true c38
                            try have c38b2 : (9223372036854775807 < (x4_1 ++ (a0_2.extract (x5_1 : Int).toNat ((wrap64 (x5_1 + 1)) : Int).toNat)).size + 1) = False := eq_false (Nat.not_lt.2 c38)
                            (try (have c38b3 : x4_1.size + (a0_2.extract (x5_1 : Int).toNat ((wrap64 (x5_1 + 1)) : Int).toNat).size + 1 ≤ 9223372036854775807 := by first | (have hq_ := c38; simp only [ByteArray.size_append] at hq_; exact hq_) | simpa [ByteArray.size_append] using c38))
                            (try (have c38b4 : (9223372036854775807 < x4_1.size + (a0_2.extract (x5_1 : Int).toNat ((wrap64 (x5_1 + 1)) : Int).toNat).size + 1) = False := eq_false (Nat.not_lt.2 c38b3)))
                            (try (have c38b5 : (9223372036854775807 < x4_1.size + (((wrap64 (x5_1 + 1)) : Int).toNat - (x5_1 : Int).toNat) + 1) = False := eq_false (by have hq_ := c38; (try simp only [ByteArray.size_append, ByteArray.size_extract] at hq_); first | omega | (simp only [decide_eq_true_eq] at *; omega))))
                            have H' := Aside0.mk H
                            clear H
                            have hcz39_0 : wr.cell? ⟨gb366, 0, none⟩ = some (.int .i64 a0_0) := (blk_cell BK366.out 0).trans rfl
                            have hcz39_1 : wr.cell? ⟨gb366, 1, none⟩ = some (.int .i64 a0_1) := (blk_cell BK366.out 1).trans rfl
                            have hcz39_2 : wr.cell? ⟨gb366, 2, none⟩ = some (.string a0_2) := (blk_cell BK366.out 2).trans rfl
                            have hfz39_0 := blk_frozen BK366.out 0
                            have hfz39_1 := blk_frozen BK366.out 1
                            have hfz39_2 := blk_frozen BK366.out 2
                            have p20 : 0 ≤ (x5_1 : Int) := of_decide_eq_true q47_
                            have q20 : x5_1 < (a0_2.size : Int) := of_decide_eq_true q47_
                            have hx20 := bt_at a0_2 x5_1
                            replace p20 := eq_true p20
                            replace q20 := eq_true q20
                            go_wp2
                            repeat (go_quiet (fail); try go_wp2)
                            go_roundg k1
                            case measure => have := HK1.out; omega
                            case rel => exact ⟨((x4_1 ++ (a0_2.extract (x5_1 : Int).toNat ((wrap64 (x5_1 + 1)) : Int).toNat)) ++ (⟨#[39]⟩ : ByteArray)), (wrap64 (x5_1 + 1)), q20_, q20_, H', ⟨by have := HK1.out; omega⟩, ⟨q167_⟩, ⟨q0_⟩⟩
                          · rw [if_neg c38] at H
                            exact absurd H (by simp)
                        · rw [if_neg c37] at H
                          have c37b0 : ((bt a0_2 x5_1) == 39) = false := beq_eq_false_iff_ne.mpr c37
                          have c37b1 : ((bt a0_2 x5_1) != 39) = true := bne_iff_ne.mpr c37
                          have H' := Aside0.mk H
                          clear H
                          have hcz40_0 : wr.cell? ⟨gb366, 0, none⟩ = some (.int .i64 a0_0) := (blk_cell BK366.out 0).trans rfl
                          have hcz40_1 : wr.cell? ⟨gb366, 1, none⟩ = some (.int .i64 a0_1) := (blk_cell BK366.out 1).trans rfl
                          have hcz40_2 : wr.cell? ⟨gb366, 2, none⟩ = some (.string a0_2) := (blk_cell BK366.out 2).trans rfl
                          have hfz40_0 := blk_frozen BK366.out 0
                          have hfz40_1 := blk_frozen BK366.out 1
                          have hfz40_2 := blk_frozen BK366.out 2
                          have p20 : 0 ≤ (x5_1 : Int) := of_decide_eq_true q47_
                          have q20 : x5_1 < (a0_2.size : Int) := of_decide_eq_true q47_
                          have hx20 := bt_at a0_2 x5_1
                          replace p20 := eq_true p20
                          replace q20 := eq_true q20
                          go_wp2
                          repeat (go_quiet (fail); try go_wp2)
                          go_roundg k1
                          case measure => have := HK1.out; omega
                          case rel => exact ⟨(x4_1 ++ (a0_2.extract (x5_1 : Int).toNat ((wrap64 (x5_1 + 1)) : Int).toNat)), (wrap64 (x5_1 + 1)), q20_, q20_, H', ⟨by have := HK1.out; omega⟩, ⟨q167_⟩, ⟨q0_⟩⟩
                      · rw [if_neg c36] at H
                        exact absurd H (by simp)
                    · rw [if_neg c35] at H
                      exact absurd H (by simp)
                  · rw [if_neg c34] at H
                    exact absurd H (by simp)
              · rw [if_neg c19] at H
                exact absurd H (by simp)
            · rw [if_neg c18] at H
              have c18b0 : decide (x5_1 < (a0_2.size : Int)) = false := decide_eq_false c18
              clear c18
              by_cases c41 : a0_0 = 4
              · rw [if_pos c41] at H
                have c41b0 : (a0_0 == 4) = true := beq_iff_eq.mpr c41
                have c41b1 : (a0_0 != 4) = false := bne_eq_false_iff_eq.mpr c41
                clear c41
                by_cases c42 : 1 + x4_1.size ≤ 9223372036854775807
                · rw [if_pos c42] at H
                  have c42b0 := eq_true c42
                  have c42b1 : decide (1 + x4_1.size ≤ 9223372036854775807) = true := decide_eq_true c42
                  try have c42b2 : (9223372036854775807 < 1 + x4_1.size) = False := eq_false (Nat.not_lt.2 c42)
                  by_cases c43 : ((⟨#[120]⟩ : ByteArray) ++ x4_1).size + 1 ≤ 9223372036854775807
                  · rw [if_pos c43] at H
                    have c43b0 := eq_true c43
                    have c43b1 : decide (((⟨#[120]⟩ : ByteArray) ++ x4_1).size + 1 ≤ 9223372036854775807) = true := decide_eq_true c43
                    try have c43b2 : (9223372036854775807 < ((⟨#[120]⟩ : ByteArray) ++ x4_1).size + 1) = False := eq_false (Nat.not_lt.2 c43)
                    (try (have c43b3 : 1 + x4_1.size + 1 ≤ 9223372036854775807 := by first | (have hq_ := c43; simp only [ByteArray.size_append] at hq_; exact hq_) | simpa [ByteArray.size_append] using c43))
                    (try (have c43b4 : (9223372036854775807 < 1 + x4_1.size + 1) = False := eq_false (Nat.not_lt.2 c43b3)))
                    obtain rfl := Option.some.inj H
                    have hcz44_0 : wr.cell? ⟨gb366, 0, none⟩ = some (.int .i64 a0_0) := (blk_cell BK366.out 0).trans rfl
                    have hcz44_1 : wr.cell? ⟨gb366, 1, none⟩ = some (.int .i64 a0_1) := (blk_cell BK366.out 1).trans rfl
                    have hcz44_2 : wr.cell? ⟨gb366, 2, none⟩ = some (.string a0_2) := (blk_cell BK366.out 2).trans rfl
                    have hfz44_0 := blk_frozen BK366.out 0
                    have hfz44_1 := blk_frozen BK366.out 1
                    have hfz44_2 := blk_frozen BK366.out 2
                    go_wp2
                    repeat (go_quiet (fail); try go_wp2)
                    go_ret
                    exact ⟨q13_, q0_⟩
                  · rw [if_neg c43] at H
                    exact absurd H (by simp)
                · rw [if_neg c42] at H
                  exact absurd H (by simp)
              · rw [if_neg c41] at H
                have c41b0 : (a0_0 == 4) = false := beq_eq_false_iff_ne.mpr c41
                have c41b1 : (a0_0 != 4) = true := bne_iff_ne.mpr c41
                by_cases c45 : x4_1.size + 1 ≤ 9223372036854775807
                · rw [if_pos c45] at H
                  have c45b0 := eq_true c45
                  have c45b1 : decide (x4_1.size + 1 ≤ 9223372036854775807) = true := decide_eq_true c45
                  try have c45b2 : (9223372036854775807 < x4_1.size + 1) = False := eq_false (Nat.not_lt.2 c45)
                  obtain rfl := Option.some.inj H
                  have hcz46_0 : wr.cell? ⟨gb366, 0, none⟩ = some (.int .i64 a0_0) := (blk_cell BK366.out 0).trans rfl
                  have hcz46_1 : wr.cell? ⟨gb366, 1, none⟩ = some (.int .i64 a0_1) := (blk_cell BK366.out 1).trans rfl
                  have hcz46_2 : wr.cell? ⟨gb366, 2, none⟩ = some (.string a0_2) := (blk_cell BK366.out 2).trans rfl
                  have hfz46_0 := blk_frozen BK366.out 0
                  have hfz46_1 := blk_frozen BK366.out 1
                  have hfz46_2 := blk_frozen BK366.out 2
                  go_wp2
                  repeat (go_quiet (fail); try go_wp2)
                  go_ret
                  exact ⟨q13_, q0_⟩
                · rw [if_neg c45] at H
                  exact absurd H (by simp)


/-! ### strings_Join: function 45 -/
-- SUPPLIED (wip/xprint)
/-- Texts laid one behind the other, a text between. By the kit's contract (Lib.join). -/
def strings_Join.f (l0 : List (ByteArray)) (a1 : ByteArray) : Option (ByteArray) := if l0.length ≤ 1000000 ∧ (Go.Lib.join (l0.map (·.data.toList)) a1.data.toList).length ≤ 140737488355328 then some ⟨(Go.Lib.join (l0.map (·.data.toList)) a1.data.toList).toArray⟩ else none
theorem strings_Join.calls (A0 : Option Addr) (c0 : Nat) (l0 : List (ByteArray)) (a1 : ByteArray) (r : ByteArray) (w : World) (hr0 : Kd.C Kd.string w A0 l0.length l0) (hc0 : l0.length ≤ c0) (h : strings_Join.f l0 a1 = some r) :
    Calls Tryd.prog 45 #[.slice A0 l0.length c0, .string a1] w fun e w' => e = .returned (.string r) ∧ Below w.heap.size w w' := by
  unfold strings_Join.f at h
  split at h
  · rename_i hs
    obtain rfl := Option.some.inj h
    match l0, hr0, hc0, hs with
    | [], _, _, _ => exact (Any.strings_Join_none { Tryd.laysJoin with } Tryd.extraJoin A0 c0 a1 w).mono fun e w' ⟨he, hw⟩ => ⟨he, hw ▸ Below.refl _ _⟩
    | x :: l, hr0, hc0, hs =>
      obtain ⟨_, _, hc⟩ := hr0
      obtain ⟨⟨bk, o, sp⟩, rfl, hcell⟩ := hc (by simp)
      have hcell1 : ∀ (j : Nat) y, (x :: l)[j]? = some y → w.cell? ((⟨bk, o, sp⟩ : Addr).add j) = some (.string y) := by
        intro j y hy
        obtain ⟨c, hl, hk, hcc⟩ := hcell j y hy
        have hk' : c = [.string y] := hk
        subst hk'
        have := hcc 0 _ rfl
        simpa [Kd.string, Kd.scalar] using this
      have hz := hcell1 0 x rfl
      have hsp : sp = none := by
        unfold World.cell? at hz
        simp only [Addr.add] at hz
        cases sp with
        | none => rfl
        | some q => (split at hz <;> simp at hz)
      subst hsp
      have hbk : bk < w.heap.size := by
        have := World.block_lt_of_cell? (w := w) (a := (⟨bk, o, none⟩ : Addr).add 0) hz
        simpa [Addr.add] using this
      refine Any.strings_Join { Tryd.laysJoin with } Tryd.extraJoin bk o c0 (x :: l) a1 w (fun j y hy => ?_) hbk (by have := hs.1; omega) hc0 hs.2
      have := hcell1 j y hy
      unfold Addr.add at this
      split at this
      · rename_i h0; subst h0; simpa using this
      · exact this
  · exact absurd h (by simp)


/-! ### value_Row: function 25 -/
def value_Row.l0 : Nat → List ByteArray → List (S23) → Int → Int → Option (ByteArray)
  | 0, _, _, _, _ => none
  | k + 1, x3, x6, x7, x8 => if x8 < x7 then (if 0 ≤ x8 then (if x8 < (x6.length : Int) then ((value_Show.f ((rd_T23 x6 x8).f0) ((rd_T23 x6 x8).f1) ((rd_T23 x6 x8).f2)).bind fun t370 => (if x3.length < 8796093022208 then (value_Row.l0 k (x3 ++ [t370]) x6 x7 (wrap64 (x8 + 1))) else (none))) else (none)) else (none)) else ((strings_Join.f x3 (⟨#[44, 32]⟩ : ByteArray)).bind fun t374 => (if 1 + t374.size ≤ 9223372036854775807 then (if ((⟨#[40]⟩ : ByteArray) ++ t374).size + 1 ≤ 9223372036854775807 then (some (((⟨#[40]⟩ : ByteArray) ++ t374) ++ (⟨#[41]⟩ : ByteArray))) else (none)) else (none)))
def value_Row.f (k : Nat) (l0 : List (S23)) : Option (ByteArray) := value_Row.l0 k ([] : List ByteArray) l0 (l0.length : Int) 0
theorem value_Row.mono_l : ∀ k, (∀ y0 y1 y2 y3, LeO (value_Row.l0 k y0 y1 y2 y3) (value_Row.l0 (k + 1) y0 y1 y2 y3))
  | 0 => fun _ _ _ _ r h => by simp [value_Row.l0] at h
  | k + 1 => by
    have ih0 := value_Row.mono_l k
    · intro y0 y1 y2 y3
      unfold value_Row.l0
      repeat' first
      | (with_reducible exact ih0 _ _ _ _)
      | (with_reducible exact LeO.refl _)
      | (with_reducible exact LeO.none _)
      | (with_reducible refine LeO.ite ?_ ?_)
      | (with_reducible refine LeO.bind ?_ (fun _ => ?_))
      | exact ih0 _ _ _ _
      | exact LeO.none _
      | refine LeO.ite ?_ ?_
      | refine LeO.bind ?_ (fun _ => ?_)
theorem value_Row.mono : ∀ a0 k, LeO (value_Row.f k a0) (value_Row.f (k + 1) a0) := by
  intro a0 k
  have ih0 := value_Row.mono_l k
  unfold value_Row.f
  repeat' first
      | (with_reducible exact ih0 _ _ _ _)
      | (with_reducible exact LeO.refl _)
      | (with_reducible exact LeO.none _)
      | (with_reducible refine LeO.ite ?_ ?_)
      | (with_reducible refine LeO.bind ?_ (fun _ => ?_))
      | exact ih0 _ _ _ _
      | exact LeO.none _
      | refine LeO.ite ?_ ?_
      | refine LeO.bind ?_ (fun _ => ?_)
set_option maxHeartbeats 8000000 in
set_option maxRecDepth 100000 in
theorem value_Row.calls (k : Nat) (A0 : Option Addr) (c0 : Nat) (l0 : List (S23)) (r : ByteArray) (w : World) (hr0 : Kd.C k23 w A0 l0.length l0) (hc0 : l0.length ≤ c0) (h : value_Row.f k l0 = some r) (hG : Glob w) :
    Calls Tryd.prog 25 #[.slice A0 l0.length c0] w fun e w' => e = .returned (.string r) ∧ Below w.heap.size w w' := by
  have hu23 := Tryd.underlying23
  have HG := Aside0.mk hG
  clear hG
  have HR0 := Aside0.mk hr0
  have HC0 := Aside0.mk hc0
  clear hr0 hc0
  have HB := Aside0.mk (Below.refl w.heap.size w)
  have H : (value_Row.l0 k ([] : List ByteArray) l0 (l0.length : Int) 0) = some r := h
  clear h
  have H' := Aside0.mk H
  clear H
  go_enter Tryd.func25, Tryd.ntmps25
  go_wp2
  go_loopg [3, 8] k (fun kq v3 v8 w' => ∃ (x3_1 : List ByteArray) (x8_1 : Int), v8 = .int .i64 x8_1 ∧ Aside0 (value_Row.l0 kq x3_1 l0 (l0.length : Int) x8_1 = some r) ∧ Aside0 (kq ≤ k) ∧ Aside0 (Kd.R Kd.string 9 w' w.heap.size (fun _ => True) v3 x3_1) ∧ Aside0 (Below w.heap.size w w'))
  case atStart => exact ⟨(([] : List ByteArray)), (0), q20_, H', ⟨Nat.le_refl _⟩, ⟨by first | exact Kd.R_nil _ _ _ _ _ | exact Kd.N_nil _ _ _ _ _ | exact Kd.V_nil _ _ _ _ _ | exact Kd.Q_nil _ _ _ _ _ | exact Kd.S_nil _ _ _ _ _⟩, ⟨q0_⟩⟩
  case round =>
    clear H'
    obtain ⟨x3_1, x8_1, rfl, HA, HK1, HO_3, HB⟩ := hrel
    cases gk with
    | zero => exact absurd HA.out (by simp [value_Row.l0])
    | succ k1 =>
      have H := HA.out
      clear HA
      simp only [value_Row.l0] at H
      by_cases c2 : x8_1 < (l0.length : Int)
      · rw [if_pos c2] at H
        have c2b0 : decide (x8_1 < (l0.length : Int)) = true := decide_eq_true c2
        clear c2
        by_cases c3 : 0 ≤ x8_1
        · rw [if_pos c3] at H
          have c3b0 : decide (0 ≤ x8_1) = true := decide_eq_true c3
          clear c3
          by_cases c4 : x8_1 < (l0.length : Int)
          · rw [if_pos c4] at H
            have c4b0 : decide (x8_1 < (l0.length : Int)) = true := decide_eq_true c4
            clear c4
            replace H := Option.bind_eq_some_iff.mp H
            obtain ⟨t370, A50, H⟩ := H
            replace H : (if x3_1.length < 8796093022208 then (value_Row.l0 k1 (x3_1 ++ [t370]) l0 (l0.length : Int) (wrap64 (x8_1 + 1))) else (none)) = some r := H
            have A5 := Aside0.mk A50
            clear A50
            by_cases c6 : x3_1.length < 8796093022208
            · rw [if_pos c6] at H
              have LMc6 := Aside0.mk c6
              clear c6
              obtain ⟨y371, hy371⟩ : ∃ y_ : List ByteArray, y_ = (x3_1 ++ [t370]) := ⟨_, rfl⟩
              replace H : (value_Row.l0 k1 y371 l0 (l0.length : Int) (wrap64 (x8_1 + 1))) = some r := by first | (rw [hy371]; with_reducible exact H) | (have H2_ := (Option.bind_some _ _).symm.trans H; rw [hy371]; with_reducible exact H2_) | (have H2_ := (Option.bind_some _ _).symm.trans H; with_reducible exact H2_) | with_reducible exact H | (rw [hy371]; exact H) | exact H
              have Ny371 := Aside0.mk hy371
              clear hy371
              have H' := Aside0.mk H
              clear H
              have p368 : 0 ≤ (x8_1 : Int) := of_decide_eq_true q47_
              have q368 : x8_1 < (l0.length : Int) := of_decide_eq_true q47_
              obtain ⟨ad368, e368, hx368_0, hx368_1, hx368_2⟩ := at_T23 HR0.out x8_1 p368 q368
              cases e368
              replace hx368_0 := (HB.out.cell (World.block_lt_of_cell? w _ hx368_0)).trans hx368_0
              replace hx368_1 := (HB.out.cell (World.block_lt_of_cell? w _ hx368_1)).trans hx368_1
              replace hx368_2 := (HB.out.cell (World.block_lt_of_cell? w _ hx368_2)).trans hx368_2
              replace p368 := eq_true p368
              replace q368 := eq_true q368
              go_wp2_with (first | ((with_reducible refine gate_dst (N := 5) rfl ?_); refine box_event ?hg (N := 5) ?hd (cs := #[.int .i64 0, .int .i64 0, .string (⟨#[]⟩ : ByteArray)]) (t := 23) ?hr ?_; (case hd => rfl); (case hg => rfl); (case hr => first | (go_simp; done) | (go_simp; rfl)); intro gb369 hg w7 hbox hb; have n0_ := Aside0.mk (Kd.R_below (by (with_reducible repeat (first | apply Kd.R_alloc | apply Kd.R_drewN | apply Kd.R_drew)); exact HO_3.out) hb); have n1_ := Aside0.mk (below_step q0_ hb); have n2_ := Aside0.mk (hbox); have n3_ := Aside0.mk ((q1_ : w.heap.size ≤ gb369)); have n4_ := Aside0.mk ((q1_ : w.heap.size ≤ gb369)); clear HO_3; clear HB; have HO_3 := n0_; have HB := n1_; have BK369 := n2_; have GW369 := n3_; have GE369 := n4_; clear n0_ n1_ n2_ n3_ n4_; clear hb hbox hg; have hcz8_0 : w7.cell? ⟨gb369, 0, none⟩ = some (.int .i64 0) := (blk_cell BK369.out 0).trans rfl; have hcz8_1 : w7.cell? ⟨gb369, 1, none⟩ = some (.int .i64 0) := (blk_cell BK369.out 1).trans rfl; have hcz8_2 : w7.cell? ⟨gb369, 2, none⟩ = some (.string (⟨#[]⟩ : ByteArray)) := (blk_cell BK369.out 2).trans rfl; have hfz8_0 := blk_frozen BK369.out 0; have hfz8_1 := blk_frozen BK369.out 1; have hfz8_2 := blk_frozen BK369.out 2) | ((with_reducible refine gate_callee (f := 15) rfl ?_); refine goesL_ (some 14) rfl rfl Tryd.func15 (by kernel_rfl) rfl #[.agg #[.int .i64 ((rd_T23 l0 x8_1).f0), .int .i64 ((rd_T23 l0 x8_1).f1), .string ((rd_T23 l0 x8_1).f2)]] rfl q2_ ?_; (with_reducible refine (value_Show.calls ((rd_T23 l0 x8_1).f0) ((rd_T23 l0 x8_1).f1) ((rd_T23 l0 x8_1).f2) t370 _ A5.out (by first | exact HG.out | (refine Glob.below HG.out ?_; (repeat (first | (with_reducible first | exact HB.out | apply below_alloc | apply pw_below_drewN | apply below_drew1 | refine below_set ?_ GE369.out) | exact HB.out))) | (repeat (first | exact HG.out | apply Glob.drewN | apply Glob.drew | apply Glob.alloc)))).mono ?_); rintro e w9 ⟨rfl, hb⟩; refine ⟨_, rfl, ?_⟩; have n0_ := Aside0.mk (Kd.R_below (by (with_reducible repeat (first | apply Kd.R_alloc | apply Kd.R_drewN | apply Kd.R_drew)); exact (Kd.R_mono (Kd.R_far (p := ⟨gb369, 2, none⟩) (Kd.R_far (p := ⟨gb369, 1, none⟩) (Kd.R_far (p := ⟨gb369, 0, none⟩) (Kd.R_types HO_3.out BK369.out (by decide)) (fun _ hk => hk.2) (.int .i64 ((rd_T23 l0 x8_1).f0))) (fun _ hk => hk.2) (.int .i64 ((rd_T23 l0 x8_1).f1))) (fun _ hk => hk.2) (.string ((rd_T23 l0 x8_1).f2))) (fun _ h_ => h_.1))) hb); have n1_ := Aside0.mk (blk_below (g := gb369) (o := .cells #[.int .i64 ((rd_T23 l0 x8_1).f0), .int .i64 ((rd_T23 l0 x8_1).f1), .string ((rd_T23 l0 x8_1).f2)] 23 (0, 0)) (by (with_reducible repeat first | apply bN_ | apply bD_ | apply bA_); refine blk_put (cs := #[.int .i64 ((rd_T23 l0 x8_1).f0), .int .i64 ((rd_T23 l0 x8_1).f1), .string (⟨#[]⟩ : ByteArray)]) ?_ 2 _ rfl; (with_reducible repeat first | apply bN_ | apply bD_ | apply bA_); refine blk_put (cs := #[.int .i64 ((rd_T23 l0 x8_1).f0), .int .i64 0, .string (⟨#[]⟩ : ByteArray)]) ?_ 1 _ rfl; (with_reducible repeat first | apply bN_ | apply bD_ | apply bA_); refine blk_put (cs := #[.int .i64 0, .int .i64 0, .string (⟨#[]⟩ : ByteArray)]) ?_ 0 _ rfl; (with_reducible repeat first | apply bN_ | apply bD_ | apply bA_); exact BK369.out) hb); have n2_ := Aside0.mk (below_step q0_ hb); clear HO_3; clear BK369; clear HB; have HO_3 := n0_; have BK369 := n1_; have HB := n2_; clear n0_ n1_ n2_; (try clear hb); (try clear hb2); (try clear hk); (try clear hi)) | ((with_reducible refine gate_builtin (b := .append) (xs := #[.tmp 12, .tmp 15]) rfl ?_); at_builtin; refine Kd.R_append Kd.string (w0 := w) w.heap.size rfl (.tmp 12) (.tmp 15) 63 9 (.string ⟨#[]⟩) 16 rfl Tryd.underlying63 info9 rfl (by decide) (by omega) u3 x3_1 t370 [.string t370] (fun _ => True) (fun _ => False) rfl rfl ?aP (fun _ hk => hk.elim) ?aF ?aO ?aB ?aS ?aL ?_; (case aP => exact rfl); (case aB => exact q0_); (case aF => exact (fun _ _ => trivial)); (case aO => exact (by (with_reducible repeat (first | apply Kd.R_alloc | apply Kd.R_drewN | apply Kd.R_drew)); exact HO_3.out)); (case aS => exact (below_size q0_)); (case aL => have := LMc6.out; omega); intro v372 w10 ho hb hg hat; rw [← Ny371.out] at ho; have n0_ := Aside0.mk (blk_grown (g := gb369) (o := .cells #[.int .i64 ((rd_T23 l0 x8_1).f0), .int .i64 ((rd_T23 l0 x8_1).f1), .string ((rd_T23 l0 x8_1).f2)] 23 (0, 0)) (by (with_reducible repeat first | apply bN_ | apply bD_ | apply bA_); exact BK369.out) hg (Kd.R_ne HO_3.out BK369.out (by decide))); have n1_ := Aside0.mk (hb); have n2_ := Aside0.mk (ho); clear BK369; clear HB; clear HO_3; have BK369 := n0_; have HB := n1_; have HO373 := n2_; clear n0_ n1_ n2_; clear ho hb hg hat))
              go_roundg k1
              case measure => have := HK1.out; omega
              case rel => exact ⟨(y371), (wrap64 (x8_1 + 1)), q20_, H', ⟨by have := HK1.out; omega⟩, ⟨by (with_reducible repeat (first | apply Kd.R_alloc | apply Kd.R_drewN | apply Kd.R_drew)); exact HO373.out⟩, ⟨q0_⟩⟩
            · rw [if_neg c6] at H
              exact absurd H (by simp)
          · rw [if_neg c4] at H
            exact absurd H (by simp)
        · rw [if_neg c3] at H
          exact absurd H (by simp)
      · rw [if_neg c2] at H
        have c2b0 : decide (x8_1 < (l0.length : Int)) = false := decide_eq_false c2
        clear c2
        replace H := Option.bind_eq_some_iff.mp H
        obtain ⟨t374, A110, H⟩ := H
        replace H : (if 1 + t374.size ≤ 9223372036854775807 then (if ((⟨#[40]⟩ : ByteArray) ++ t374).size + 1 ≤ 9223372036854775807 then (some (((⟨#[40]⟩ : ByteArray) ++ t374) ++ (⟨#[41]⟩ : ByteArray))) else (none)) else (none)) = some r := H
        have A11 := Aside0.mk A110
        clear A110
        by_cases c12 : 1 + t374.size ≤ 9223372036854775807
        · rw [if_pos c12] at H
          have c12b0 := eq_true c12
          have c12b1 : decide (1 + t374.size ≤ 9223372036854775807) = true := decide_eq_true c12
          try have c12b2 : (9223372036854775807 < 1 + t374.size) = False := eq_false (Nat.not_lt.2 c12)
          by_cases c13 : ((⟨#[40]⟩ : ByteArray) ++ t374).size + 1 ≤ 9223372036854775807
          · rw [if_pos c13] at H
            have c13b0 := eq_true c13
            have c13b1 : decide (((⟨#[40]⟩ : ByteArray) ++ t374).size + 1 ≤ 9223372036854775807) = true := decide_eq_true c13
            try have c13b2 : (9223372036854775807 < ((⟨#[40]⟩ : ByteArray) ++ t374).size + 1) = False := eq_false (Nat.not_lt.2 c13)
            (try (have c13b3 : 1 + t374.size + 1 ≤ 9223372036854775807 := by first | (have hq_ := c13; simp only [ByteArray.size_append] at hq_; exact hq_) | simpa [ByteArray.size_append] using c13))
            (try (have c13b4 : (9223372036854775807 < 1 + t374.size + 1) = False := eq_false (Nat.not_lt.2 c13b3)))
            obtain rfl := Option.some.inj H
            obtain ⟨Ao14, co14, eo14⟩ := Kd.R_slice HO_3.out
            subst eo14
            go_wp2_with (first | ((with_reducible refine gate_callee (f := 45) rfl ?_); refine goesL_ (some 19) rfl rfl Tryd.func45 (by kernel_rfl) rfl #[.slice Ao14 x3_1.length co14, .string (⟨#[44, 32]⟩ : ByteArray)] rfl q2_ ?_; (with_reducible refine (strings_Join.calls _ _ x3_1 (⟨#[44, 32]⟩ : ByteArray) t374 _ ?side1 ?side2 A11.out).mono ?_); (case side1 => repeat (first | exact (Kd.R_reads' HO_3.out).2.2 | (with_reducible refine Kd.C_alloc ?_ _) | (with_reducible refine Kd.C_drewN ?_ _) | (with_reducible refine Kd.C_drew ?_))); (case side2 => exact (Kd.R_reads' HO_3.out).2.1); rintro e w15 ⟨rfl, hb⟩; refine ⟨_, rfl, ?_⟩; have n0_ := Aside0.mk (Kd.R_below (by (with_reducible repeat (first | apply Kd.R_alloc | apply Kd.R_drewN | apply Kd.R_drew)); exact HO_3.out) hb); have n1_ := Aside0.mk (below_step q0_ hb); clear HO_3; clear HB; have HO_3 := n0_; have HB := n1_; clear n0_ n1_; (try clear hb); (try clear hb2); (try clear hk); (try clear hi)))
            go_ret
            exact ⟨q13_, q0_⟩
          · rw [if_neg c13] at H
            exact absurd H (by simp)
        · rw [if_neg c12] at H
          exact absurd H (by simp)

end Go.Proofs.YtmdnnpahmoaicaaDoor.P
