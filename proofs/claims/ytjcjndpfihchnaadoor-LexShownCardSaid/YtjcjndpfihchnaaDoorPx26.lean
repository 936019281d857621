-- Written by our own program (wip/xprint) over the seat's translation. Lean checks it.
import Derived.Test.YtjcjndpfihchnaaDoorPx0
import Derived.Test.YtjcjndpfihchnaaDoorPx1
namespace Go.Proofs.YtjcjndpfihchnaaDoor.P
open Go.RowKit Go.Proofs.YtjcjndpfihchnaaDoorW.PrintWords Go.Proofs.YtjcjndpfihchnaaDoorW.PrintLast Go.Proofs.YtjcjndpfihchnaaDoorW.PrintMore
attribute [local go_sem] max2_int min2_mn max_two min_two max_three min_three max_four min_four   -- for this text's walks alone
set_option linter.unusedVariables false
set_option linter.unusedSimpArgs false


/-! ### lex_raw: function 29 -/
mutual
def lex_raw.j0 : Nat → ByteArray → Int → Bool → Option (Int × Int × ByteArray × Int × Int)
  | 0, _, _, _ => none
  | k + 1, x0, x5, x19 => if x19 = true then (some (0, 0, (⟨#[]⟩ : ByteArray), 0, 3)) else (lex_raw.l0 k x0 x5 ([] : List Int) 2)
def lex_raw.l0 : Nat → ByteArray → Int → List Int → Int → Option (Int × Int × ByteArray × Int × Int)
  | 0, _, _, _, _ => none
  | k + 1, x0, x5, x6, x7 => if x7 < (wrap64 (x5 + 2)) then (if 0 ≤ x7 then (if x7 < (x0.size : Int) then ((strings_IndexByte.f (⟨#[48, 49, 50, 51, 52, 53, 54, 55, 56, 57, 97, 98, 99, 100, 101, 102]⟩ : ByteArray) (bt x0 x7)).bind fun t121 => (if 0 ≤ (wrap64 (x7 + 1)) then (if (wrap64 (x7 + 1)) < (x0.size : Int) then ((strings_IndexByte.f (⟨#[48, 49, 50, 51, 52, 53, 54, 55, 56, 57, 97, 98, 99, 100, 101, 102]⟩ : ByteArray) (bt x0 (wrap64 (x7 + 1)))).bind fun t122 => (if t121 < 0 then (some (0, 0, (⟨#[]⟩ : ByteArray), 0, 3)) else (if t122 < 0 then (some (0, 0, (⟨#[]⟩ : ByteArray), 0, 3)) else (if x6.length < 140737488355328 then (lex_raw.l0 k x0 x5 (x6 ++ [(wrap64 ((wrap64 (16 * t121)) + t122)) % 256]) (wrap64 (x7 + 2))) else (none))))) else (none)) else (none))) else (none)) else (none)) else ((lex_checked.f 4 0 (strOfNums x6) (wrap64 (x5 + 3))).bind fun bt116 => (some (bt116.1, bt116.2.1, bt116.2.2.1, bt116.2.2.2.1, bt116.2.2.2.2)))
end
def lex_raw.f (k : Nat) (a0 : ByteArray) : Option (Int × Int × ByteArray × Int × Int) := if 2 ≤ (a0.size : Int) then ((strings_IndexByte.f (a0.extract 2 a0.size) 39).bind fun t115 => (if t115 < 0 then (lex_raw.j0 k a0 t115 true) else (lex_raw.j0 k a0 t115 ((Int.tmod t115 2) == 1)))) else (none)
theorem lex_raw.mono_l : ∀ k, (∀ y0 y1 y2, LeO (lex_raw.j0 k y0 y1 y2) (lex_raw.j0 (k + 1) y0 y1 y2)) ∧ (∀ y0 y1 y2 y3, LeO (lex_raw.l0 k y0 y1 y2 y3) (lex_raw.l0 (k + 1) y0 y1 y2 y3))
  | 0 => ⟨fun _ _ _ r h => by simp [lex_raw.j0] at h, fun _ _ _ _ r h => by simp [lex_raw.l0] at h⟩
  | k + 1 => by
    obtain ⟨ih0, ih1⟩ := lex_raw.mono_l k
    refine ⟨?_, ?_⟩
    all_goals intros
    all_goals first
      | unfold lex_raw.j0
      | unfold lex_raw.l0
    all_goals repeat' first
      | (with_reducible exact ih0 _ _ _)
      | (with_reducible exact ih1 _ _ _ _)
      | (with_reducible exact LeO.refl _)
      | (with_reducible exact LeO.none _)
      | (with_reducible refine LeO.ite ?_ ?_)
      | (with_reducible refine LeO.bind ?_ (fun _ => ?_))
      | exact ih0 _ _ _
      | exact ih1 _ _ _ _
      | exact LeO.none _
      | refine LeO.ite ?_ ?_
      | refine LeO.bind ?_ (fun _ => ?_)
theorem lex_raw.mono : ∀ a0 k, LeO (lex_raw.f k a0) (lex_raw.f (k + 1) a0) := by
  intro a0 k
  obtain ⟨ih0, ih1⟩ := lex_raw.mono_l k
  unfold lex_raw.f
  repeat' first
      | (with_reducible exact ih0 _ _ _)
      | (with_reducible exact ih1 _ _ _ _)
      | (with_reducible exact LeO.refl _)
      | (with_reducible exact LeO.none _)
      | (with_reducible refine LeO.ite ?_ ?_)
      | (with_reducible refine LeO.bind ?_ (fun _ => ?_))
      | exact ih0 _ _ _
      | exact ih1 _ _ _ _
      | exact LeO.none _
      | refine LeO.ite ?_ ?_
      | refine LeO.bind ?_ (fun _ => ?_)
set_option maxHeartbeats 8000000 in
set_option maxRecDepth 100000 in
theorem lex_raw.calls (k : Nat) (a0 : ByteArray) (r1 : Int) (r2 : Int) (r3 : ByteArray) (r4 : Int) (r5 : Int) (w : World) (h : lex_raw.f k a0 = some (r1, r2, r3, r4, r5)) (hG : Glob w) :
    Calls Tryd.prog 29 #[.string a0] w fun e w' => e = .returned (.tuple #[.agg #[.int .i64 r1, .int .i64 r2, .string r3], .int .i64 r4, .int .i64 r5]) ∧ Below w.heap.size w w' := by
  have hu41 := Tryd.underlying41
  have HG := Aside0.mk hG
  clear hG
  have HB := Aside0.mk (Below.refl w.heap.size w)
  have H : (if 2 ≤ (a0.size : Int) then ((strings_IndexByte.f (a0.extract 2 a0.size) 39).bind fun t115 => (if t115 < 0 then (lex_raw.j0 k a0 t115 true) else (lex_raw.j0 k a0 t115 ((Int.tmod t115 2) == 1)))) else (none)) = some (r1, r2, r3, r4, r5) := h
  clear h
  by_cases c2 : 2 ≤ (a0.size : Int)
  · rw [if_pos c2] at H
    have c2b0 := eq_true c2
    have c2b1 : decide (2 ≤ (a0.size : Int)) = true := decide_eq_true c2
    clear c2
    replace H := Option.bind_eq_some_iff.mp H
    obtain ⟨t115, A30, H⟩ := H
    replace H : (if t115 < 0 then (lex_raw.j0 k a0 t115 true) else (lex_raw.j0 k a0 t115 ((Int.tmod t115 2) == 1))) = some (r1, r2, r3, r4, r5) := H
    have A3 := Aside0.mk A30
    clear A30
    have HC4 := Aside0.mk H
    clear H
    go_enter Tryd.func29, Tryd.ntmps29
    go_upto_region 2 with (first | ((with_reducible refine gate_dst (N := 2) rfl ?_); refine box_event ?hg (N := 2) ?hd (cs := #[.int .i64 0, .int .i64 0, .string (⟨#[]⟩ : ByteArray)]) (t := 41) ?hr ?_; (case hd => rfl); (case hg => rfl); (case hr => first | (go_simp; done) | (go_simp; rfl)); intro gb114 hg w5 hbox hb; have n0_ := Aside0.mk (below_step q0_ hb); have n1_ := Aside0.mk (hbox); have n2_ := Aside0.mk ((q1_ : w.heap.size ≤ gb114)); have n3_ := Aside0.mk ((q1_ : w.heap.size ≤ gb114)); clear HB; have HB := n0_; have BK114 := n1_; have GW114 := n2_; have GE114 := n3_; clear n0_ n1_ n2_ n3_; clear hb hbox hg) | (go_at_call 49; (with_reducible refine (strings_IndexByte.calls (a0.extract 2 a0.size) 39 t115 _ A3.out).mono ?_); rintro e w' ⟨rfl, ⟨nd, rfl⟩⟩; (try first | exact ⟨rfl, _, World.drewN_drewN _ _ _⟩ | exact ⟨rfl, _, Eq.trans (World.drewN_drewN _ _ _) (congrArg (World.drewN _) (Nat.add_assoc _ _ _))⟩)))
    repeat (go_quiet (first | ((with_reducible refine gate_dst (N := 2) rfl ?_); refine box_event ?hg (N := 2) ?hd (cs := #[.int .i64 0, .int .i64 0, .string (⟨#[]⟩ : ByteArray)]) (t := 41) ?hr ?_; (case hd => rfl); (case hg => rfl); (case hr => first | (go_simp; done) | (go_simp; rfl)); intro gb114 hg w5 hbox hb; have n0_ := Aside0.mk (below_step q0_ hb); have n1_ := Aside0.mk (hbox); have n2_ := Aside0.mk ((q1_ : w.heap.size ≤ gb114)); have n3_ := Aside0.mk ((q1_ : w.heap.size ≤ gb114)); clear HB; have HB := n0_; have BK114 := n1_; have GW114 := n2_; have GE114 := n3_; clear n0_ n1_ n2_ n3_; clear hb hbox hg) | (go_at_call 49; (with_reducible refine (strings_IndexByte.calls (a0.extract 2 a0.size) 39 t115 _ A3.out).mono ?_); rintro e w' ⟨rfl, ⟨nd, rfl⟩⟩; (try first | exact ⟨rfl, _, World.drewN_drewN _ _ _⟩ | exact ⟨rfl, _, Eq.trans (World.drewN_drewN _ _ _) (congrArg (World.drewN _) (Nat.add_assoc _ _ _))⟩))); go_upto_region 2 with (first | ((with_reducible refine gate_dst (N := 2) rfl ?_); refine box_event ?hg (N := 2) ?hd (cs := #[.int .i64 0, .int .i64 0, .string (⟨#[]⟩ : ByteArray)]) (t := 41) ?hr ?_; (case hd => rfl); (case hg => rfl); (case hr => first | (go_simp; done) | (go_simp; rfl)); intro gb114 hg w5 hbox hb; have n0_ := Aside0.mk (below_step q0_ hb); have n1_ := Aside0.mk (hbox); have n2_ := Aside0.mk ((q1_ : w.heap.size ≤ gb114)); have n3_ := Aside0.mk ((q1_ : w.heap.size ≤ gb114)); clear HB; have HB := n0_; have BK114 := n1_; have GW114 := n2_; have GE114 := n3_; clear n0_ n1_ n2_ n3_; clear hb hbox hg) | (go_at_call 49; (with_reducible refine (strings_IndexByte.calls (a0.extract 2 a0.size) 39 t115 _ A3.out).mono ?_); rintro e w' ⟨rfl, ⟨nd, rfl⟩⟩; (try first | exact ⟨rfl, _, World.drewN_drewN _ _ _⟩ | exact ⟨rfl, _, Eq.trans (World.drewN_drewN _ _ _) (congrArg (World.drewN _) (Nat.add_assoc _ _ _))⟩))))
    (try simp only [Act.put, List.setIfInBounds_toArray, List.set_cons_zero, List.set_cons_succ])
    go_cut [19] (fun v19 wc => ∃ (kq : Nat) (x19_3 : Bool), v19 = .bool x19_3 ∧ Aside0 (lex_raw.j0 kq a0 t115 x19_3 = some (r1, r2, r3, r4, r5)) ∧ Aside0 (kq ≤ k) ∧ Aside0 (wc.heap[gb114]? = some (.cells #[.int .i64 0, .int .i64 0, .string (⟨#[]⟩ : ByteArray)] 41 (0, 0))) ∧ Aside0 (Below w.heap.size w wc))
    case first =>
      have H := HC4.out
      clear HC4
      by_cases c6 : t115 < 0
      · rw [if_pos c6] at H
        have c6b0 : decide (t115 < 0) = true := decide_eq_true c6
        clear c6
        (first | rw [c6b0] | (simp only [i64_w, i32_w]; rw [c6b0]) | skip)
        have H' := Aside0.mk H
        clear H
        go_wp2
        repeat (go_quiet (fail); try go_wp2)
        go_meet
        case rel => exact ⟨_, (true), q11_, H', ⟨by first | omega | exact Nat.le_refl _⟩, ⟨q15_⟩, ⟨q0_⟩⟩
      · rw [if_neg c6] at H
        have c6b0 : decide (t115 < 0) = false := decide_eq_false c6
        clear c6
        (first | rw [c6b0] | (simp only [i64_w, i32_w]; rw [c6b0]) | skip)
        have H' := Aside0.mk H
        clear H
        go_wp2
        repeat (go_quiet (fail); try go_wp2)
        go_meet
        case rel => exact ⟨_, (((Int.tmod t115 2) == 1)), q11_, H', ⟨by first | omega | exact Nat.le_refl _⟩, ⟨q15_⟩, ⟨q0_⟩⟩
    case rest =>
      clear HC4
      try clear c2
      try clear c2b0
      try clear c2b1
      try clear p2
      try clear c6
      try clear c6b0
      obtain ⟨kq, x19_3, rfl, HA, HJ3, BK114, HB⟩ := hcut
      cases kq with
      | zero => exact absurd HA.out (by simp [lex_raw.j0])
      | succ kj3 =>
        have H := HA.out
        clear HA
        simp only [lex_raw.j0] at H
        by_cases c7 : x19_3 = true
        · subst c7
          replace H := ifT_ H
          simp only [Option.some.injEq, Prod.mk.injEq] at H
          obtain ⟨rfl, rfl, rfl, rfl, rfl⟩ := H
          have hcz8_0 : wc.cell? ⟨gb114, 0, none⟩ = some (.int .i64 0) := (blk_cell BK114.out 0).trans rfl
          have hcz8_1 : wc.cell? ⟨gb114, 1, none⟩ = some (.int .i64 0) := (blk_cell BK114.out 1).trans rfl
          have hcz8_2 : wc.cell? ⟨gb114, 2, none⟩ = some (.string (⟨#[]⟩ : ByteArray)) := (blk_cell BK114.out 2).trans rfl
          have hfz8_0 := blk_frozen BK114.out 0
          have hfz8_1 := blk_frozen BK114.out 1
          have hfz8_2 := blk_frozen BK114.out 2
          go_wp2
          repeat (go_quiet (fail); try go_wp2)
          refine bodyPost_ret (results_ctt rfl _ _ gb114 41 #[.int .i64 0, .int .i64 0, .string (⟨#[]⟩ : ByteArray)] (0, 0) _ rfl (by (with_reducible repeat first | apply bN_ | apply bD_ | apply bA_); refine blk_put (cs := #[.int .i64 0, .int .i64 0, .string (⟨#[]⟩ : ByteArray)]) ?_ 2 _ rfl; (with_reducible repeat first | apply bN_ | apply bD_ | apply bA_); refine blk_put (cs := #[.int .i64 0, .int .i64 0, .string (⟨#[]⟩ : ByteArray)]) ?_ 1 _ rfl; (with_reducible repeat first | apply bN_ | apply bD_ | apply bA_); refine blk_put (cs := #[.int .i64 0, .int .i64 0, .string (⟨#[]⟩ : ByteArray)]) ?_ 0 _ rfl; (with_reducible repeat first | apply bN_ | apply bD_ | apply bA_); exact BK114.out) Tryd.underlying41 rfl (by kernel_rfl)) rfl ?_
          exact ⟨q3_, q0_⟩
        · replace c7 := Bool.eq_false_iff.mpr c7
          subst c7
          replace H := ifF_ H
          have H' := Aside0.mk H
          clear H
          go_wp2
          repeat (go_quiet (fail); try go_wp2)
          go_loopg [6, 7] kj3 (fun kq v6 v7 w' => ∃ (x6_2 : List Int) (x7_2 : Int) (x115000_2 : Int) (x115001_2 : Int) (x115002_2 : ByteArray), v7 = .int .i64 x7_2 ∧ Aside0 (lex_raw.l0 kq a0 t115 x6_2 x7_2 = some (r1, r2, r3, r4, r5)) ∧ Aside0 (kq ≤ kj3) ∧ Aside0 (Kd.R (Kd.int .u8) 5 w' w.heap.size (fun _ => True) v6 x6_2) ∧ Aside0 (w'.heap[gb114]? = some (.cells #[.int .i64 x115000_2, .int .i64 x115001_2, .string x115002_2] 41 (0, 0))) ∧ Aside0 (Below w.heap.size w w'))
          case atStart => exact ⟨(([] : List Int)), (2), (0), (0), ((⟨#[]⟩ : ByteArray)), q11_, H', ⟨Nat.le_refl _⟩, ⟨q29_⟩, ⟨q15_⟩, ⟨q0_⟩⟩
          case round =>
            clear H'
            try clear c2
            try clear c2b0
            try clear c2b1
            try clear p2
            try clear c6
            try clear c6b0
            try clear c7
            try clear hcz8_0
            try clear hcz8_1
            try clear hcz8_2
            try clear hfz8_0
            try clear hfz8_1
            try clear hfz8_2
            try clear p2
            obtain ⟨x6_2, x7_2, x115000_2, x115001_2, x115002_2, rfl, HA, HK2, HO_6, BK114, HB⟩ := hrel
            cases gk with
            | zero => exact absurd HA.out (by simp [lex_raw.l0])
            | succ k2 =>
              have H := HA.out
              clear HA
              simp only [lex_raw.l0] at H
              by_cases c9 : x7_2 < (wrap64 (t115 + 2))
              · rw [if_pos c9] at H
                have c9b0 : decide (x7_2 < (wrap64 (t115 + 2))) = true := decide_eq_true c9
                clear c9
                by_cases c10 : 0 ≤ x7_2
                · rw [if_pos c10] at H
                  have c10b0 : decide (0 ≤ x7_2) = true := decide_eq_true c10
                  clear c10
                  by_cases c11 : x7_2 < (a0.size : Int)
                  · rw [if_pos c11] at H
                    have c11b0 : decide (x7_2 < (a0.size : Int)) = true := decide_eq_true c11
                    clear c11
                    replace H := Option.bind_eq_some_iff.mp H
                    obtain ⟨t121, A130, H⟩ := H
                    replace H : (if 0 ≤ (wrap64 (x7_2 + 1)) then (if (wrap64 (x7_2 + 1)) < (a0.size : Int) then ((strings_IndexByte.f (⟨#[48, 49, 50, 51, 52, 53, 54, 55, 56, 57, 97, 98, 99, 100, 101, 102]⟩ : ByteArray) (bt a0 (wrap64 (x7_2 + 1)))).bind fun t122 => (if t121 < 0 then (some (0, 0, (⟨#[]⟩ : ByteArray), 0, 3)) else (if t122 < 0 then (some (0, 0, (⟨#[]⟩ : ByteArray), 0, 3)) else (if x6_2.length < 140737488355328 then (lex_raw.l0 k2 a0 t115 (x6_2 ++ [(wrap64 ((wrap64 (16 * t121)) + t122)) % 256]) (wrap64 (x7_2 + 2))) else (none))))) else (none)) else (none)) = some (r1, r2, r3, r4, r5) := H
                    have A13 := Aside0.mk A130
                    clear A130
                    obtain ⟨ji14, hji14⟩ : ∃ j_ : Int, (wrap64 (x7_2 + 1)) = j_ := ⟨_, rfl⟩
                    replace H : (if 0 ≤ (ji14) then (if (ji14) < (a0.size : Int) then ((strings_IndexByte.f (⟨#[48, 49, 50, 51, 52, 53, 54, 55, 56, 57, 97, 98, 99, 100, 101, 102]⟩ : ByteArray) (bt a0 (ji14))).bind fun t122 => (if t121 < 0 then (some (0, 0, (⟨#[]⟩ : ByteArray), 0, 3)) else (if t122 < 0 then (some (0, 0, (⟨#[]⟩ : ByteArray), 0, 3)) else (if x6_2.length < 140737488355328 then (lex_raw.l0 k2 a0 t115 (x6_2 ++ [(wrap64 ((wrap64 (16 * t121)) + t122)) % 256]) (wrap64 (x7_2 + 2))) else (none))))) else (none)) else (none)) = some (r1, r2, r3, r4, r5) := by first | (rw [hji14] at H; exact H) | (simp only [hji14] at H ⊢; exact H)
                    (try rw [hji14] at A13)
                    have hji14w : (IntKind.i64.wrap (x7_2 + 1)) = ji14 := (i64_w _).trans hji14
                    by_cases c15 : 0 ≤ (ji14)
                    · rw [if_pos c15] at H
                      have c15b0 : decide (0 ≤ (ji14)) = true := decide_eq_true c15
                      clear c15
                      by_cases c16 : (ji14) < (a0.size : Int)
                      · rw [if_pos c16] at H
                        have c16b0 : decide ((ji14) < (a0.size : Int)) = true := decide_eq_true c16
                        clear c16
                        replace H := Option.bind_eq_some_iff.mp H
                        obtain ⟨t122, A180, H⟩ := H
                        replace H : (if t121 < 0 then (some (0, 0, (⟨#[]⟩ : ByteArray), 0, 3)) else (if t122 < 0 then (some (0, 0, (⟨#[]⟩ : ByteArray), 0, 3)) else (if x6_2.length < 140737488355328 then (lex_raw.l0 k2 a0 t115 (x6_2 ++ [(wrap64 ((wrap64 (16 * t121)) + t122)) % 256]) (wrap64 (x7_2 + 2))) else (none)))) = some (r1, r2, r3, r4, r5) := H
                        have A18 := Aside0.mk A180
                        clear A180
                        by_cases c19 : t121 < 0
                        · rw [if_pos c19] at H
                          have c19b0 : decide (t121 < 0) = true := decide_eq_true c19
                          clear c19
                          simp only [Option.some.injEq, Prod.mk.injEq] at H
                          obtain ⟨rfl, rfl, rfl, rfl, rfl⟩ := H
                          have p12 : 0 ≤ (x7_2 : Int) := of_decide_eq_true q5_
                          have q12 : x7_2 < (a0.size : Int) := of_decide_eq_true q5_
                          have hx12 := bt_at a0 x7_2
                          replace p12 := eq_true p12
                          replace q12 := eq_true q12
                          go_wp2_with (first | (go_at_call 49; (with_reducible refine (strings_IndexByte.calls (⟨#[48, 49, 50, 51, 52, 53, 54, 55, 56, 57, 97, 98, 99, 100, 101, 102]⟩ : ByteArray) (bt a0 x7_2) t121 _ A13.out).mono ?_); rintro e w' ⟨rfl, ⟨nd, rfl⟩⟩; (try first | exact ⟨rfl, _, World.drewN_drewN _ _ _⟩ | exact ⟨rfl, _, Eq.trans (World.drewN_drewN _ _ _) (congrArg (World.drewN _) (Nat.add_assoc _ _ _))⟩); have p17 : 0 ≤ ((ji14) : Int) := of_decide_eq_true q5_; have q17 : (ji14) < (a0.size : Int) := of_decide_eq_true q5_; have hx17 := bt_at a0 (ji14); replace p17 := eq_true p17; replace q17 := eq_true q17) | (go_at_call 49; (with_reducible refine (strings_IndexByte.calls (⟨#[48, 49, 50, 51, 52, 53, 54, 55, 56, 57, 97, 98, 99, 100, 101, 102]⟩ : ByteArray) (bt a0 (ji14)) t122 _ A18.out).mono ?_); rintro e w' ⟨rfl, ⟨nd, rfl⟩⟩; (try first | exact ⟨rfl, _, World.drewN_drewN _ _ _⟩ | exact ⟨rfl, _, Eq.trans (World.drewN_drewN _ _ _) (congrArg (World.drewN _) (Nat.add_assoc _ _ _))⟩); have hcz20_0 : wr.cell? ⟨gb114, 0, none⟩ = some (.int .i64 x115000_2) := (blk_cell BK114.out 0).trans rfl; have hcz20_1 : wr.cell? ⟨gb114, 1, none⟩ = some (.int .i64 x115001_2) := (blk_cell BK114.out 1).trans rfl; have hcz20_2 : wr.cell? ⟨gb114, 2, none⟩ = some (.string x115002_2) := (blk_cell BK114.out 2).trans rfl; have hfz20_0 := blk_frozen BK114.out 0; have hfz20_1 := blk_frozen BK114.out 1; have hfz20_2 := blk_frozen BK114.out 2))
                          repeat (go_quiet (first | (go_at_call 49; (with_reducible refine (strings_IndexByte.calls (⟨#[48, 49, 50, 51, 52, 53, 54, 55, 56, 57, 97, 98, 99, 100, 101, 102]⟩ : ByteArray) (bt a0 x7_2) t121 _ A13.out).mono ?_); rintro e w' ⟨rfl, ⟨nd, rfl⟩⟩; (try first | exact ⟨rfl, _, World.drewN_drewN _ _ _⟩ | exact ⟨rfl, _, Eq.trans (World.drewN_drewN _ _ _) (congrArg (World.drewN _) (Nat.add_assoc _ _ _))⟩); have p17 : 0 ≤ ((ji14) : Int) := of_decide_eq_true q5_; have q17 : (ji14) < (a0.size : Int) := of_decide_eq_true q5_; have hx17 := bt_at a0 (ji14); replace p17 := eq_true p17; replace q17 := eq_true q17) | (go_at_call 49; (with_reducible refine (strings_IndexByte.calls (⟨#[48, 49, 50, 51, 52, 53, 54, 55, 56, 57, 97, 98, 99, 100, 101, 102]⟩ : ByteArray) (bt a0 (ji14)) t122 _ A18.out).mono ?_); rintro e w' ⟨rfl, ⟨nd, rfl⟩⟩; (try first | exact ⟨rfl, _, World.drewN_drewN _ _ _⟩ | exact ⟨rfl, _, Eq.trans (World.drewN_drewN _ _ _) (congrArg (World.drewN _) (Nat.add_assoc _ _ _))⟩); have hcz20_0 : wr.cell? ⟨gb114, 0, none⟩ = some (.int .i64 x115000_2) := (blk_cell BK114.out 0).trans rfl; have hcz20_1 : wr.cell? ⟨gb114, 1, none⟩ = some (.int .i64 x115001_2) := (blk_cell BK114.out 1).trans rfl; have hcz20_2 : wr.cell? ⟨gb114, 2, none⟩ = some (.string x115002_2) := (blk_cell BK114.out 2).trans rfl; have hfz20_0 := blk_frozen BK114.out 0; have hfz20_1 := blk_frozen BK114.out 1; have hfz20_2 := blk_frozen BK114.out 2)); try go_wp2_with (first | (go_at_call 49; (with_reducible refine (strings_IndexByte.calls (⟨#[48, 49, 50, 51, 52, 53, 54, 55, 56, 57, 97, 98, 99, 100, 101, 102]⟩ : ByteArray) (bt a0 x7_2) t121 _ A13.out).mono ?_); rintro e w' ⟨rfl, ⟨nd, rfl⟩⟩; (try first | exact ⟨rfl, _, World.drewN_drewN _ _ _⟩ | exact ⟨rfl, _, Eq.trans (World.drewN_drewN _ _ _) (congrArg (World.drewN _) (Nat.add_assoc _ _ _))⟩); have p17 : 0 ≤ ((ji14) : Int) := of_decide_eq_true q5_; have q17 : (ji14) < (a0.size : Int) := of_decide_eq_true q5_; have hx17 := bt_at a0 (ji14); replace p17 := eq_true p17; replace q17 := eq_true q17) | (go_at_call 49; (with_reducible refine (strings_IndexByte.calls (⟨#[48, 49, 50, 51, 52, 53, 54, 55, 56, 57, 97, 98, 99, 100, 101, 102]⟩ : ByteArray) (bt a0 (ji14)) t122 _ A18.out).mono ?_); rintro e w' ⟨rfl, ⟨nd, rfl⟩⟩; (try first | exact ⟨rfl, _, World.drewN_drewN _ _ _⟩ | exact ⟨rfl, _, Eq.trans (World.drewN_drewN _ _ _) (congrArg (World.drewN _) (Nat.add_assoc _ _ _))⟩); have hcz20_0 : wr.cell? ⟨gb114, 0, none⟩ = some (.int .i64 x115000_2) := (blk_cell BK114.out 0).trans rfl; have hcz20_1 : wr.cell? ⟨gb114, 1, none⟩ = some (.int .i64 x115001_2) := (blk_cell BK114.out 1).trans rfl; have hcz20_2 : wr.cell? ⟨gb114, 2, none⟩ = some (.string x115002_2) := (blk_cell BK114.out 2).trans rfl; have hfz20_0 := blk_frozen BK114.out 0; have hfz20_1 := blk_frozen BK114.out 1; have hfz20_2 := blk_frozen BK114.out 2)))
                          refine bodyPost_ret (results_ctt rfl _ _ gb114 41 #[.int .i64 0, .int .i64 0, .string (⟨#[]⟩ : ByteArray)] (0, 0) _ rfl q25_ Tryd.underlying41 rfl (by kernel_rfl)) rfl ?_
                          exact ⟨by first | rfl | (simp [errW_none, errW_some] <;> rfl) | (simp only [← hji14]; first | rfl | (simp [errW_none, errW_some] <;> rfl)) | (simp [*, errW_none, errW_some] <;> rfl), q0_⟩
                        · rw [if_neg c19] at H
                          have c19b0 : decide (t121 < 0) = false := decide_eq_false c19
                          clear c19
                          by_cases c21 : t122 < 0
                          · rw [if_pos c21] at H
                            have c21b0 : decide (t122 < 0) = true := decide_eq_true c21
                            clear c21
                            simp only [Option.some.injEq, Prod.mk.injEq] at H
                            obtain ⟨rfl, rfl, rfl, rfl, rfl⟩ := H
                            have p12 : 0 ≤ (x7_2 : Int) := of_decide_eq_true q5_
                            have q12 : x7_2 < (a0.size : Int) := of_decide_eq_true q5_
                            have hx12 := bt_at a0 x7_2
                            replace p12 := eq_true p12
                            replace q12 := eq_true q12
                            go_wp2_with (first | (go_at_call 49; (with_reducible refine (strings_IndexByte.calls (⟨#[48, 49, 50, 51, 52, 53, 54, 55, 56, 57, 97, 98, 99, 100, 101, 102]⟩ : ByteArray) (bt a0 x7_2) t121 _ A13.out).mono ?_); rintro e w' ⟨rfl, ⟨nd, rfl⟩⟩; (try first | exact ⟨rfl, _, World.drewN_drewN _ _ _⟩ | exact ⟨rfl, _, Eq.trans (World.drewN_drewN _ _ _) (congrArg (World.drewN _) (Nat.add_assoc _ _ _))⟩); have p17 : 0 ≤ ((ji14) : Int) := of_decide_eq_true q5_; have q17 : (ji14) < (a0.size : Int) := of_decide_eq_true q5_; have hx17 := bt_at a0 (ji14); replace p17 := eq_true p17; replace q17 := eq_true q17) | (go_at_call 49; (with_reducible refine (strings_IndexByte.calls (⟨#[48, 49, 50, 51, 52, 53, 54, 55, 56, 57, 97, 98, 99, 100, 101, 102]⟩ : ByteArray) (bt a0 (ji14)) t122 _ A18.out).mono ?_); rintro e w' ⟨rfl, ⟨nd, rfl⟩⟩; (try first | exact ⟨rfl, _, World.drewN_drewN _ _ _⟩ | exact ⟨rfl, _, Eq.trans (World.drewN_drewN _ _ _) (congrArg (World.drewN _) (Nat.add_assoc _ _ _))⟩); have hcz22_0 : wr.cell? ⟨gb114, 0, none⟩ = some (.int .i64 x115000_2) := (blk_cell BK114.out 0).trans rfl; have hcz22_1 : wr.cell? ⟨gb114, 1, none⟩ = some (.int .i64 x115001_2) := (blk_cell BK114.out 1).trans rfl; have hcz22_2 : wr.cell? ⟨gb114, 2, none⟩ = some (.string x115002_2) := (blk_cell BK114.out 2).trans rfl; have hfz22_0 := blk_frozen BK114.out 0; have hfz22_1 := blk_frozen BK114.out 1; have hfz22_2 := blk_frozen BK114.out 2))
                            repeat (go_quiet (first | (go_at_call 49; (with_reducible refine (strings_IndexByte.calls (⟨#[48, 49, 50, 51, 52, 53, 54, 55, 56, 57, 97, 98, 99, 100, 101, 102]⟩ : ByteArray) (bt a0 x7_2) t121 _ A13.out).mono ?_); rintro e w' ⟨rfl, ⟨nd, rfl⟩⟩; (try first | exact ⟨rfl, _, World.drewN_drewN _ _ _⟩ | exact ⟨rfl, _, Eq.trans (World.drewN_drewN _ _ _) (congrArg (World.drewN _) (Nat.add_assoc _ _ _))⟩); have p17 : 0 ≤ ((ji14) : Int) := of_decide_eq_true q5_; have q17 : (ji14) < (a0.size : Int) := of_decide_eq_true q5_; have hx17 := bt_at a0 (ji14); replace p17 := eq_true p17; replace q17 := eq_true q17) | (go_at_call 49; (with_reducible refine (strings_IndexByte.calls (⟨#[48, 49, 50, 51, 52, 53, 54, 55, 56, 57, 97, 98, 99, 100, 101, 102]⟩ : ByteArray) (bt a0 (ji14)) t122 _ A18.out).mono ?_); rintro e w' ⟨rfl, ⟨nd, rfl⟩⟩; (try first | exact ⟨rfl, _, World.drewN_drewN _ _ _⟩ | exact ⟨rfl, _, Eq.trans (World.drewN_drewN _ _ _) (congrArg (World.drewN _) (Nat.add_assoc _ _ _))⟩); have hcz22_0 : wr.cell? ⟨gb114, 0, none⟩ = some (.int .i64 x115000_2) := (blk_cell BK114.out 0).trans rfl; have hcz22_1 : wr.cell? ⟨gb114, 1, none⟩ = some (.int .i64 x115001_2) := (blk_cell BK114.out 1).trans rfl; have hcz22_2 : wr.cell? ⟨gb114, 2, none⟩ = some (.string x115002_2) := (blk_cell BK114.out 2).trans rfl; have hfz22_0 := blk_frozen BK114.out 0; have hfz22_1 := blk_frozen BK114.out 1; have hfz22_2 := blk_frozen BK114.out 2)); try go_wp2_with (first | (go_at_call 49; (with_reducible refine (strings_IndexByte.calls (⟨#[48, 49, 50, 51, 52, 53, 54, 55, 56, 57, 97, 98, 99, 100, 101, 102]⟩ : ByteArray) (bt a0 x7_2) t121 _ A13.out).mono ?_); rintro e w' ⟨rfl, ⟨nd, rfl⟩⟩; (try first | exact ⟨rfl, _, World.drewN_drewN _ _ _⟩ | exact ⟨rfl, _, Eq.trans (World.drewN_drewN _ _ _) (congrArg (World.drewN _) (Nat.add_assoc _ _ _))⟩); have p17 : 0 ≤ ((ji14) : Int) := of_decide_eq_true q5_; have q17 : (ji14) < (a0.size : Int) := of_decide_eq_true q5_; have hx17 := bt_at a0 (ji14); replace p17 := eq_true p17; replace q17 := eq_true q17) | (go_at_call 49; (with_reducible refine (strings_IndexByte.calls (⟨#[48, 49, 50, 51, 52, 53, 54, 55, 56, 57, 97, 98, 99, 100, 101, 102]⟩ : ByteArray) (bt a0 (ji14)) t122 _ A18.out).mono ?_); rintro e w' ⟨rfl, ⟨nd, rfl⟩⟩; (try first | exact ⟨rfl, _, World.drewN_drewN _ _ _⟩ | exact ⟨rfl, _, Eq.trans (World.drewN_drewN _ _ _) (congrArg (World.drewN _) (Nat.add_assoc _ _ _))⟩); have hcz22_0 : wr.cell? ⟨gb114, 0, none⟩ = some (.int .i64 x115000_2) := (blk_cell BK114.out 0).trans rfl; have hcz22_1 : wr.cell? ⟨gb114, 1, none⟩ = some (.int .i64 x115001_2) := (blk_cell BK114.out 1).trans rfl; have hcz22_2 : wr.cell? ⟨gb114, 2, none⟩ = some (.string x115002_2) := (blk_cell BK114.out 2).trans rfl; have hfz22_0 := blk_frozen BK114.out 0; have hfz22_1 := blk_frozen BK114.out 1; have hfz22_2 := blk_frozen BK114.out 2)))
                            refine bodyPost_ret (results_ctt rfl _ _ gb114 41 #[.int .i64 0, .int .i64 0, .string (⟨#[]⟩ : ByteArray)] (0, 0) _ rfl q25_ Tryd.underlying41 rfl (by kernel_rfl)) rfl ?_
                            exact ⟨by first | rfl | (simp [errW_none, errW_some] <;> rfl) | (simp only [← hji14]; first | rfl | (simp [errW_none, errW_some] <;> rfl)) | (simp [*, errW_none, errW_some] <;> rfl), q0_⟩
                          · rw [if_neg c21] at H
                            have c21b0 : decide (t122 < 0) = false := decide_eq_false c21
                            clear c21
                            by_cases c23 : x6_2.length < 140737488355328
                            · rw [if_pos c23] at H
                              have LMc23 := Aside0.mk c23
                              clear c23
                              obtain ⟨y123, hy123⟩ : ∃ y_ : List Int, y_ = (x6_2 ++ [(wrap64 ((wrap64 (16 * t121)) + t122)) % 256]) := ⟨_, rfl⟩
                              replace H : (lex_raw.l0 k2 a0 t115 y123 (wrap64 (x7_2 + 2))) = some (r1, r2, r3, r4, r5) := by first | (rw [hy123]; with_reducible exact H) | (have H2_ := (Option.bind_some _ _).symm.trans H; rw [hy123]; with_reducible exact H2_) | (have H2_ := (Option.bind_some _ _).symm.trans H; with_reducible exact H2_) | with_reducible exact H | (rw [hy123]; exact H) | exact H
                              have Ny123 := Aside0.mk hy123
                              clear hy123
                              have H' := Aside0.mk H
                              clear H
                              have p12 : 0 ≤ (x7_2 : Int) := of_decide_eq_true q5_
                              have q12 : x7_2 < (a0.size : Int) := of_decide_eq_true q5_
                              have hx12 := bt_at a0 x7_2
                              replace p12 := eq_true p12
                              replace q12 := eq_true q12
                              go_wp2_with (first | (go_at_call 49; (with_reducible refine (strings_IndexByte.calls (⟨#[48, 49, 50, 51, 52, 53, 54, 55, 56, 57, 97, 98, 99, 100, 101, 102]⟩ : ByteArray) (bt a0 x7_2) t121 _ A13.out).mono ?_); rintro e w' ⟨rfl, ⟨nd, rfl⟩⟩; (try first | exact ⟨rfl, _, World.drewN_drewN _ _ _⟩ | exact ⟨rfl, _, Eq.trans (World.drewN_drewN _ _ _) (congrArg (World.drewN _) (Nat.add_assoc _ _ _))⟩); have p17 : 0 ≤ ((ji14) : Int) := of_decide_eq_true q5_; have q17 : (ji14) < (a0.size : Int) := of_decide_eq_true q5_; have hx17 := bt_at a0 (ji14); replace p17 := eq_true p17; replace q17 := eq_true q17) | (go_at_call 49; (with_reducible refine (strings_IndexByte.calls (⟨#[48, 49, 50, 51, 52, 53, 54, 55, 56, 57, 97, 98, 99, 100, 101, 102]⟩ : ByteArray) (bt a0 (ji14)) t122 _ A18.out).mono ?_); rintro e w' ⟨rfl, ⟨nd, rfl⟩⟩; (try first | exact ⟨rfl, _, World.drewN_drewN _ _ _⟩ | exact ⟨rfl, _, Eq.trans (World.drewN_drewN _ _ _) (congrArg (World.drewN _) (Nat.add_assoc _ _ _))⟩)) | ((with_reducible refine gate_builtin (b := .append) (xs := #[.tmp 43, .tmp 49]) rfl ?_); at_builtin; refine Kd.R_append (Kd.int .u8) (w0 := w) w.heap.size rfl (.tmp 43) (.tmp 49) 53 5 (.int .u8 0) 1 rfl Tryd.underlying53 info5 rfl (by decide) (by omega) u6 x6_2 ((wrap64 ((wrap64 (16 * t121)) + t122)) % 256) [.int .u8 ((wrap64 ((wrap64 (16 * t121)) + t122)) % 256)] (fun _ => True) (fun _ => False) rfl rfl ?aP (fun _ hk => hk.elim) ?aF ?aO ?aB ?aS ?aL ?_; (case aP => exact rfl); (case aB => exact q0_); (case aF => exact (fun _ _ => trivial)); (case aO => exact q27_); (case aS => exact (below_size q0_)); (case aL => have := LMc23.out; omega); intro v124 w24 ho hb hg hat; rw [← Ny123.out] at ho; have n0_ := Aside0.mk (blk_grown (g := gb114) (o := .cells #[.int .i64 x115000_2, .int .i64 x115001_2, .string x115002_2] 41 (0, 0)) q15_ hg (Kd.R_ne HO_6.out BK114.out (by decide))); have n1_ := Aside0.mk (hb); have n2_ := Aside0.mk (ho); clear BK114; clear HB; clear HO_6; have BK114 := n0_; have HB := n1_; have HO125 := n2_; clear n0_ n1_ n2_; clear ho hb hg hat))
                              repeat (go_quiet (first | (go_at_call 49; (with_reducible refine (strings_IndexByte.calls (⟨#[48, 49, 50, 51, 52, 53, 54, 55, 56, 57, 97, 98, 99, 100, 101, 102]⟩ : ByteArray) (bt a0 x7_2) t121 _ A13.out).mono ?_); rintro e w' ⟨rfl, ⟨nd, rfl⟩⟩; (try first | exact ⟨rfl, _, World.drewN_drewN _ _ _⟩ | exact ⟨rfl, _, Eq.trans (World.drewN_drewN _ _ _) (congrArg (World.drewN _) (Nat.add_assoc _ _ _))⟩); have p17 : 0 ≤ ((ji14) : Int) := of_decide_eq_true q5_; have q17 : (ji14) < (a0.size : Int) := of_decide_eq_true q5_; have hx17 := bt_at a0 (ji14); replace p17 := eq_true p17; replace q17 := eq_true q17) | (go_at_call 49; (with_reducible refine (strings_IndexByte.calls (⟨#[48, 49, 50, 51, 52, 53, 54, 55, 56, 57, 97, 98, 99, 100, 101, 102]⟩ : ByteArray) (bt a0 (ji14)) t122 _ A18.out).mono ?_); rintro e w' ⟨rfl, ⟨nd, rfl⟩⟩; (try first | exact ⟨rfl, _, World.drewN_drewN _ _ _⟩ | exact ⟨rfl, _, Eq.trans (World.drewN_drewN _ _ _) (congrArg (World.drewN _) (Nat.add_assoc _ _ _))⟩)) | ((with_reducible refine gate_builtin (b := .append) (xs := #[.tmp 43, .tmp 49]) rfl ?_); at_builtin; refine Kd.R_append (Kd.int .u8) (w0 := w) w.heap.size rfl (.tmp 43) (.tmp 49) 53 5 (.int .u8 0) 1 rfl Tryd.underlying53 info5 rfl (by decide) (by omega) u6 x6_2 ((wrap64 ((wrap64 (16 * t121)) + t122)) % 256) [.int .u8 ((wrap64 ((wrap64 (16 * t121)) + t122)) % 256)] (fun _ => True) (fun _ => False) rfl rfl ?aP (fun _ hk => hk.elim) ?aF ?aO ?aB ?aS ?aL ?_; (case aP => exact rfl); (case aB => exact q0_); (case aF => exact (fun _ _ => trivial)); (case aO => exact q27_); (case aS => exact (below_size q0_)); (case aL => have := LMc23.out; omega); intro v124 w24 ho hb hg hat; rw [← Ny123.out] at ho; have n0_ := Aside0.mk (blk_grown (g := gb114) (o := .cells #[.int .i64 x115000_2, .int .i64 x115001_2, .string x115002_2] 41 (0, 0)) q15_ hg (Kd.R_ne HO_6.out BK114.out (by decide))); have n1_ := Aside0.mk (hb); have n2_ := Aside0.mk (ho); clear BK114; clear HB; clear HO_6; have BK114 := n0_; have HB := n1_; have HO125 := n2_; clear n0_ n1_ n2_; clear ho hb hg hat)); try go_wp2_with (first | (go_at_call 49; (with_reducible refine (strings_IndexByte.calls (⟨#[48, 49, 50, 51, 52, 53, 54, 55, 56, 57, 97, 98, 99, 100, 101, 102]⟩ : ByteArray) (bt a0 x7_2) t121 _ A13.out).mono ?_); rintro e w' ⟨rfl, ⟨nd, rfl⟩⟩; (try first | exact ⟨rfl, _, World.drewN_drewN _ _ _⟩ | exact ⟨rfl, _, Eq.trans (World.drewN_drewN _ _ _) (congrArg (World.drewN _) (Nat.add_assoc _ _ _))⟩); have p17 : 0 ≤ ((ji14) : Int) := of_decide_eq_true q5_; have q17 : (ji14) < (a0.size : Int) := of_decide_eq_true q5_; have hx17 := bt_at a0 (ji14); replace p17 := eq_true p17; replace q17 := eq_true q17) | (go_at_call 49; (with_reducible refine (strings_IndexByte.calls (⟨#[48, 49, 50, 51, 52, 53, 54, 55, 56, 57, 97, 98, 99, 100, 101, 102]⟩ : ByteArray) (bt a0 (ji14)) t122 _ A18.out).mono ?_); rintro e w' ⟨rfl, ⟨nd, rfl⟩⟩; (try first | exact ⟨rfl, _, World.drewN_drewN _ _ _⟩ | exact ⟨rfl, _, Eq.trans (World.drewN_drewN _ _ _) (congrArg (World.drewN _) (Nat.add_assoc _ _ _))⟩)) | ((with_reducible refine gate_builtin (b := .append) (xs := #[.tmp 43, .tmp 49]) rfl ?_); at_builtin; refine Kd.R_append (Kd.int .u8) (w0 := w) w.heap.size rfl (.tmp 43) (.tmp 49) 53 5 (.int .u8 0) 1 rfl Tryd.underlying53 info5 rfl (by decide) (by omega) u6 x6_2 ((wrap64 ((wrap64 (16 * t121)) + t122)) % 256) [.int .u8 ((wrap64 ((wrap64 (16 * t121)) + t122)) % 256)] (fun _ => True) (fun _ => False) rfl rfl ?aP (fun _ hk => hk.elim) ?aF ?aO ?aB ?aS ?aL ?_; (case aP => exact rfl); (case aB => exact q0_); (case aF => exact (fun _ _ => trivial)); (case aO => exact q27_); (case aS => exact (below_size q0_)); (case aL => have := LMc23.out; omega); intro v124 w24 ho hb hg hat; rw [← Ny123.out] at ho; have n0_ := Aside0.mk (blk_grown (g := gb114) (o := .cells #[.int .i64 x115000_2, .int .i64 x115001_2, .string x115002_2] 41 (0, 0)) q15_ hg (Kd.R_ne HO_6.out BK114.out (by decide))); have n1_ := Aside0.mk (hb); have n2_ := Aside0.mk (ho); clear BK114; clear HB; clear HO_6; have BK114 := n0_; have HB := n1_; have HO125 := n2_; clear n0_ n1_ n2_; clear ho hb hg hat)))
                              go_roundg k2
                              case measure => have := HJ3.out; have := HK2.out; omega
                              case rel => exact ⟨(y123), (wrap64 (x7_2 + 2)), (x115000_2), (x115001_2), (x115002_2), q11_, H', ⟨by have := HJ3.out; have := HK2.out; omega⟩, ⟨by (with_reducible repeat (first | apply Kd.R_alloc | apply Kd.R_drewN | apply Kd.R_drew)); exact HO125.out⟩, ⟨q15_⟩, ⟨q0_⟩⟩
                            · rw [if_neg c23] at H
                              exact absurd H (by simp)
                      · rw [if_neg c16] at H
                        exact absurd H (by simp)
                    · rw [if_neg c15] at H
                      exact absurd H (by simp)
                  · rw [if_neg c11] at H
                    exact absurd H (by simp)
                · rw [if_neg c10] at H
                  exact absurd H (by simp)
              · rw [if_neg c9] at H
                have c9b0 : decide (x7_2 < (wrap64 (t115 + 2))) = false := decide_eq_false c9
                clear c9
                replace H := Option.bind_eq_some_iff.mp H
                obtain ⟨⟨t116, t117, t118, t119, t120⟩, A250, H⟩ := H
                replace H : (some (t116, t117, t118, t119, t120)) = some (r1, r2, r3, r4, r5) := H
                have A25 := Aside0.mk A250
                clear A250
                simp only [Option.some.injEq, Prod.mk.injEq] at H
                obtain ⟨rfl, rfl, rfl, rfl, rfl⟩ := H
                have hcv26 := own_string (P := Tryd.prog) Tryd.underlying53 Tryd.underlying5 Tryd.underlying9 (Kd.own_of_R HO_6.out)
                go_wp2_with (first | (go_at_call 50; (with_reducible refine (lex_checked.calls 4 0 (strOfNums x6_2) (wrap64 (t115 + 3)) t116 t117 t118 t119 t120 _ A25.out q20_).mono ?_); rintro e w27 ⟨rfl, hb⟩; have n0_ := Aside0.mk (Kd.R_below q27_ hb); have n1_ := Aside0.mk (blk_below (g := gb114) (o := .cells #[.int .i64 x115000_2, .int .i64 x115001_2, .string x115002_2] 41 (0, 0)) q15_ hb); have n2_ := Aside0.mk (below_step q0_ hb); clear HO_6; clear BK114; clear HB; have HO_6 := n0_; have BK114 := n1_; have HB := n2_; clear n0_ n1_ n2_; (try clear hb); (try clear hb2); (try clear hk); (try clear hi); have hcz28_0 : w27.cell? ⟨gb114, 0, none⟩ = some (.int .i64 x115000_2) := (blk_cell BK114.out 0).trans rfl; have hcz28_1 : w27.cell? ⟨gb114, 1, none⟩ = some (.int .i64 x115001_2) := (blk_cell BK114.out 1).trans rfl; have hcz28_2 : w27.cell? ⟨gb114, 2, none⟩ = some (.string x115002_2) := (blk_cell BK114.out 2).trans rfl; have hfz28_0 := blk_frozen BK114.out 0; have hfz28_1 := blk_frozen BK114.out 1; have hfz28_2 := blk_frozen BK114.out 2))
                repeat (go_quiet (first | (go_at_call 50; (with_reducible refine (lex_checked.calls 4 0 (strOfNums x6_2) (wrap64 (t115 + 3)) t116 t117 t118 t119 t120 _ A25.out q20_).mono ?_); rintro e w27 ⟨rfl, hb⟩; have n0_ := Aside0.mk (Kd.R_below q27_ hb); have n1_ := Aside0.mk (blk_below (g := gb114) (o := .cells #[.int .i64 x115000_2, .int .i64 x115001_2, .string x115002_2] 41 (0, 0)) q15_ hb); have n2_ := Aside0.mk (below_step q0_ hb); clear HO_6; clear BK114; clear HB; have HO_6 := n0_; have BK114 := n1_; have HB := n2_; clear n0_ n1_ n2_; (try clear hb); (try clear hb2); (try clear hk); (try clear hi); have hcz28_0 : w27.cell? ⟨gb114, 0, none⟩ = some (.int .i64 x115000_2) := (blk_cell BK114.out 0).trans rfl; have hcz28_1 : w27.cell? ⟨gb114, 1, none⟩ = some (.int .i64 x115001_2) := (blk_cell BK114.out 1).trans rfl; have hcz28_2 : w27.cell? ⟨gb114, 2, none⟩ = some (.string x115002_2) := (blk_cell BK114.out 2).trans rfl; have hfz28_0 := blk_frozen BK114.out 0; have hfz28_1 := blk_frozen BK114.out 1; have hfz28_2 := blk_frozen BK114.out 2)); try go_wp2_with (first | (go_at_call 50; (with_reducible refine (lex_checked.calls 4 0 (strOfNums x6_2) (wrap64 (t115 + 3)) t116 t117 t118 t119 t120 _ A25.out q20_).mono ?_); rintro e w27 ⟨rfl, hb⟩; have n0_ := Aside0.mk (Kd.R_below q27_ hb); have n1_ := Aside0.mk (blk_below (g := gb114) (o := .cells #[.int .i64 x115000_2, .int .i64 x115001_2, .string x115002_2] 41 (0, 0)) q15_ hb); have n2_ := Aside0.mk (below_step q0_ hb); clear HO_6; clear BK114; clear HB; have HO_6 := n0_; have BK114 := n1_; have HB := n2_; clear n0_ n1_ n2_; (try clear hb); (try clear hb2); (try clear hk); (try clear hi); have hcz28_0 : w27.cell? ⟨gb114, 0, none⟩ = some (.int .i64 x115000_2) := (blk_cell BK114.out 0).trans rfl; have hcz28_1 : w27.cell? ⟨gb114, 1, none⟩ = some (.int .i64 x115001_2) := (blk_cell BK114.out 1).trans rfl; have hcz28_2 : w27.cell? ⟨gb114, 2, none⟩ = some (.string x115002_2) := (blk_cell BK114.out 2).trans rfl; have hfz28_0 := blk_frozen BK114.out 0; have hfz28_1 := blk_frozen BK114.out 1; have hfz28_2 := blk_frozen BK114.out 2)))
                refine bodyPost_ret (results_ctt rfl _ _ gb114 41 #[.int .i64 t116, .int .i64 t117, .string t118] (0, 0) _ rfl (by (with_reducible repeat first | apply bN_ | apply bD_ | apply bA_); refine blk_put (cs := #[.int .i64 t116, .int .i64 t117, .string x115002_2]) ?_ 2 _ rfl; (with_reducible repeat first | apply bN_ | apply bD_ | apply bA_); refine blk_put (cs := #[.int .i64 t116, .int .i64 x115001_2, .string x115002_2]) ?_ 1 _ rfl; (with_reducible repeat first | apply bN_ | apply bD_ | apply bA_); refine blk_put (cs := #[.int .i64 x115000_2, .int .i64 x115001_2, .string x115002_2]) ?_ 0 _ rfl; (with_reducible repeat first | apply bN_ | apply bD_ | apply bA_); exact BK114.out) Tryd.underlying41 rfl (by kernel_rfl)) rfl ?_
                exact ⟨q3_, q0_⟩
  · rw [if_neg c2] at H
    exact absurd H (by simp)


/-! ### lex_letter: function 30 -/
def lex_letter.f (a0 : Int) : Option (Bool) := if a0 ≥ 97 then (some (decide (a0 ≤ 122))) else (some false)
set_option maxHeartbeats 8000000 in
set_option maxRecDepth 100000 in
theorem lex_letter.calls (a0 : Int) (r : Bool) (w : World) (h : lex_letter.f a0 = some r) :
    Calls Tryd.prog 30 #[.int .u8 a0] w fun e w' => e = .returned (.bool r) ∧ Drawn0 w w' := by
  have H : (if a0 ≥ 97 then (some (decide (a0 ≤ 122))) else (some false)) = some r := h
  clear h
  by_cases c2 : a0 ≥ 97
  · rw [if_pos c2] at H
    have c2b0 : decide (97 ≤ a0) = true := decide_eq_true c2
    clear c2
    obtain rfl := Option.some.inj H
    go_enter Tryd.func30, Tryd.ntmps30
    go_wp2
    go_ret
    exact ⟨q11_, q16_⟩
  · rw [if_neg c2] at H
    have c2b0 : decide (97 ≤ a0) = false := decide_eq_false c2
    clear c2
    obtain rfl := Option.some.inj H
    go_enter Tryd.func30, Tryd.ntmps30
    go_wp2
    go_ret
    exact ⟨q11_, q16_⟩


/-! ### lex_digit: function 32 -/
def lex_digit.f (a0 : Int) : Option (Bool) := if a0 ≥ 48 then (some (decide (a0 ≤ 57))) else (some false)
set_option maxHeartbeats 8000000 in
set_option maxRecDepth 100000 in
theorem lex_digit.calls (a0 : Int) (r : Bool) (w : World) (h : lex_digit.f a0 = some r) :
    Calls Tryd.prog 32 #[.int .u8 a0] w fun e w' => e = .returned (.bool r) ∧ Drawn0 w w' := by
  have H : (if a0 ≥ 48 then (some (decide (a0 ≤ 57))) else (some false)) = some r := h
  clear h
  by_cases c2 : a0 ≥ 48
  · rw [if_pos c2] at H
    have c2b0 : decide (48 ≤ a0) = true := decide_eq_true c2
    clear c2
    obtain rfl := Option.some.inj H
    go_enter Tryd.func32, Tryd.ntmps32
    go_wp2
    go_ret
    exact ⟨q11_, q16_⟩
  · rw [if_neg c2] at H
    have c2b0 : decide (48 ≤ a0) = false := decide_eq_false c2
    clear c2
    obtain rfl := Option.some.inj H
    go_enter Tryd.func32, Tryd.ntmps32
    go_wp2
    go_ret
    exact ⟨q11_, q16_⟩


/-! ### lex_span: function 31 -/
def lex_span.l0 : Nat → ByteArray → Bool → Int → Option (Int)
  | 0, _, _, _ => none
  | k + 1, x0, x1, x5 => if x5 < (x0.size : Int) then (if 0 ≤ x5 then ((lex_digit.f (bt x0 x5)).bind fun t126 => (if t126 = true then (lex_span.l0 k x0 x1 (wrap64 (x5 + 1))) else (if x1 = true then ((lex_letter.f (bt x0 x5)).bind fun t127 => (if t127 = true then (lex_span.l0 k x0 x1 (wrap64 (x5 + 1))) else (if (bt x0 x5) = 95 then (lex_span.l0 k x0 x1 (wrap64 (x5 + 1))) else (some x5)))) else (some x5)))) else (none)) else (some x5)
def lex_span.f (k : Nat) (a0 : ByteArray) (a1 : Bool) : Option (Int) := lex_span.l0 k a0 a1 0
theorem lex_span.mono_l : ∀ k, (∀ y0 y1 y2, LeO (lex_span.l0 k y0 y1 y2) (lex_span.l0 (k + 1) y0 y1 y2))
  | 0 => fun _ _ _ r h => by simp [lex_span.l0] at h
  | k + 1 => by
    have ih0 := lex_span.mono_l k
    · intro y0 y1 y2
      unfold lex_span.l0
      repeat' first
      | (with_reducible exact ih0 _ _ _)
      | (with_reducible exact LeO.refl _)
      | (with_reducible exact LeO.none _)
      | (with_reducible refine LeO.ite ?_ ?_)
      | (with_reducible refine LeO.bind ?_ (fun _ => ?_))
      | exact ih0 _ _ _
      | exact LeO.none _
      | refine LeO.ite ?_ ?_
      | refine LeO.bind ?_ (fun _ => ?_)
theorem lex_span.mono : ∀ a0 a1 k, LeO (lex_span.f k a0 a1) (lex_span.f (k + 1) a0 a1) := by
  intro a0 a1 k
  have ih0 := lex_span.mono_l k
  unfold lex_span.f
  repeat' first
      | (with_reducible exact ih0 _ _ _)
      | (with_reducible exact LeO.refl _)
      | (with_reducible exact LeO.none _)
      | (with_reducible refine LeO.ite ?_ ?_)
      | (with_reducible refine LeO.bind ?_ (fun _ => ?_))
      | exact ih0 _ _ _
      | exact LeO.none _
      | refine LeO.ite ?_ ?_
      | refine LeO.bind ?_ (fun _ => ?_)
set_option maxHeartbeats 8000000 in
set_option maxRecDepth 100000 in
theorem lex_span.calls (k : Nat) (a0 : ByteArray) (a1 : Bool) (r : Int) (w : World) (h : lex_span.f k a0 a1 = some r) :
    Calls Tryd.prog 31 #[.string a0, .bool a1] w fun e w' => e = .returned (.int .i64 r) ∧ Drawn0 w w' := by
  have H : (lex_span.l0 k a0 a1 0) = some r := h
  clear h
  have H' := Aside0.mk H
  clear H
  go_enter Tryd.func31, Tryd.ntmps31
  go_wp2
  go_loopg [5] k (fun kq v5 w' => ∃ (x5_1 : Int), v5 = .int .i64 x5_1 ∧ Aside0 (lex_span.l0 kq a0 a1 x5_1 = some r) ∧ Aside0 (kq ≤ k) ∧ Drawn0 w w')
  case atStart => exact ⟨(0), q11_, H', ⟨Nat.le_refl _⟩, q16_⟩
  case round =>
    clear H'
    try clear p2
    obtain ⟨x5_1, rfl, HA, HK1, ⟨m1, rfl⟩⟩ := hrel
    cases gk with
    | zero => exact absurd HA.out (by simp [lex_span.l0])
    | succ k1 =>
      have H := HA.out
      clear HA
      simp only [lex_span.l0] at H
      by_cases c3 : x5_1 < (a0.size : Int)
      · rw [if_pos c3] at H
        have c3b0 : decide (x5_1 < (a0.size : Int)) = true := decide_eq_true c3
        clear c3
        by_cases c4 : 0 ≤ x5_1
        · rw [if_pos c4] at H
          have c4b0 : decide (0 ≤ x5_1) = true := decide_eq_true c4
          clear c4
          replace H := Option.bind_eq_some_iff.mp H
          obtain ⟨t126, A60, H⟩ := H
          replace H : (if t126 = true then (lex_span.l0 k1 a0 a1 (wrap64 (x5_1 + 1))) else (if a1 = true then ((lex_letter.f (bt a0 x5_1)).bind fun t127 => (if t127 = true then (lex_span.l0 k1 a0 a1 (wrap64 (x5_1 + 1))) else (if (bt a0 x5_1) = 95 then (lex_span.l0 k1 a0 a1 (wrap64 (x5_1 + 1))) else (some x5_1)))) else (some x5_1))) = some r := H
          have A6 := Aside0.mk A60
          clear A60
          by_cases c7 : t126 = true
          · subst c7
            replace H := ifT_ H
            have H' := Aside0.mk H
            clear H
            have p5 : 0 ≤ (x5_1 : Int) := of_decide_eq_true q5_
            have q5 : x5_1 < (a0.size : Int) := of_decide_eq_true q5_
            have hx5 := bt_at a0 x5_1
            replace p5 := eq_true p5
            replace q5 := eq_true q5
            go_wp2_with (first | (go_at_call 32; (with_reducible refine (lex_digit.calls (bt a0 x5_1) true _ A6.out).mono ?_); rintro e w' ⟨rfl, ⟨nd, rfl⟩⟩))
            go_roundg k1
            case measure => have := HK1.out; omega
            case rel => exact ⟨(wrap64 (x5_1 + 1)), q11_, H', ⟨by have := HK1.out; omega⟩, q16_⟩
          · replace c7 := Bool.eq_false_iff.mpr c7
            subst c7
            replace H := ifF_ H
            by_cases c8 : a1 = true
            · subst c8
              replace H := ifT_ H
              replace H := Option.bind_eq_some_iff.mp H
              obtain ⟨t127, A100, H⟩ := H
              replace H : (if t127 = true then (lex_span.l0 k1 a0 true (wrap64 (x5_1 + 1))) else (if (bt a0 x5_1) = 95 then (lex_span.l0 k1 a0 true (wrap64 (x5_1 + 1))) else (some x5_1))) = some r := H
              have A10 := Aside0.mk A100
              clear A100
              by_cases c11 : t127 = true
              · subst c11
                replace H := ifT_ H
                have H' := Aside0.mk H
                clear H
                have p5 : 0 ≤ (x5_1 : Int) := of_decide_eq_true q5_
                have q5 : x5_1 < (a0.size : Int) := of_decide_eq_true q5_
                have hx5 := bt_at a0 x5_1
                replace p5 := eq_true p5
                replace q5 := eq_true q5
                go_wp2_with (first | (go_at_call 32; (with_reducible refine (lex_digit.calls (bt a0 x5_1) false _ A6.out).mono ?_); rintro e w' ⟨rfl, ⟨nd, rfl⟩⟩; have p9 : 0 ≤ (x5_1 : Int) := of_decide_eq_true q5_; have q9 : x5_1 < (a0.size : Int) := of_decide_eq_true q5_; have hx9 := bt_at a0 x5_1; replace p9 := eq_true p9; replace q9 := eq_true q9) | (go_at_call 30; (with_reducible refine (lex_letter.calls (bt a0 x5_1) true _ A10.out).mono ?_); rintro e w' ⟨rfl, ⟨nd, rfl⟩⟩))
                go_roundg k1
                case measure => have := HK1.out; omega
                case rel => exact ⟨(wrap64 (x5_1 + 1)), q11_, H', ⟨by have := HK1.out; omega⟩, q16_⟩
              · replace c11 := Bool.eq_false_iff.mpr c11
                subst c11
                replace H := ifF_ H
                by_cases c13 : (bt a0 x5_1) = 95
                · rw [if_pos c13] at H
                  have c13b0 : ((bt a0 x5_1) == 95) = true := beq_iff_eq.mpr c13
                  have c13b1 : ((bt a0 x5_1) != 95) = false := bne_eq_false_iff_eq.mpr c13
                  clear c13
                  have H' := Aside0.mk H
                  clear H
                  have p5 : 0 ≤ (x5_1 : Int) := of_decide_eq_true q5_
                  have q5 : x5_1 < (a0.size : Int) := of_decide_eq_true q5_
                  have hx5 := bt_at a0 x5_1
                  replace p5 := eq_true p5
                  replace q5 := eq_true q5
                  go_wp2_with (first | (go_at_call 32; (with_reducible refine (lex_digit.calls (bt a0 x5_1) false _ A6.out).mono ?_); rintro e w' ⟨rfl, ⟨nd, rfl⟩⟩; have p9 : 0 ≤ (x5_1 : Int) := of_decide_eq_true q5_; have q9 : x5_1 < (a0.size : Int) := of_decide_eq_true q5_; have hx9 := bt_at a0 x5_1; replace p9 := eq_true p9; replace q9 := eq_true q9) | (go_at_call 30; (with_reducible refine (lex_letter.calls (bt a0 x5_1) false _ A10.out).mono ?_); rintro e w' ⟨rfl, ⟨nd, rfl⟩⟩; have p12 : 0 ≤ (x5_1 : Int) := of_decide_eq_true q5_; have q12 : x5_1 < (a0.size : Int) := of_decide_eq_true q5_; have hx12 := bt_at a0 x5_1; replace p12 := eq_true p12; replace q12 := eq_true q12))
                  go_roundg k1
                  case measure => have := HK1.out; omega
                  case rel => exact ⟨(wrap64 (x5_1 + 1)), q11_, H', ⟨by have := HK1.out; omega⟩, q16_⟩
                · rw [if_neg c13] at H
                  have c13b0 : ((bt a0 x5_1) == 95) = false := beq_eq_false_iff_ne.mpr c13
                  have c13b1 : ((bt a0 x5_1) != 95) = true := bne_iff_ne.mpr c13
                  obtain rfl := Option.some.inj H
                  have p5 : 0 ≤ (x5_1 : Int) := of_decide_eq_true q5_
                  have q5 : x5_1 < (a0.size : Int) := of_decide_eq_true q5_
                  have hx5 := bt_at a0 x5_1
                  replace p5 := eq_true p5
                  replace q5 := eq_true q5
                  go_wp2_with (first | (go_at_call 32; (with_reducible refine (lex_digit.calls (bt a0 x5_1) false _ A6.out).mono ?_); rintro e w' ⟨rfl, ⟨nd, rfl⟩⟩; have p9 : 0 ≤ (x5_1 : Int) := of_decide_eq_true q5_; have q9 : x5_1 < (a0.size : Int) := of_decide_eq_true q5_; have hx9 := bt_at a0 x5_1; replace p9 := eq_true p9; replace q9 := eq_true q9) | (go_at_call 30; (with_reducible refine (lex_letter.calls (bt a0 x5_1) false _ A10.out).mono ?_); rintro e w' ⟨rfl, ⟨nd, rfl⟩⟩; have p12 : 0 ≤ (x5_1 : Int) := of_decide_eq_true q5_; have q12 : x5_1 < (a0.size : Int) := of_decide_eq_true q5_; have hx12 := bt_at a0 x5_1; replace p12 := eq_true p12; replace q12 := eq_true q12))
                  go_ret
                  exact ⟨q11_, q16_⟩
            · replace c8 := Bool.eq_false_iff.mpr c8
              subst c8
              replace H := ifF_ H
              obtain rfl := Option.some.inj H
              have p5 : 0 ≤ (x5_1 : Int) := of_decide_eq_true q5_
              have q5 : x5_1 < (a0.size : Int) := of_decide_eq_true q5_
              have hx5 := bt_at a0 x5_1
              replace p5 := eq_true p5
              replace q5 := eq_true q5
              go_wp2_with (first | (go_at_call 32; (with_reducible refine (lex_digit.calls (bt a0 x5_1) false _ A6.out).mono ?_); rintro e w' ⟨rfl, ⟨nd, rfl⟩⟩))
              go_ret
              exact ⟨q11_, q16_⟩
        · rw [if_neg c4] at H
          exact absurd H (by simp)
      · rw [if_neg c3] at H
        have c3b0 : decide (x5_1 < (a0.size : Int)) = false := decide_eq_false c3
        clear c3
        obtain rfl := Option.some.inj H
        go_wp2
        go_ret
        exact ⟨q11_, q16_⟩


/-! ### lex_number: function 33 -/
def lex_number.l0 : Nat → ByteArray → Int → Int → Int → Option (Int × Int × ByteArray × Int × Int)
  | 0, _, _, _, _ => none
  | k + 1, x0, x5, x9, x10 => if x10 < x9 then (if 0 ≤ x10 then (if x10 < (x0.size : Int) then (if x5 > ((9223372036854775807 - (((bt x0 x10) - 48) % 256)) / 10) then (some (0, 0, (⟨#[]⟩ : ByteArray), 0, 14)) else (lex_number.l0 k x0 (wrap64 ((wrap64 (10 * x5)) + (((bt x0 x10) - 48) % 256))) x9 (wrap64 (x10 + 1)))) else (none)) else (none)) else (some (2, x5, (⟨#[]⟩ : ByteArray), (x0.size : Int), 0))
def lex_number.f (k : Nat) (a0 : ByteArray) : Option (Int × Int × ByteArray × Int × Int) := lex_number.l0 k a0 0 (a0.size : Int) 0
theorem lex_number.mono_l : ∀ k, (∀ y0 y1 y2 y3, LeO (lex_number.l0 k y0 y1 y2 y3) (lex_number.l0 (k + 1) y0 y1 y2 y3))
  | 0 => fun _ _ _ _ r h => by simp [lex_number.l0] at h
  | k + 1 => by
    have ih0 := lex_number.mono_l k
    · intro y0 y1 y2 y3
      unfold lex_number.l0
      repeat' first
      | (with_reducible exact ih0 _ _ _ _)
      | (with_reducible exact LeO.refl _)
      | (with_reducible exact LeO.none _)
      | (with_reducible refine LeO.ite ?_ ?_)
      | (with_reducible refine LeO.bind ?_ (fun _ => ?_))
      | exact ih0 _ _ _ _
      | exact LeO.none _
      | refine LeO.ite ?_ ?_
      | refine LeO.bind ?_ (fun _ => ?_)
theorem lex_number.mono : ∀ a0 k, LeO (lex_number.f k a0) (lex_number.f (k + 1) a0) := by
  intro a0 k
  have ih0 := lex_number.mono_l k
  unfold lex_number.f
  repeat' first
      | (with_reducible exact ih0 _ _ _ _)
      | (with_reducible exact LeO.refl _)
      | (with_reducible exact LeO.none _)
      | (with_reducible refine LeO.ite ?_ ?_)
      | (with_reducible refine LeO.bind ?_ (fun _ => ?_))
      | exact ih0 _ _ _ _
      | exact LeO.none _
      | refine LeO.ite ?_ ?_
      | refine LeO.bind ?_ (fun _ => ?_)
set_option maxHeartbeats 8000000 in
set_option maxRecDepth 100000 in
theorem lex_number.calls (k : Nat) (a0 : ByteArray) (r1 : Int) (r2 : Int) (r3 : ByteArray) (r4 : Int) (r5 : Int) (w : World) (h : lex_number.f k a0 = some (r1, r2, r3, r4, r5)) :
    Calls Tryd.prog 33 #[.string a0] w fun e w' => e = .returned (.tuple #[.agg #[.int .i64 r1, .int .i64 r2, .string r3], .int .i64 r4, .int .i64 r5]) ∧ Below w.heap.size w w' := by
  have hu41 := Tryd.underlying41
  have HB := Aside0.mk (Below.refl w.heap.size w)
  have H : (lex_number.l0 k a0 0 (a0.size : Int) 0) = some (r1, r2, r3, r4, r5) := h
  clear h
  have H' := Aside0.mk H
  clear H
  go_enter Tryd.func33, Tryd.ntmps33
  go_wp2_with (first | ((with_reducible refine gate_dst (N := 2) rfl ?_); refine box_event ?hg (N := 2) ?hd (cs := #[.int .i64 0, .int .i64 0, .string (⟨#[]⟩ : ByteArray)]) (t := 41) ?hr ?_; (case hd => rfl); (case hg => rfl); (case hr => first | (go_simp; done) | (go_simp; rfl)); intro gb128 hg w2 hbox hb; have n0_ := Aside0.mk (below_step q0_ hb); have n1_ := Aside0.mk (hbox); have n2_ := Aside0.mk ((q1_ : w.heap.size ≤ gb128)); have n3_ := Aside0.mk ((q1_ : w.heap.size ≤ gb128)); clear HB; have HB := n0_; have BK128 := n1_; have GW128 := n2_; have GE128 := n3_; clear n0_ n1_ n2_ n3_; clear hb hbox hg))
  go_loopg [5, 10] k (fun kq v5 v10 w' => ∃ (x5_1 : Int) (x10_1 : Int) (x129000_1 : Int) (x129001_1 : Int) (x129002_1 : ByteArray), v5 = .int .i64 x5_1 ∧ v10 = .int .i64 x10_1 ∧ Aside0 (lex_number.l0 kq a0 x5_1 (a0.size : Int) x10_1 = some (r1, r2, r3, r4, r5)) ∧ Aside0 (kq ≤ k) ∧ Aside0 (w'.heap[gb128]? = some (.cells #[.int .i64 x129000_1, .int .i64 x129001_1, .string x129002_1] 41 (0, 0))) ∧ Aside0 (Below w.heap.size w w'))
  case atStart => exact ⟨(0), (0), (0), (0), ((⟨#[]⟩ : ByteArray)), q11_, q11_, H', ⟨Nat.le_refl _⟩, ⟨by (with_reducible repeat first | apply bN_ | apply bD_ | apply bA_); exact BK128.out⟩, ⟨q0_⟩⟩
  case round =>
    clear H'
    try clear p2
    obtain ⟨x5_1, x10_1, x129000_1, x129001_1, x129002_1, rfl, rfl, HA, HK1, BK128, HB⟩ := hrel
    cases gk with
    | zero => exact absurd HA.out (by simp [lex_number.l0])
    | succ k1 =>
      have H := HA.out
      clear HA
      simp only [lex_number.l0] at H
      by_cases c3 : x10_1 < (a0.size : Int)
      · rw [if_pos c3] at H
        have c3b0 : decide (x10_1 < (a0.size : Int)) = true := decide_eq_true c3
        clear c3
        by_cases c4 : 0 ≤ x10_1
        · rw [if_pos c4] at H
          have c4b0 : decide (0 ≤ x10_1) = true := decide_eq_true c4
          clear c4
          by_cases c5 : x10_1 < (a0.size : Int)
          · rw [if_pos c5] at H
            have c5b0 : decide (x10_1 < (a0.size : Int)) = true := decide_eq_true c5
            clear c5
            by_cases c7 : x5_1 > ((9223372036854775807 - (((bt a0 x10_1) - 48) % 256)) / 10)
            · rw [if_pos c7] at H
              have c7b0 : decide (((9223372036854775807 - (((bt a0 x10_1) - 48) % 256)) / 10) < x5_1) = true := decide_eq_true c7
              clear c7
              simp only [Option.some.injEq, Prod.mk.injEq] at H
              obtain ⟨rfl, rfl, rfl, rfl, rfl⟩ := H
              have p6 : 0 ≤ (x10_1 : Int) := of_decide_eq_true q5_
              have q6 : x10_1 < (a0.size : Int) := of_decide_eq_true q5_
              have hx6 := bt_at a0 x10_1
              replace p6 := eq_true p6
              replace q6 := eq_true q6
              have hcz8_0 : wr.cell? ⟨gb128, 0, none⟩ = some (.int .i64 x129000_1) := (blk_cell BK128.out 0).trans rfl
              have hcz8_1 : wr.cell? ⟨gb128, 1, none⟩ = some (.int .i64 x129001_1) := (blk_cell BK128.out 1).trans rfl
              have hcz8_2 : wr.cell? ⟨gb128, 2, none⟩ = some (.string x129002_1) := (blk_cell BK128.out 2).trans rfl
              have hfz8_0 := blk_frozen BK128.out 0
              have hfz8_1 := blk_frozen BK128.out 1
              have hfz8_2 := blk_frozen BK128.out 2
              go_wp2
              refine bodyPost_ret (results_ctt rfl _ _ gb128 41 #[.int .i64 0, .int .i64 0, .string (⟨#[]⟩ : ByteArray)] (0, 0) _ rfl (by (with_reducible repeat first | apply bN_ | apply bD_ | apply bA_); refine blk_put (cs := #[.int .i64 0, .int .i64 0, .string x129002_1]) ?_ 2 _ rfl; (with_reducible repeat first | apply bN_ | apply bD_ | apply bA_); refine blk_put (cs := #[.int .i64 0, .int .i64 x129001_1, .string x129002_1]) ?_ 1 _ rfl; (with_reducible repeat first | apply bN_ | apply bD_ | apply bA_); refine blk_put (cs := #[.int .i64 x129000_1, .int .i64 x129001_1, .string x129002_1]) ?_ 0 _ rfl; (with_reducible repeat first | apply bN_ | apply bD_ | apply bA_); exact BK128.out) Tryd.underlying41 rfl (by kernel_rfl)) rfl ?_
              exact ⟨q3_, q0_⟩
            · rw [if_neg c7] at H
              have c7b0 : decide (((9223372036854775807 - (((bt a0 x10_1) - 48) % 256)) / 10) < x5_1) = false := decide_eq_false c7
              clear c7
              have H' := Aside0.mk H
              clear H
              have p6 : 0 ≤ (x10_1 : Int) := of_decide_eq_true q5_
              have q6 : x10_1 < (a0.size : Int) := of_decide_eq_true q5_
              have hx6 := bt_at a0 x10_1
              replace p6 := eq_true p6
              replace q6 := eq_true q6
              go_wp2
              go_roundg k1
              case measure => have := HK1.out; omega
              case rel => exact ⟨(wrap64 ((wrap64 (10 * x5_1)) + (((bt a0 x10_1) - 48) % 256))), (wrap64 (x10_1 + 1)), (x129000_1), (x129001_1), (x129002_1), q11_, q11_, H', ⟨by have := HK1.out; omega⟩, ⟨by (with_reducible repeat first | apply bN_ | apply bD_ | apply bA_); exact BK128.out⟩, ⟨q0_⟩⟩
          · rw [if_neg c5] at H
            exact absurd H (by simp)
        · rw [if_neg c4] at H
          exact absurd H (by simp)
      · rw [if_neg c3] at H
        have c3b0 : decide (x10_1 < (a0.size : Int)) = false := decide_eq_false c3
        clear c3
        simp only [Option.some.injEq, Prod.mk.injEq] at H
        obtain ⟨rfl, rfl, rfl, rfl, rfl⟩ := H
        have hcz9_0 : wr.cell? ⟨gb128, 0, none⟩ = some (.int .i64 x129000_1) := (blk_cell BK128.out 0).trans rfl
        have hcz9_1 : wr.cell? ⟨gb128, 1, none⟩ = some (.int .i64 x129001_1) := (blk_cell BK128.out 1).trans rfl
        have hcz9_2 : wr.cell? ⟨gb128, 2, none⟩ = some (.string x129002_1) := (blk_cell BK128.out 2).trans rfl
        have hfz9_0 := blk_frozen BK128.out 0
        have hfz9_1 := blk_frozen BK128.out 1
        have hfz9_2 := blk_frozen BK128.out 2
        go_wp2
        refine bodyPost_ret (results_ctt rfl _ _ gb128 41 #[.int .i64 2, .int .i64 x5_1, .string (⟨#[]⟩ : ByteArray)] (0, 0) _ rfl (by (with_reducible repeat first | apply bN_ | apply bD_ | apply bA_); refine blk_put (cs := #[.int .i64 2, .int .i64 x5_1, .string x129002_1]) ?_ 2 _ rfl; (with_reducible repeat first | apply bN_ | apply bD_ | apply bA_); refine blk_put (cs := #[.int .i64 2, .int .i64 x129001_1, .string x129002_1]) ?_ 1 _ rfl; (with_reducible repeat first | apply bN_ | apply bD_ | apply bA_); refine blk_put (cs := #[.int .i64 x129000_1, .int .i64 x129001_1, .string x129002_1]) ?_ 0 _ rfl; (with_reducible repeat first | apply bN_ | apply bD_ | apply bA_); exact BK128.out) Tryd.underlying41 rfl (by kernel_rfl)) rfl ?_
        exact ⟨q3_, q0_⟩


/-! ### lex_str: function 34 -/
-- SUPPLIED (wip/xprint)
/-- What stands behind a ' up to the next one that is no pair, and how many bytes it takes. -/
def strGo : List UInt8 → Option (List UInt8 × Nat)
  | [] => none
  | [c] => if c = 39 then some ([], 1) else none
  | c :: d :: l => if c = 39 then (if d = 39 then (strGo l).map fun r => (39 :: r.1, r.2 + 2) else some ([], 1)) else (strGo (d :: l)).map fun r => (c :: r.1, r.2 + 1)
def lex_str.f (a0 : ByteArray) : Option (Int × Int × ByteArray × Int × Int) := if a0.size ≤ 1000000 then (match strGo (a0.data.toList.drop 1) with
  | none => some (0, 0, (⟨#[]⟩ : ByteArray), 0, 3)
  | some r => lex_checked.f 3 0 ⟨r.1.toArray⟩ ((r.2 : Int) + 1)) else none
theorem strGo_ne {c : UInt8} (l : List UInt8) (hc : c ≠ 39) : strGo (c :: l) = (strGo l).map fun r => (c :: r.1, r.2 + 1) := by
  cases l with
  | nil => simp [strGo, hc]
  | cons d l => rw [strGo]; simp [hc]
theorem strGo_two (l : List UInt8) : strGo (39 :: 39 :: l) = (strGo l).map fun r => (39 :: r.1, r.2 + 2) := by rw [strGo]; simp
theorem strGo_end {l : List UInt8} (h : l.head? ≠ some 39) : strGo (39 :: l) = some ([], 1) := by
  cases l with
  | nil => rfl
  | cons d l => rw [strGo]; have : d ≠ 39 := fun e => h (by rw [e]; rfl); simp [this]
theorem str_drop {s : ByteArray} {j : Nat} (h : j < s.size) : s.data.toList.drop j = s[j]'h :: s.data.toList.drop (j + 1) := by
  have h' : j < s.data.toList.length := by rw [← Go.Lib.size_eq]; exact h
  rw [List.drop_eq_getElem_cons h']
  congr 1
/-- Behind j bytes: what the builder holds, and what is left. -/
def strAt (s : ByteArray) (j : Nat) (acc : List UInt8) : Prop := 1 ≤ j ∧ acc.length ≤ j ∧ strGo (s.data.toList.drop 1) = (strGo (s.data.toList.drop j)).map fun r => (acc ++ r.1, r.2 + (j - 1))
theorem strAt.start (s : ByteArray) : strAt s 1 [] := ⟨Nat.le_refl _, Nat.zero_le _, by cases strGo (s.data.toList.drop 1) <;> simp⟩
theorem strAt.one {s : ByteArray} {j : Nat} {acc : List UInt8} (h : strAt s j acc) (hj : j < s.size) (hc : s[j]'hj ≠ 39) : strAt s (j + 1) (acc ++ [s[j]'hj]) := by
  obtain ⟨h1, h2, h3⟩ := h
  refine ⟨by omega, by simp; omega, ?_⟩
  rw [h3, str_drop hj, strGo_ne _ hc, Option.map_map]
  congr 1
  funext r
  simp; omega
theorem strAt.two {s : ByteArray} {j : Nat} {acc : List UInt8} (h : strAt s j acc) (hj : j + 1 < s.size) (hc : s[j]'(by omega) = 39) (hd : s[j + 1]'hj = 39) : strAt s (j + 2) (acc ++ [39]) := by
  obtain ⟨h1, h2, h3⟩ := h
  refine ⟨by omega, by simp; omega, ?_⟩
  rw [h3, str_drop (show j < s.size by omega), str_drop hj, hc, hd, strGo_two, Option.map_map]
  congr 1
  funext r
  simp; omega
theorem strAt.fin {s : ByteArray} {j : Nat} {acc : List UInt8} (h : strAt s j acc) (hj : j < s.size) (hc : s[j]'hj = 39) (hd : ∀ h : j + 1 < s.size, s[j + 1]'h ≠ 39) : strGo (s.data.toList.drop 1) = some (acc, j) := by
  obtain ⟨h1, h2, h3⟩ := h
  rw [h3, str_drop hj, hc, strGo_end]
  · simp; omega
  · intro e
    by_cases hl : j + 1 < s.size
    · rw [str_drop hl] at e
      exact hd hl (by simpa using e)
    · rw [List.drop_eq_nil_of_le (by rw [← Go.Lib.size_eq]; omega)] at e
      cases e
theorem strAt.none {s : ByteArray} {j : Nat} {acc : List UInt8} (h : strAt s j acc) (hj : s.size ≤ j) : strGo (s.data.toList.drop 1) = none := by
  rw [h.2.2, List.drop_eq_nil_of_le (by rw [← Go.Lib.size_eq]; omega)]
  rfl
theorem is39 {c : UInt8} : (c.toNat : Int) = 39 ↔ c = 39 := ⟨fun h => UInt8.toNat_inj.mp (by have : (39 : UInt8).toNat = 39 := rfl; omega), fun h => by rw [h]; rfl⟩
set_option maxHeartbeats 8000000 in
set_option maxRecDepth 100000 in
theorem lex_str.calls (a0 : ByteArray) (r1 : Int) (r2 : Int) (r3 : ByteArray) (r4 : Int) (r5 : Int) (w : World) (h : lex_str.f a0 = some (r1, r2, r3, r4, r5)) (hG : Glob w) :
    Calls Tryd.prog 34 #[.string a0] w fun e w' => e = .returned (.tuple #[.agg #[.int .i64 r1, .int .i64 r2, .string r3], .int .i64 r4, .int .i64 r5]) ∧ Below w.heap.size w w' := by
  have huT := Tryd.underlying41
  have HG := Aside0.mk hG
  clear hG
  unfold lex_str.f at h
  split at h
  case isFalse => cases h
  rename_i hsz
  have H := Aside0.mk h
  clear h
  go_enter Tryd.func34, Tryd.ntmps34
  go_upto_region 2 with fail
  have HI := Aside0.mk (Go.Lib.fresh_isBuilder 55 5 (w.alloc (Obj.cells #[Value.int IntKind.i64 0, Value.int IntKind.i64 0, Value.string { data := #[] }] 41)))
  have hsz1 : (w.alloc (Obj.cells #[Value.int IntKind.i64 0, Value.int IntKind.i64 0, Value.string { data := #[] }] 41)).heap.size = w.heap.size + 1 := by unfold World.alloc; exact Array.size_push _
  have BK := Aside0.mk (heap_alloc_new w (Obj.cells #[Value.int IntKind.i64 0, Value.int IntKind.i64 0, Value.string { data := #[] }] 41))
  have HW := Aside0.mk ((Below.refl (w.heap.size + 1) (w.alloc (Obj.cells #[Value.int IntKind.i64 0, Value.int IntKind.i64 0, Value.string { data := #[] }] 41))).alloc (by rw [hsz1]; exact Nat.le_refl _) (Obj.cells #[Value.pointer none, Value.slice none 0 0] 55))
  have HB1 := Aside0.mk ((Below.refl w.heap.size w).alloc (Nat.le_refl _) (Obj.cells #[Value.int IntKind.i64 0, Value.int IntKind.i64 0, Value.string { data := #[] }] 41))
  rw [hsz1] at HI
  clear hsz1
  generalize hwz : (w.alloc (Obj.cells #[Value.int IntKind.i64 0, Value.int IntKind.i64 0, Value.string { data := #[] }] 41)) = wz at HI HW BK HB1 ⊢
  generalize hwy : wz.alloc (Obj.cells #[Value.pointer none, Value.slice none 0 0] 55) = wy at HI HW ⊢
  clear hwz hwy
  have HS := Aside0.mk (strAt.start a0)
  go_wp2
  go_loopw [6] (fun i wr => ∃ (j : Nat) (acc : List UInt8), i = .int .i64 j ∧ j ≤ a0.size + 1 ∧ Aside0 (strAt a0 j acc) ∧ Aside0 (Go.Lib.IsBuilder 55 5 (w.heap.size + 1) (w.heap.size + 1) (Go.Lib.byteCells acc) wr) ∧ Aside0 (Below (w.heap.size + 1) wz wr)) (fun i _ => a0.size + 2 - (intOf i).toNat)
  case atStart => exact ⟨1, [], rfl, by omega, HS, HI, HW⟩
  case round =>
    obtain ⟨j, acc, rfl, hj2, HA, HI2, HW2⟩ := hrel
    clear HS HI HW
    have hBw : w.heap.size + 1 ≤ wr.heap.size := Nat.le_trans (Nat.succ_le_of_lt (by have := BK.out; rcases Nat.lt_or_ge w.heap.size wz.heap.size with h' | h'; exact h'; rw [Array.getElem?_eq_none h'] at this; cases this)) HW2.out.size
    by_cases hlt : j < a0.size
    · have hlen : (Go.Lib.byteCells acc).length + 1 ≤ 140737488355328 := by rw [Go.Lib.byteCells_length]; have := HA.out.2.1; omega
      have HL := Aside0.mk hlen
      clear hlen
      by_cases hc : a0[j]'hlt = 39
      · have hcI : ((a0[j]'hlt).toNat : Int) = 39 := is39.mpr hc
        have Hc := Aside0.mk hc
        clear hc
        by_cases hd : ∃ h : j + 1 < a0.size, a0[j + 1]'h = 39
        · obtain ⟨hl1, hd⟩ := hd
          have hdI : ((a0[j + 1]'hl1).toNat : Int) = 39 := is39.mpr hd
          have hl1I : ((j : Int) + 1 < (a0.size : Int)) := by omega
          have Hd := Aside0.mk hd
          clear hd
          go_wp2_with (go_at_call 22; fail)
          refine (Any.Builder_WriteByte Tryd.laysWriteByte Tryd.extraWriteByte (w.heap.size + 1) (w.heap.size + 1) _ _ wr HI2.out HL.out hBw).mono ?_
          rintro e w1 ⟨rfl, h1, hb1⟩
          have h1' : Go.Lib.IsBuilder 55 5 (w.heap.size + 1) (w.heap.size + 1) (Go.Lib.byteCells (acc ++ [39])) w1 := by
            rw [Go.Lib.byteCells_append]; exact Or.inr h1
          have H1 := Aside0.mk h1'
          have HW3 := Aside0.mk (HW2.out.trans hb1)
          clear h1 h1' hb1
          have HA2 := Aside0.mk (HA.out.two hl1 Hc.out Hd.out)
          go_wp2
          exact ⟨⟨j + 2, acc ++ [39], by go_num, by omega, HA2, H1, HW3⟩, by simp [intOf]; omega⟩
        · have HF := Aside0.mk (HA.out.fin hlt Hc.out (fun h e => hd ⟨h, e⟩))
          have H2 := H.out
          rw [HF.out] at H2
          have HC := Aside0.mk H2
          clear H2
          by_cases hl1 : j + 1 < a0.size
          · have hl1I : ((j : Int) + 1 < (a0.size : Int)) := by omega
            have hdI : ((a0[j + 1]'hl1).toNat : Int) ≠ 39 := fun e => hd ⟨hl1, is39.mp e⟩
            clear hd
            go_wp2_with (go_at_call 23; fail)
            refine (Any.Builder_String_any Tryd.laysBString Tryd.extraBString (w.heap.size + 1) (w.heap.size + 1) _ wr HI2.out hBw).mono ?_
            rintro e w3 ⟨rfl, hb3⟩
            have HW3 := Aside0.mk (HW2.out.trans hb3)
            have HB3 := Aside0.mk (HB1.out.trans (HW3.out.mono (Nat.le_succ _)))
            have BKr := Aside0.mk ((HW3.out.block w.heap.size (Nat.lt_succ_self _)).trans BK.out)
            have HG3 := Aside0.mk (Glob.below HG.out HB3.out)
            clear hb3
            go_wp2_with (go_at_call 50; fail)
            refine (lex_checked.calls 3 0 _ _ r1 r2 r3 r4 r5 _ HC.out (by first | exact HG3.out | trace_state)).mono ?_
            rintro e w4 ⟨rfl, hb4⟩
            have hlt3 : w.heap.size < w3.heap.size := by
              rcases Nat.lt_or_ge w.heap.size w3.heap.size with h' | h'
              · exact h'
              · have := BKr.out; rw [Array.getElem?_eq_none h'] at this; cases this
            have BK4 := Aside0.mk ((hb4.block w.heap.size hlt3).trans BKr.out)
            have HB4 := Aside0.mk (HB3.out.trans (hb4.mono (HB3.out.size)))
            clear hb4 hlt3
            have hz0 : w4.cell? ⟨w.heap.size, 0, none⟩ = some (.int .i64 0) := (blk_cell BK4.out 0).trans rfl
            have hz1 : w4.cell? ⟨w.heap.size, 1, none⟩ = some (.int .i64 0) := (blk_cell BK4.out 1).trans rfl
            have hz2 : w4.cell? ⟨w.heap.size, 2, none⟩ = some (.string (⟨#[]⟩ : ByteArray)) := (blk_cell BK4.out 2).trans rfl
            have hf0 := blk_frozen BK4.out 0
            have hf1 := blk_frozen BK4.out 1
            have hf2 := blk_frozen BK4.out 2
            go_wp2
            refine bodyPost_ret (results_ctt rfl _ _ w.heap.size 41 #[.int .i64 r1, .int .i64 r2, .string r3] (0, 0) _ rfl q35_ Tryd.underlying41 rfl (by kernel_rfl)) rfl ?_
            exact ⟨rfl, ((HB4.out.setCell (Nat.le_refl _) _).setCell (Nat.le_refl _) _).setCell (Nat.le_refl _) _⟩
          · have hl1I : ¬ ((j : Int) + 1 < (a0.size : Int)) := by omega
            clear hd
            go_wp2_with (go_at_call 23; fail)
            refine (Any.Builder_String_any Tryd.laysBString Tryd.extraBString (w.heap.size + 1) (w.heap.size + 1) _ wr HI2.out hBw).mono ?_
            rintro e w3 ⟨rfl, hb3⟩
            have HW3 := Aside0.mk (HW2.out.trans hb3)
            have HB3 := Aside0.mk (HB1.out.trans (HW3.out.mono (Nat.le_succ _)))
            have BKr := Aside0.mk ((HW3.out.block w.heap.size (Nat.lt_succ_self _)).trans BK.out)
            have HG3 := Aside0.mk (Glob.below HG.out HB3.out)
            clear hb3
            go_wp2_with (go_at_call 50; fail)
            refine (lex_checked.calls 3 0 _ _ r1 r2 r3 r4 r5 _ HC.out (by first | exact HG3.out | trace_state)).mono ?_
            rintro e w4 ⟨rfl, hb4⟩
            have hlt3 : w.heap.size < w3.heap.size := by
              rcases Nat.lt_or_ge w.heap.size w3.heap.size with h' | h'
              · exact h'
              · have := BKr.out; rw [Array.getElem?_eq_none h'] at this; cases this
            have BK4 := Aside0.mk ((hb4.block w.heap.size hlt3).trans BKr.out)
            have HB4 := Aside0.mk (HB3.out.trans (hb4.mono (HB3.out.size)))
            clear hb4 hlt3
            have hz0 : w4.cell? ⟨w.heap.size, 0, none⟩ = some (.int .i64 0) := (blk_cell BK4.out 0).trans rfl
            have hz1 : w4.cell? ⟨w.heap.size, 1, none⟩ = some (.int .i64 0) := (blk_cell BK4.out 1).trans rfl
            have hz2 : w4.cell? ⟨w.heap.size, 2, none⟩ = some (.string (⟨#[]⟩ : ByteArray)) := (blk_cell BK4.out 2).trans rfl
            have hf0 := blk_frozen BK4.out 0
            have hf1 := blk_frozen BK4.out 1
            have hf2 := blk_frozen BK4.out 2
            go_wp2
            refine bodyPost_ret (results_ctt rfl _ _ w.heap.size 41 #[.int .i64 r1, .int .i64 r2, .string r3] (0, 0) _ rfl q35_ Tryd.underlying41 rfl (by kernel_rfl)) rfl ?_
            exact ⟨rfl, ((HB4.out.setCell (Nat.le_refl _) _).setCell (Nat.le_refl _) _).setCell (Nat.le_refl _) _⟩
      · have hcI : ((a0[j]'hlt).toNat : Int) ≠ 39 := fun e => hc (is39.mp e)
        have HA2 := Aside0.mk (HA.out.one hlt hc)
        clear hc
        go_wp2_with (go_at_call 22; fail)
        refine (Any.Builder_WriteByte Tryd.laysWriteByte Tryd.extraWriteByte (w.heap.size + 1) (w.heap.size + 1) _ _ wr HI2.out HL.out hBw).mono ?_
        rintro e w1 ⟨rfl, h1, hb1⟩
        have h1' : Go.Lib.IsBuilder 55 5 (w.heap.size + 1) (w.heap.size + 1) (Go.Lib.byteCells (acc ++ [a0[j]'hlt])) w1 := by
          rw [Go.Lib.byteCells_append]; exact Or.inr h1
        have H1 := Aside0.mk h1'
        have HW3 := Aside0.mk (HW2.out.trans hb1)
        clear h1 h1' hb1
        go_wp2
        exact ⟨⟨j + 1, _, by go_num, by omega, HA2, H1, HW3⟩, by simp [intOf]; omega⟩
    · have HN := Aside0.mk (HA.out.none (by omega))
      have H2 := H.out
      rw [HN.out] at H2
      simp only [Option.some.injEq, Prod.mk.injEq] at H2
      obtain ⟨rfl, rfl, rfl, rfl, rfl⟩ := H2
      have BKr := Aside0.mk ((HW2.out.block w.heap.size (Nat.lt_succ_self _)).trans BK.out)
      have HB3 := Aside0.mk (HB1.out.trans (HW2.out.mono (Nat.le_succ _)))
      have hz0 : wr.cell? ⟨w.heap.size, 0, none⟩ = some (.int .i64 0) := (blk_cell BKr.out 0).trans rfl
      have hz1 : wr.cell? ⟨w.heap.size, 1, none⟩ = some (.int .i64 0) := (blk_cell BKr.out 1).trans rfl
      have hz2 : wr.cell? ⟨w.heap.size, 2, none⟩ = some (.string (⟨#[]⟩ : ByteArray)) := (blk_cell BKr.out 2).trans rfl
      have hf0 := blk_frozen BKr.out 0
      have hf1 := blk_frozen BKr.out 1
      have hf2 := blk_frozen BKr.out 2
      go_wp2
      refine bodyPost_ret (results_ctt rfl _ _ w.heap.size 41 #[.int .i64 0, .int .i64 0, .string (⟨#[]⟩ : ByteArray)] (0, 0) _ rfl (by refine blk_put (cs := #[.int .i64 0, .int .i64 0, .string (⟨#[]⟩ : ByteArray)]) ?_ 2 _ rfl; refine blk_put (cs := #[.int .i64 0, .int .i64 0, .string (⟨#[]⟩ : ByteArray)]) ?_ 1 _ rfl; refine blk_put (cs := #[.int .i64 0, .int .i64 0, .string (⟨#[]⟩ : ByteArray)]) ?_ 0 _ rfl; exact BKr.out) Tryd.underlying41 rfl (by kernel_rfl)) rfl ?_
      exact ⟨rfl, ((HB3.out.setCell (Nat.le_refl _) _).setCell (Nat.le_refl _) _).setCell (Nat.le_refl _) _⟩

end Go.Proofs.YtjcjndpfihchnaaDoor.P
