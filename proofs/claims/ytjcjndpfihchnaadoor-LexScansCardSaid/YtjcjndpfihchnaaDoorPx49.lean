-- Written by our own program (wip/xprint) over the seat's translation. Lean checks it.
import Derived.Test.YtjcjndpfihchnaaDoorPx0
import Derived.Test.YtjcjndpfihchnaaDoorPx36
import Derived.Test.YtjcjndpfihchnaaDoorPx38
import Derived.Test.YtjcjndpfihchnaaDoorPx46
import Derived.Test.YtjcjndpfihchnaaDoorPx48
namespace Go.Proofs.YtjcjndpfihchnaaDoor.P
open Go.RowKit Go.Proofs.YtjcjndpfihchnaaDoorW.PrintWords Go.Proofs.YtjcjndpfihchnaaDoorW.PrintLast Go.Proofs.YtjcjndpfihchnaaDoorW.PrintMore
attribute [local go_sem] max2_int min2_int max_two min_two max_three min_three max_four min_four   -- for this text's walks alone
set_option linter.unusedVariables false
set_option linter.unusedSimpArgs false


/-! ### corollarylaw11_LexScans: function 3 -/
def corollarylaw11_LexScans.f (k : Nat) (a0 : ByteArray) : Option (Bool) := if (a0.size : Int) > 1024 then ((corollarylaw11_awake.f k).bind fun t185 => (some t185)) else ((lex_Scan.f k a0).bind fun bt186 => ((corollaryref11_Scan.f k a0).bind fun bt190 => ((corollarylaw11_tokens.f k bt186.1).bind fun t194 => ((corollaryref11_Same.f k t194 bt190.1).bind fun t197 => (if t197 = true then (if bt186.2 = bt190.2 then ((corollarylaw11_awake.f k).bind fun t198 => (some t198)) else (some false)) else (some false))))))
theorem corollarylaw11_LexScans.mono : ∀ a0 k, LeO (corollarylaw11_LexScans.f k a0) (corollarylaw11_LexScans.f (k + 1) a0) := by
  intro a0 k
  unfold corollarylaw11_LexScans.f
  repeat' first
      | (with_reducible exact corollarylaw11_awake.mono _)
      | (with_reducible exact corollarylaw11_tokens.mono _ _)
      | (with_reducible exact corollaryref11_Same.mono _ _ _)
      | (with_reducible exact corollaryref11_Scan.mono _ _)
      | (with_reducible exact lex_Scan.mono _ _)
      | (with_reducible exact LeO.refl _)
      | (with_reducible exact LeO.none _)
      | (with_reducible refine LeO.ite ?_ ?_)
      | (with_reducible refine LeO.bind ?_ (fun _ => ?_))
      | exact corollarylaw11_awake.mono _
      | exact corollarylaw11_tokens.mono _ _
      | exact corollaryref11_Same.mono _ _ _
      | exact corollaryref11_Scan.mono _ _
      | exact lex_Scan.mono _ _
      | exact LeO.none _
      | refine LeO.ite ?_ ?_
      | refine LeO.bind ?_ (fun _ => ?_)
set_option maxHeartbeats 8000000 in
set_option maxRecDepth 100000 in
theorem corollarylaw11_LexScans.calls (k : Nat) (a0 : ByteArray) (r : Bool) (w : World) (h : corollarylaw11_LexScans.f k a0 = some r) (hG : Glob w) :
    Calls Tryd.prog 3 #[.string a0] w fun e w' => e = .returned (.bool r) ∧ Below w.heap.size w w' := by
  have HG := Aside0.mk hG
  clear hG
  have HB := Aside0.mk (Below.refl w.heap.size w)
  have H : (if (a0.size : Int) > 1024 then ((corollarylaw11_awake.f k).bind fun t185 => (some t185)) else ((lex_Scan.f k a0).bind fun bt186 => ((corollaryref11_Scan.f k a0).bind fun bt190 => ((corollarylaw11_tokens.f k bt186.1).bind fun t194 => ((corollaryref11_Same.f k t194 bt190.1).bind fun t197 => (if t197 = true then (if bt186.2 = bt190.2 then ((corollarylaw11_awake.f k).bind fun t198 => (some t198)) else (some false)) else (some false))))))) = some r := h
  clear h
  by_cases c2 : (a0.size : Int) > 1024
  · rw [if_pos c2] at H
    have c2b0 : decide (1024 < (a0.size : Int)) = true := decide_eq_true c2
    have c2b1 : decide (1024 < a0.size) = true := decide_eq_true (by omega)
    clear c2
    replace H := Option.bind_eq_some_iff.mp H
    obtain ⟨t185, A30, H⟩ := H
    replace H : (some t185) = some r := H
    have A3 := Aside0.mk A30
    clear A30
    obtain rfl := Option.some.inj H
    go_enter Tryd.func3, Tryd.ntmps3
    go_wp2_with (first | ((with_reducible refine gate_callee (f := 7) rfl ?_); refine goesL_ (some 10) rfl rfl Tryd.func7 (by kernel_rfl) rfl #[] rfl q2_ ?_; (with_reducible refine (corollarylaw11_awake.calls k  t185 _ A3.out q5_).mono ?_); rintro e w4 ⟨rfl, hb⟩; refine ⟨_, rfl, ?_⟩; have n0_ := Aside0.mk (below_step q0_ hb); clear HB; have HB := n0_; clear n0_; (try clear hb); (try clear hb2); (try clear hk); (try clear hi)))
    go_ret
    exact ⟨q4_, q0_⟩
  · rw [if_neg c2] at H
    have c2b0 : decide (1024 < (a0.size : Int)) = false := decide_eq_false c2
    have c2b1 : decide (1024 < a0.size) = false := decide_eq_false (by omega)
    clear c2
    replace H := Option.bind_eq_some_iff.mp H
    obtain ⟨⟨t186, t187⟩, A50, H⟩ := H
    replace H : ((corollaryref11_Scan.f k a0).bind fun bt190 => ((corollarylaw11_tokens.f k t186).bind fun t194 => ((corollaryref11_Same.f k t194 bt190.1).bind fun t197 => (if t197 = true then (if t187 = bt190.2 then ((corollarylaw11_awake.f k).bind fun t198 => (some t198)) else (some false)) else (some false))))) = some r := H
    have A5 := Aside0.mk A50
    clear A50
    replace H := Option.bind_eq_some_iff.mp H
    obtain ⟨⟨t190, t191⟩, A60, H⟩ := H
    replace H : ((corollarylaw11_tokens.f k t186).bind fun t194 => ((corollaryref11_Same.f k t194 t190).bind fun t197 => (if t197 = true then (if t187 = t191 then ((corollarylaw11_awake.f k).bind fun t198 => (some t198)) else (some false)) else (some false)))) = some r := H
    have A6 := Aside0.mk A60
    clear A60
    replace H := Option.bind_eq_some_iff.mp H
    obtain ⟨t194, A70, H⟩ := H
    replace H : ((corollaryref11_Same.f k t194 t190).bind fun t197 => (if t197 = true then (if t187 = t191 then ((corollarylaw11_awake.f k).bind fun t198 => (some t198)) else (some false)) else (some false))) = some r := H
    have A7 := Aside0.mk A70
    clear A70
    replace H := Option.bind_eq_some_iff.mp H
    obtain ⟨t197, A80, H⟩ := H
    replace H : (if t197 = true then (if t187 = t191 then ((corollarylaw11_awake.f k).bind fun t198 => (some t198)) else (some false)) else (some false)) = some r := H
    have A8 := Aside0.mk A80
    clear A80
    by_cases c9 : t197 = true
    · subst c9
      replace H := ifT_ H
      by_cases c10 : t187 = t191
      · rw [if_pos c10] at H
        have c10b0 : (t187 == t191) = true := beq_iff_eq.mpr c10
        have c10b1 : (t187 != t191) = false := bne_eq_false_iff_eq.mpr c10
        clear c10
        replace H := Option.bind_eq_some_iff.mp H
        obtain ⟨t198, A110, H⟩ := H
        replace H : (some t198) = some r := H
        have A11 := Aside0.mk A110
        clear A110
        obtain rfl := Option.some.inj H
        go_enter Tryd.func3, Tryd.ntmps3
        go_wp2_with (first | ((with_reducible refine gate_callee (f := 8) rfl ?_); refine goesL_ (some 13) rfl rfl Tryd.func8 (by kernel_rfl) rfl #[.string a0] rfl q2_ ?_; (with_reducible refine (lex_Scan.calls k a0 t186 t187 _ A5.out q5_).mono ?_); rintro e w12 ⟨v188, rfl, ho0, hb⟩; refine ⟨_, rfl, ?_⟩; have n0_ := Aside0.mk (Kd.R_lower ho0 (below_size q0_)); have n1_ := Aside0.mk (below_step q0_ hb); clear HB; have HO189 := n0_; have HB := n1_; clear n0_ n1_; (try clear hb); (try clear hb2); (try clear hk); (try clear hi); (try clear ho0)) | ((with_reducible refine gate_callee (f := 9) rfl ?_); refine goesL_ (some 18) rfl rfl Tryd.func9 (by kernel_rfl) rfl #[.string a0] rfl q2_ ?_; (with_reducible refine (corollaryref11_Scan.calls k a0 t190 t191 _ A6.out).mono ?_); rintro e w13 ⟨v192, rfl, ho0, hb⟩; refine ⟨_, rfl, ?_⟩; have n0_ := Aside0.mk (Kd.R_below q35_ hb); have n1_ := Aside0.mk (Kd.R_lower ho0 (below_size q0_)); have n2_ := Aside0.mk (below_step q0_ hb); clear HO189; clear HB; have HO189 := n0_; have HO193 := n1_; have HB := n2_; clear n0_ n1_ n2_; (try clear hb); (try clear hb2); (try clear hk); (try clear hi); (try clear ho0); obtain ⟨Ao14, co14, eo14⟩ := Kd.R_slice HO189.out; subst eo14) | ((with_reducible refine gate_callee (f := 11) rfl ?_); refine goesL_ (some 22) rfl rfl Tryd.func11 (by kernel_rfl) rfl #[.slice Ao14 t186.length co14] rfl q2_ ?_; (with_reducible refine (corollarylaw11_tokens.calls k _ _ t186 t194 _ ?side1 ?side2 A7.out).mono ?_); (case side1 => repeat (first | exact (Kd.R_reads' HO189.out).2.2 | (with_reducible refine Kd.C_alloc ?_ _) | (with_reducible refine Kd.C_drewN ?_ _) | (with_reducible refine Kd.C_drew ?_))); (case side2 => exact (Kd.R_reads' HO189.out).2.1); rintro e w15 ⟨v195, rfl, ho0, hb⟩; refine ⟨_, rfl, ?_⟩; have n0_ := Aside0.mk (Kd.R_below q35_ hb); have n1_ := Aside0.mk (Kd.R_elder' q34_ (Kd.R_base ho0) hb); have n2_ := Aside0.mk (Kd.R_lower (Kd.R_new' ho0 (Kd.R_lt q34_)) (below_size q0_)); have n3_ := Aside0.mk (below_step q0_ hb); clear HO189; clear HO193; clear HB; have HO189 := n0_; have HO193 := n1_; have HO196 := n2_; have HB := n3_; clear n0_ n1_ n2_ n3_; (try clear hb); (try clear hb2); (try clear hk); (try clear hi); (try clear ho0); obtain ⟨Ao16, co16, eo16⟩ := Kd.R_slice HO196.out; subst eo16; obtain ⟨Ao17, co17, eo17⟩ := Kd.R_slice HO193.out; subst eo17) | ((with_reducible refine gate_callee (f := 10) rfl ?_); refine goesL_ (some 24) rfl rfl Tryd.func10 (by kernel_rfl) rfl #[.slice Ao16 t194.length co16, .slice Ao17 t190.length co17] rfl q2_ ?_; (with_reducible refine (corollaryref11_Same.calls k _ _ t194 _ _ t190 true _ ?side1 ?side2 ?side3 ?side4 A8.out).mono ?_); (case side1 => repeat (first | exact (Kd.R_reads' HO196.out).2.2 | (with_reducible refine Kd.C_alloc ?_ _) | (with_reducible refine Kd.C_drewN ?_ _) | (with_reducible refine Kd.C_drew ?_))); (case side2 => exact (Kd.R_reads' HO196.out).2.1); (case side3 => repeat (first | exact (Kd.R_reads' HO193.out).2.2 | (with_reducible refine Kd.C_alloc ?_ _) | (with_reducible refine Kd.C_drewN ?_ _) | (with_reducible refine Kd.C_drew ?_))); (case side4 => exact (Kd.R_reads' HO193.out).2.1); rintro e w' ⟨rfl, ⟨nd, rfl⟩⟩; refine ⟨_, rfl, ?_⟩) | (go_at_call 7; (with_reducible refine (corollarylaw11_awake.calls k  t198 _ A11.out q5_).mono ?_); rintro e w18 ⟨rfl, hb⟩; have n0_ := Aside0.mk (Kd.R_below q35_ hb); have n1_ := Aside0.mk (Kd.R_below q34_ hb); have n2_ := Aside0.mk (Kd.R_below (by (with_reducible repeat (first | apply Kd.R_alloc | apply Kd.R_drewN | apply Kd.R_drew)); exact HO196.out) hb); have n3_ := Aside0.mk (below_step q0_ hb); clear HO189; clear HO193; clear HO196; clear HB; have HO189 := n0_; have HO193 := n1_; have HO196 := n2_; have HB := n3_; clear n0_ n1_ n2_ n3_; (try clear hb); (try clear hb2); (try clear hk); (try clear hi)))
        go_ret
        exact ⟨q4_, q0_⟩
      · rw [if_neg c10] at H
        have c10b0 : (t187 == t191) = false := beq_eq_false_iff_ne.mpr c10
        have c10b1 : (t187 != t191) = true := bne_iff_ne.mpr c10
        obtain rfl := Option.some.inj H
        go_enter Tryd.func3, Tryd.ntmps3
        go_wp2_with (first | ((with_reducible refine gate_callee (f := 8) rfl ?_); refine goesL_ (some 13) rfl rfl Tryd.func8 (by kernel_rfl) rfl #[.string a0] rfl q2_ ?_; (with_reducible refine (lex_Scan.calls k a0 t186 t187 _ A5.out q5_).mono ?_); rintro e w19 ⟨v188, rfl, ho0, hb⟩; refine ⟨_, rfl, ?_⟩; have n0_ := Aside0.mk (Kd.R_lower ho0 (below_size q0_)); have n1_ := Aside0.mk (below_step q0_ hb); clear HB; have HO189 := n0_; have HB := n1_; clear n0_ n1_; (try clear hb); (try clear hb2); (try clear hk); (try clear hi); (try clear ho0)) | ((with_reducible refine gate_callee (f := 9) rfl ?_); refine goesL_ (some 18) rfl rfl Tryd.func9 (by kernel_rfl) rfl #[.string a0] rfl q2_ ?_; (with_reducible refine (corollaryref11_Scan.calls k a0 t190 t191 _ A6.out).mono ?_); rintro e w20 ⟨v192, rfl, ho0, hb⟩; refine ⟨_, rfl, ?_⟩; have n0_ := Aside0.mk (Kd.R_below q35_ hb); have n1_ := Aside0.mk (Kd.R_lower ho0 (below_size q0_)); have n2_ := Aside0.mk (below_step q0_ hb); clear HO189; clear HB; have HO189 := n0_; have HO193 := n1_; have HB := n2_; clear n0_ n1_ n2_; (try clear hb); (try clear hb2); (try clear hk); (try clear hi); (try clear ho0); obtain ⟨Ao21, co21, eo21⟩ := Kd.R_slice HO189.out; subst eo21) | ((with_reducible refine gate_callee (f := 11) rfl ?_); refine goesL_ (some 22) rfl rfl Tryd.func11 (by kernel_rfl) rfl #[.slice Ao21 t186.length co21] rfl q2_ ?_; (with_reducible refine (corollarylaw11_tokens.calls k _ _ t186 t194 _ ?side1 ?side2 A7.out).mono ?_); (case side1 => repeat (first | exact (Kd.R_reads' HO189.out).2.2 | (with_reducible refine Kd.C_alloc ?_ _) | (with_reducible refine Kd.C_drewN ?_ _) | (with_reducible refine Kd.C_drew ?_))); (case side2 => exact (Kd.R_reads' HO189.out).2.1); rintro e w22 ⟨v195, rfl, ho0, hb⟩; refine ⟨_, rfl, ?_⟩; have n0_ := Aside0.mk (Kd.R_below q35_ hb); have n1_ := Aside0.mk (Kd.R_elder' q34_ (Kd.R_base ho0) hb); have n2_ := Aside0.mk (Kd.R_lower (Kd.R_new' ho0 (Kd.R_lt q34_)) (below_size q0_)); have n3_ := Aside0.mk (below_step q0_ hb); clear HO189; clear HO193; clear HB; have HO189 := n0_; have HO193 := n1_; have HO196 := n2_; have HB := n3_; clear n0_ n1_ n2_ n3_; (try clear hb); (try clear hb2); (try clear hk); (try clear hi); (try clear ho0); obtain ⟨Ao23, co23, eo23⟩ := Kd.R_slice HO196.out; subst eo23; obtain ⟨Ao24, co24, eo24⟩ := Kd.R_slice HO193.out; subst eo24) | ((with_reducible refine gate_callee (f := 10) rfl ?_); refine goesL_ (some 24) rfl rfl Tryd.func10 (by kernel_rfl) rfl #[.slice Ao23 t194.length co23, .slice Ao24 t190.length co24] rfl q2_ ?_; (with_reducible refine (corollaryref11_Same.calls k _ _ t194 _ _ t190 true _ ?side1 ?side2 ?side3 ?side4 A8.out).mono ?_); (case side1 => repeat (first | exact (Kd.R_reads' HO196.out).2.2 | (with_reducible refine Kd.C_alloc ?_ _) | (with_reducible refine Kd.C_drewN ?_ _) | (with_reducible refine Kd.C_drew ?_))); (case side2 => exact (Kd.R_reads' HO196.out).2.1); (case side3 => repeat (first | exact (Kd.R_reads' HO193.out).2.2 | (with_reducible refine Kd.C_alloc ?_ _) | (with_reducible refine Kd.C_drewN ?_ _) | (with_reducible refine Kd.C_drew ?_))); (case side4 => exact (Kd.R_reads' HO193.out).2.1); rintro e w' ⟨rfl, ⟨nd, rfl⟩⟩; refine ⟨_, rfl, ?_⟩))
        go_ret
        exact ⟨q4_, q0_⟩
    · replace c9 := Bool.eq_false_iff.mpr c9
      subst c9
      replace H := ifF_ H
      obtain rfl := Option.some.inj H
      go_enter Tryd.func3, Tryd.ntmps3
      go_wp2_with (first | ((with_reducible refine gate_callee (f := 8) rfl ?_); refine goesL_ (some 13) rfl rfl Tryd.func8 (by kernel_rfl) rfl #[.string a0] rfl q2_ ?_; (with_reducible refine (lex_Scan.calls k a0 t186 t187 _ A5.out q5_).mono ?_); rintro e w25 ⟨v188, rfl, ho0, hb⟩; refine ⟨_, rfl, ?_⟩; have n0_ := Aside0.mk (Kd.R_lower ho0 (below_size q0_)); have n1_ := Aside0.mk (below_step q0_ hb); clear HB; have HO189 := n0_; have HB := n1_; clear n0_ n1_; (try clear hb); (try clear hb2); (try clear hk); (try clear hi); (try clear ho0)) | ((with_reducible refine gate_callee (f := 9) rfl ?_); refine goesL_ (some 18) rfl rfl Tryd.func9 (by kernel_rfl) rfl #[.string a0] rfl q2_ ?_; (with_reducible refine (corollaryref11_Scan.calls k a0 t190 t191 _ A6.out).mono ?_); rintro e w26 ⟨v192, rfl, ho0, hb⟩; refine ⟨_, rfl, ?_⟩; have n0_ := Aside0.mk (Kd.R_below q35_ hb); have n1_ := Aside0.mk (Kd.R_lower ho0 (below_size q0_)); have n2_ := Aside0.mk (below_step q0_ hb); clear HO189; clear HB; have HO189 := n0_; have HO193 := n1_; have HB := n2_; clear n0_ n1_ n2_; (try clear hb); (try clear hb2); (try clear hk); (try clear hi); (try clear ho0); obtain ⟨Ao27, co27, eo27⟩ := Kd.R_slice HO189.out; subst eo27) | ((with_reducible refine gate_callee (f := 11) rfl ?_); refine goesL_ (some 22) rfl rfl Tryd.func11 (by kernel_rfl) rfl #[.slice Ao27 t186.length co27] rfl q2_ ?_; (with_reducible refine (corollarylaw11_tokens.calls k _ _ t186 t194 _ ?side1 ?side2 A7.out).mono ?_); (case side1 => repeat (first | exact (Kd.R_reads' HO189.out).2.2 | (with_reducible refine Kd.C_alloc ?_ _) | (with_reducible refine Kd.C_drewN ?_ _) | (with_reducible refine Kd.C_drew ?_))); (case side2 => exact (Kd.R_reads' HO189.out).2.1); rintro e w28 ⟨v195, rfl, ho0, hb⟩; refine ⟨_, rfl, ?_⟩; have n0_ := Aside0.mk (Kd.R_below q35_ hb); have n1_ := Aside0.mk (Kd.R_elder' q34_ (Kd.R_base ho0) hb); have n2_ := Aside0.mk (Kd.R_lower (Kd.R_new' ho0 (Kd.R_lt q34_)) (below_size q0_)); have n3_ := Aside0.mk (below_step q0_ hb); clear HO189; clear HO193; clear HB; have HO189 := n0_; have HO193 := n1_; have HO196 := n2_; have HB := n3_; clear n0_ n1_ n2_ n3_; (try clear hb); (try clear hb2); (try clear hk); (try clear hi); (try clear ho0); obtain ⟨Ao29, co29, eo29⟩ := Kd.R_slice HO196.out; subst eo29; obtain ⟨Ao30, co30, eo30⟩ := Kd.R_slice HO193.out; subst eo30) | ((with_reducible refine gate_callee (f := 10) rfl ?_); refine goesL_ (some 24) rfl rfl Tryd.func10 (by kernel_rfl) rfl #[.slice Ao29 t194.length co29, .slice Ao30 t190.length co30] rfl q2_ ?_; (with_reducible refine (corollaryref11_Same.calls k _ _ t194 _ _ t190 false _ ?side1 ?side2 ?side3 ?side4 A8.out).mono ?_); (case side1 => repeat (first | exact (Kd.R_reads' HO196.out).2.2 | (with_reducible refine Kd.C_alloc ?_ _) | (with_reducible refine Kd.C_drewN ?_ _) | (with_reducible refine Kd.C_drew ?_))); (case side2 => exact (Kd.R_reads' HO196.out).2.1); (case side3 => repeat (first | exact (Kd.R_reads' HO193.out).2.2 | (with_reducible refine Kd.C_alloc ?_ _) | (with_reducible refine Kd.C_drewN ?_ _) | (with_reducible refine Kd.C_drew ?_))); (case side4 => exact (Kd.R_reads' HO193.out).2.1); rintro e w' ⟨rfl, ⟨nd, rfl⟩⟩; refine ⟨_, rfl, ?_⟩))
      go_ret
      exact ⟨q4_, q0_⟩

end Go.Proofs.YtjcjndpfihchnaaDoor.P
