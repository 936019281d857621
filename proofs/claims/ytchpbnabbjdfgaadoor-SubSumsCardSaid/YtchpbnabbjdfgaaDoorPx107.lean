-- HALVED
import Derived.Test.YtchpbnabbjdfgaaDoorPx0
import Derived.Test.YtchpbnabbjdfgaaDoorPx1
import Derived.Test.YtchpbnabbjdfgaaDoorPx101
import Derived.Test.YtchpbnabbjdfgaaDoorPx70
import Derived.Test.YtchpbnabbjdfgaaDoorPx97
namespace Go.Proofs.YtchpbnabbjdfgaaDoor.P
open Go.RowKit Go.Proofs.YtchpbnabbjdfgaaDoorW.PrintWords Go.Proofs.YtchpbnabbjdfgaaDoorW.PrintLast Go.Proofs.YtchpbnabbjdfgaaDoorW.PrintMore
attribute [local go_sem] zdz zer zel zem zdi zdj zea zeb   -- for this text's walks alone
set_option linter.unusedVariables false
set_option linter.unusedSimpArgs false
set_option maxHeartbeats 8000000
set_option maxRecDepth 100000
mutual
def zah.j0 : Nat → List (S56) → List (S56) → List (S56) → Bool → Option (Bool)
 | 0, _, _, _, _ => none
 | k + 1, x0, x1, x2, x26 => if x26 = true then ((zav.f k).bind fun t474 => (some t474)) else ((zck.f k x0 x1).bind fun bt475 => ((zck.f k bt475.1 x2).bind fun bt479 => (if ([] : List (S56)).length + x1.length < 3518437208883 then ((some (([] : List (S56)) ++ x1 : List (S56))).bind fun y483 => (if y483.length + x2.length < 3518437208883 then ((zck.f k x0 (y483 ++ x2)).bind fun bt489 => (if bt475.2 = 0 then (if bt479.2 = 0 then (zah.j1 k bt479.1 bt489.1 (bt489.2 != 0)) else (zah.j1 k bt479.1 bt489.1 true)) else (zah.j1 k bt479.1 bt489.1 true))) else (none))) else (none))))
def zah.j1 : Nat → List (S56) → List (S56) → Bool → Option (Bool)
 | 0, _, _, _ => none
 | k + 1, x9, x12, x59 => if x59 = true then ((zav.f k).bind fun t493 => (some t493)) else ((zag.f k x9 x12).bind fun t494 => (if t494 = true then ((zav.f k).bind fun t495 => (some t495)) else (some false)))
end
def zah.f (k : Nat) (l0 : List (S56)) (l1 : List (S56)) (l2 : List (S56)) : Option (Bool) := (zal.f k l0).bind fun t471 => (if t471 = true then ((zal.f k l1).bind fun t472 => (if t472 = true then ((zal.f k l2).bind fun t473 => (zah.j0 k l0 l1 l2 (!t473))) else (zah.j0 k l0 l1 l2 true))) else (zah.j0 k l0 l1 l2 true))
theorem zah.zch : ∀ k, (∀ y0 y1 y2 y3, LeO (zah.j0 k y0 y1 y2 y3) (zah.j0 (k + 1) y0 y1 y2 y3)) ∧ (∀ y0 y1 y2, LeO (zah.j1 k y0 y1 y2) (zah.j1 (k + 1) y0 y1 y2))
 | 0 => ⟨fun _ _ _ _ r h => by simp [zah.j0] at h, fun _ _ _ r h => by simp [zah.j1] at h⟩
 | k + 1 => by
  obtain ⟨ih0, ih1⟩ := zah.zch k
  refine ⟨?_, ?_⟩
  all_goals intros
  all_goals first
   | unfold zah.j0
   | unfold zah.j1
  all_goals with_reducible repeat' first
   | apply ih0
   | apply ih1
   | apply zav.mono
   | apply zag.mono
   | apply zal.mono
   | apply zck.mono
   | apply LeO.refl
   | apply LeO.none
   | refine LeO.ite ?_ ?_
   | refine LeO.bind ?_ (fun _ => ?_)
theorem zah.mono : ∀ a0 a1 a2 k, LeO (zah.f k a0 a1 a2) (zah.f (k + 1) a0 a1 a2) := by
 intro a0 a1 a2 k
 obtain ⟨ih0, ih1⟩ := zah.zch k
 unfold zah.f
 with_reducible repeat' first
   | apply ih0
   | apply ih1
   | apply zav.mono
   | apply zag.mono
   | apply zal.mono
   | apply zck.mono
   | apply LeO.refl
   | apply LeO.none
   | refine LeO.ite ?_ ?_
   | refine LeO.bind ?_ (fun _ => ?_)
theorem zah.calls (k : Nat) (P0_ : Nat → Prop) (A0 : Option Addr) (c0 : Nat) (l0 : List (S56)) (P1_ : Nat → Prop) (A1 : Option Addr) (c1 : Nat) (l1 : List (S56)) (P2_ : Nat → Prop) (A2 : Option Addr) (c2 : Nat) (l2 : List (S56)) (r : Bool) (w : World) (hs0 : Kd.V k56 56 w w.heap.size (fun k_ => P0_ k_) (.slice A0 l0.length c0) l0) (hs1 : Kd.V k56 56 w w.heap.size (fun k_ => P1_ k_) (.slice A1 l1.length c1) l1) (hs2 : Kd.V k56 56 w w.heap.size (fun k_ => P2_ k_) (.slice A2 l2.length c2) l2) (h : zah.f k l0 l1 l2 = some r) (hG : Glob w) :
  Calls Tryd.prog 6 #[.slice A0 l0.length c0, .slice A1 l1.length c1, .slice A2 l2.length c2] w fun e w' => e = .returned (.bool r) ∧ Below w.heap.size w w' := by
 have HG := ak_ hG
 clear hG
 have HO0 := ak_ (show Kd.V k56 56 w w.heap.size (fun k_ => ((P0_ k_ ∨ P1_ k_ ∨ P2_ k_) ∨ w.heap.size ≤ k_)) (.slice A0 l0.length c0) l0 from Kd.zao hs0 (fun k_ hk => .inl (.inl hk)))
 have HO1 := ak_ (show Kd.V k56 56 w w.heap.size (fun k_ => ((P0_ k_ ∨ P1_ k_ ∨ P2_ k_) ∨ w.heap.size ≤ k_)) (.slice A1 l1.length c1) l1 from Kd.zao hs1 (fun k_ hk => .inl (.inr (.inl hk))))
 have HO2 := ak_ (show Kd.V k56 56 w w.heap.size (fun k_ => ((P0_ k_ ∨ P1_ k_ ∨ P2_ k_) ∨ w.heap.size ≤ k_)) (.slice A2 l2.length c2) l2 from Kd.zao hs2 (fun k_ hk => .inl (.inr (.inr hk))))
 have HB := ak_ (Below.refl w.heap.size w)
 have H := h
 unfold zah.f at H
 clear h
 have HC4 := ak_ H
 clear H
 go_enter Tryd.func6, Tryd.ntmps6
 go_upto_region 1 with (fail)
 go_cut [26] (fun v26 wc => ∃ (kq : Nat) (x26_3 : Bool), v26 = .bool x26_3 ∧ zab (zah.j0 kq l0 l1 l2 x26_3 = some r) ∧ zab (kq ≤ k) ∧ zab (Kd.V k56 56 wc w.heap.size (fun k_ => ((P0_ k_ ∨ P1_ k_ ∨ P2_ k_) ∨ w.heap.size ≤ k_)) (.slice A0 l0.length c0) l0) ∧ zab (Kd.V k56 56 wc w.heap.size (fun k_ => ((P0_ k_ ∨ P1_ k_ ∨ P2_ k_) ∨ w.heap.size ≤ k_)) (.slice A1 l1.length c1) l1) ∧ zab (Kd.V k56 56 wc w.heap.size (fun k_ => ((P0_ k_ ∨ P1_ k_ ∨ P2_ k_) ∨ w.heap.size ≤ k_)) (.slice A2 l2.length c2) l2) ∧ zab (Below w.heap.size w wc))
 case first =>
  have H := HC4.out
  clear HC4
  obtain ⟨t471, A5, H⟩ := bi_ H
  try dsimp only at H
  by_cases c6 : t471 = true
  ·subst c6
   replace H := ifT_ H
   obtain ⟨t472, A7, H⟩ := bi_ H
   try dsimp only at H
   by_cases c8 : t472 = true
   ·subst c8
    replace H := ifT_ H
    obtain ⟨t473, A9, H⟩ := bi_ H
    replace H : (zah.j0 k l0 l1 l2 (!t473)) = some r := H
    have H' := ak_ H
    clear H
    go_wp2_with (first | ((with_reducible refine gc_ 8 rfl ?_); refine zbo (some 15) rfl rfl Tryd.func8 (by kernel_rfl) rfl #[.slice A0 l0.length c0] rfl q3_ ?_; (with_reducible refine (zal.calls k _ _ l0 true _ ?side1 ?side2 A5.out).mono ?_); (case side1 => exact cx_ ((Kd.zbb HO0.out).2.2)); (case side2 => exact (Kd.zbb HO0.out).2.1); rintro e w' ⟨rfl, ⟨nd, rfl⟩⟩; refine ⟨_, rfl, ?_⟩) | (go_at_call 8; (with_reducible refine (zal.calls k _ _ l1 true _ ?side1 ?side2 A7.out).mono ?_); (case side1 => exact cx_ ((Kd.zbb HO1.out).2.2)); (case side2 => exact (Kd.zbb HO1.out).2.1); rintro e w' ⟨rfl, ⟨nd, rfl⟩⟩) | (go_at_call 8; (with_reducible refine (zal.calls k _ _ l2 t473 _ ?side1 ?side2 A9.out).mono ?_); (case side1 => exact cx_ ((Kd.zbb HO2.out).2.2)); (case side2 => exact (Kd.zbb HO2.out).2.1); rintro e w' ⟨rfl, ⟨nd, rfl⟩⟩))
    go_meet
    case rel => exact ⟨_, (!t473), q8_, H', ⟨by first | omega | exact Nat.le_refl _⟩, ⟨q64_⟩, ⟨q67_⟩, ⟨by (with_reducible repeat (first | apply Kd.zbg | apply Kd.zbf | apply Kd.zbl)); exact HO2.out⟩, ⟨q0_⟩⟩
   ·replace c8 := Bool.eq_false_iff.mpr c8
    subst c8
    replace H := ifF_ H
    have H' := ak_ H
    clear H
    go_wp2_with (first | ((with_reducible refine gc_ 8 rfl ?_); refine zbo (some 15) rfl rfl Tryd.func8 (by kernel_rfl) rfl #[.slice A0 l0.length c0] rfl q3_ ?_; (with_reducible refine (zal.calls k _ _ l0 true _ ?side1 ?side2 A5.out).mono ?_); (case side1 => exact cx_ ((Kd.zbb HO0.out).2.2)); (case side2 => exact (Kd.zbb HO0.out).2.1); rintro e w' ⟨rfl, ⟨nd, rfl⟩⟩; refine ⟨_, rfl, ?_⟩) | (go_at_call 8; (with_reducible refine (zal.calls k _ _ l1 false _ ?side1 ?side2 A7.out).mono ?_); (case side1 => exact cx_ ((Kd.zbb HO1.out).2.2)); (case side2 => exact (Kd.zbb HO1.out).2.1); rintro e w' ⟨rfl, ⟨nd, rfl⟩⟩))
    go_meet
    case rel => exact ⟨_, (true), q8_, H', ⟨by first | omega | exact Nat.le_refl _⟩, ⟨q64_⟩, ⟨q67_⟩, ⟨by (with_reducible repeat (first | apply Kd.zbg | apply Kd.zbf | apply Kd.zbl)); exact HO2.out⟩, ⟨q0_⟩⟩
  ·replace c6 := Bool.eq_false_iff.mpr c6
   subst c6
   replace H := ifF_ H
   have H' := ak_ H
   clear H
   go_wp2_with (first | ((with_reducible refine gc_ 8 rfl ?_); refine zbo (some 15) rfl rfl Tryd.func8 (by kernel_rfl) rfl #[.slice A0 l0.length c0] rfl q3_ ?_; (with_reducible refine (zal.calls k _ _ l0 false _ ?side1 ?side2 A5.out).mono ?_); (case side1 => exact cx_ ((Kd.zbb HO0.out).2.2)); (case side2 => exact (Kd.zbb HO0.out).2.1); rintro e w' ⟨rfl, ⟨nd, rfl⟩⟩; refine ⟨_, rfl, ?_⟩))
   go_meet
   case rel => exact ⟨_, (true), q8_, H', ⟨by first | omega | exact Nat.le_refl _⟩, ⟨q64_⟩, ⟨q67_⟩, ⟨by (with_reducible repeat (first | apply Kd.zbg | apply Kd.zbf | apply Kd.zbl)); exact HO2.out⟩, ⟨q0_⟩⟩
 case rest =>
  clear HC4
  obtain ⟨kq, x26_3, rfl, HA, HJ3, HO_0, HO_1, HO_2, HB⟩ := hcut
  cases kq with
  | zero => exact absurd HA.out (by simp [zah.j0])
  | succ kj3 =>
   have H := HA.out
   clear HA
   simp only [zah.j0] at H
   by_cases c10 : x26_3 = true
   ·subst c10
    replace H := ifT_ H
    obtain ⟨t474, A11, H⟩ := bi_ H
    replace H : (some t474) = some r := H
    obtain rfl := Option.some.inj H
    go_wp2_with (first | ((with_reducible refine gc_ 9 rfl ?_); refine zbo (some 27) rfl rfl Tryd.func9 (by kernel_rfl) rfl #[] rfl q3_ ?_; (with_reducible refine ca_ (zav.calls kj3  t474 _ A11.out q7_) ?_); intro w12 hb; replace HO_0 := Vb_ q126_ hb; replace HO_1 := Vb_ q19_ hb; replace HO_2 := Vb_ q125_ hb; replace HB := bs_ hb; clear hb))
    go_ret
    exact ⟨q5_, q0_⟩
   ·replace c10 := Bool.eq_false_iff.mpr c10
    subst c10
    replace H := ifF_ H
    obtain ⟨⟨t475, t478⟩, A13, H⟩ := bi_ H
    try dsimp only at H
    obtain ⟨⟨t479, t482⟩, A14, H⟩ := bi_ H
    try dsimp only at H
    by_cases c15 : ([] : List (S56)).length + l1.length < 3518437208883
    ·rw [if_pos c15] at H
     have LMc15 := ak_ c15
     clear c15
     obtain ⟨y483, hy483⟩ : ∃ y_ : List (S56), y_ = (([] : List (S56)) ++ l1) := ⟨_, rfl⟩
     replace H : (if y483.length + l2.length < 3518437208883 then ((zck.f kj3 l0 (y483 ++ l2)).bind fun bt489 => (if t478 = 0 then (if t482 = 0 then (zah.j1 kj3 t479 bt489.1 (bt489.2 != 0)) else (zah.j1 kj3 t479 bt489.1 true)) else (zah.j1 kj3 t479 bt489.1 true))) else (none)) = some r := by first | (rw [hy483]; with_reducible exact H) | (have H2_ := (Option.bind_some _ _).symm.trans H; rw [hy483]; with_reducible exact H2_) | (have H2_ := (Option.bind_some _ _).symm.trans H; with_reducible exact H2_) | with_reducible exact H | (rw [hy483]; exact H) | exact H
     have Ny483 := ak_ hy483
     clear hy483
     by_cases c16 : y483.length + l2.length < 3518437208883
     ·rw [if_pos c16] at H
      have LMc16 := ak_ c16
      clear c16
      obtain ⟨y486, hy486⟩ : ∃ y_ : List (S56), y_ = (y483 ++ l2) := ⟨_, rfl⟩
      replace H : ((zck.f kj3 l0 y486).bind fun bt489 => (if t478 = 0 then (if t482 = 0 then (zah.j1 kj3 t479 bt489.1 (bt489.2 != 0)) else (zah.j1 kj3 t479 bt489.1 true)) else (zah.j1 kj3 t479 bt489.1 true))) = some r := by first | (rw [hy486]; with_reducible exact H) | (have H2_ := (Option.bind_some _ _).symm.trans H; rw [hy486]; with_reducible exact H2_) | (have H2_ := (Option.bind_some _ _).symm.trans H; with_reducible exact H2_) | with_reducible exact H | (rw [hy486]; exact H) | exact H
      have Ny486 := ak_ hy486
      clear hy486
      obtain ⟨⟨t489, t492⟩, A17, H⟩ := bi_ H
      try dsimp only at H
      have HC18 := ak_ H
      clear H
      go_upto_region 7 with (first | ((with_reducible refine gc_ 10 rfl ?_); refine zbo (some 31) rfl rfl Tryd.func10 (by kernel_rfl) rfl #[.slice A0 l0.length c0, .slice A1 l1.length c1] rfl q3_ ?_; (with_reducible refine (zck.calls kj3 (fun k_ => ((P0_ k_ ∨ P1_ k_ ∨ P2_ k_) ∨ w.heap.size ≤ k_)) _ _ l0 (fun k_ => ((P0_ k_ ∨ P1_ k_ ∨ P2_ k_) ∨ w.heap.size ≤ k_)) _ _ l1 t475 t478 _ ?side1 ?side2 A13.out q7_).mono ?_); (case side1 => exact HO_0.out); (case side2 => exact HO_1.out); rintro e w19 ⟨v476, rfl, ho0, hb⟩; refine ⟨_, rfl, ?_⟩; have HO477 := ak_ (Kd.zfc (Kd.zct (ok' := fun k_ => ((P0_ k_ ∨ P1_ k_ ∨ P2_ k_) ∨ w.heap.size ≤ k_)) ho0 (fun k_ hk_ => Or.elim hk_ (fun hs_ => Or.elim hs_ (fun hs_ => hs_) (fun hs_ => hs_)) (fun hn_ => (.inr (Nat.le_trans (zaj q0_) hn_))))) (zaj q0_)); replace HO_0 := ak_ (Kd.zbz q126_ (Kd.zcy ho0) hb); replace HO_1 := ak_ (Kd.zbz q19_ (Kd.zcy ho0) hb); replace HO_2 := ak_ (Kd.zbz q125_ (Kd.zcy ho0) hb); replace HB := bs_ hb; clear hb; (try clear ho0); obtain ⟨Ao20, co20, eo20⟩ := Kd.zdl HO477.out; subst eo20) | ((with_reducible refine gc_ 10 rfl ?_); refine zbo (some 37) rfl rfl Tryd.func10 (by kernel_rfl) rfl #[.slice Ao20 t475.length co20, .slice A2 l2.length c2] rfl q3_ ?_; (with_reducible refine (zck.calls kj3 (fun k_ => ((P0_ k_ ∨ P1_ k_ ∨ P2_ k_) ∨ w.heap.size ≤ k_)) _ _ t475 (fun k_ => (((P0_ k_ ∨ P1_ k_ ∨ P2_ k_) ∨ w.heap.size ≤ k_) ∧ some k_ ≠ (.slice Ao20 t475.length co20 : Value).ownBlock)) _ _ l2 t479 t482 _ ?side1 ?side2 A14.out q7_).mono ?_); (case side1 => exact Kd.N_V (HO477.out)); (case side2 => exact HO_2.out); rintro e w21 ⟨v480, rfl, ho0, hb⟩; refine ⟨_, rfl, ?_⟩; have HO481 := ak_ (Kd.zfc (Kd.zct (ok' := fun k_ => ((P0_ k_ ∨ P1_ k_ ∨ P2_ k_) ∨ w.heap.size ≤ k_)) ho0 (fun k_ hk_ => Or.elim hk_ (fun hs_ => Or.elim hs_ (fun hs_ => hs_) (fun hs_ => hs_.1)) (fun hn_ => (.inr (Nat.le_trans (zaj q0_) hn_))))) (zaj q0_)); replace HO_0 := ak_ (Kd.zbz q126_ (Kd.zcy ho0) hb); replace HO_1 := ak_ (Kd.zbz q19_ (Kd.zcy ho0) hb); replace HO_2 := ak_ (Kd.zbz q125_ (Kd.zcy ho0) hb); replace HO477 := ak_ (Kd.zgv q106_ (Kd.zcy ho0) hb); replace HB := bs_ hb; clear hb; (try clear ho0)) | ((with_reducible refine zgk (b := .append) (xs := #[.tmp 42, .tmp 43]) rfl ?_); at_builtin; refine Kd.zdv k56 (w0 := w) w.heap.size rfl (.tmp 42) (.tmp 43) 22 56 (.agg #[(.string ⟨#[]⟩), (.slice none 0 0)]) 40 rfl Tryd.underlying22 info56 rfl (by decide) (by omega) (.slice none 0 0) ([] : List (S56)) l1 _ _ _ (fun k_ => ((P0_ k_ ∨ P1_ k_ ∨ P2_ k_) ∨ w.heap.size ≤ k_) ∧ some k_ ≠ (.slice Ao20 t475.length co20 : Value).ownBlock ∧ some k_ ≠ (v480 : Value).ownBlock) (fun k_ => ((fun k_ => ((P0_ k_ ∨ P1_ k_ ∨ P2_ k_) ∨ w.heap.size ≤ k_) ∧ some k_ ≠ (.slice Ao20 t475.length co20 : Value).ownBlock ∧ some k_ ≠ (v480 : Value).ownBlock)) k_ ∧ some k_ ≠ (.slice none 0 0 : Value).ownBlock) rfl rfl ?aO ?aR (fun _ hk => hk) ?aF ?aB ?aS ?aL ?_; (case aR => exact (by skip; exact Kd.V_F (Kd.zao (ok' := (fun k_ => ((fun k_ => ((P0_ k_ ∨ P1_ k_ ∨ P2_ k_) ∨ w.heap.size ≤ k_) ∧ some k_ ≠ (.slice Ao20 t475.length co20 : Value).ownBlock ∧ some k_ ≠ (v480 : Value).ownBlock)) k_ ∧ some k_ ≠ (.slice none 0 0 : Value).ownBlock)) (HO_1.out) (fun k_ hk => ⟨⟨hk.1.1, ⟨hk.1.2, hk.2⟩⟩, (by simp [Value.ownBlock])⟩)))); (case aB => exact q0_); (case aF => exact (fun k_ hk => ⟨(.inr (Nat.le_trans (zaj q0_) hk)), Kd.fresh' (Kd.N_lt q106_) k_ hk, Kd.fresh' (Kd.N_lt q112_) k_ hk⟩)); (case aO => exact ((Kd.N_nil _ _ _ _ (fun k_ => ((P0_ k_ ∨ P1_ k_ ∨ P2_ k_) ∨ w.heap.size ≤ k_) ∧ some k_ ≠ (.slice Ao20 t475.length co20 : Value).ownBlock ∧ some k_ ≠ (v480 : Value).ownBlock)))); (case aS => exact (zaj q0_)); (case aL => have := LMc15.out; omega); intro v484 w22 ho hb hg hat; rw [← Ny483.out] at ho; have HO485 := ak_ ho; replace HO_0 := ak_ (Kd.zgm (Kd.zjp q126_) hg hat); replace HO_1 := ak_ (Kd.zgm (Kd.zjp q19_) hg hat); replace HO_2 := ak_ (Kd.zgm (Kd.zjp q125_) hg hat); replace HO477 := ak_ (Kd.N_afterv (Kd.N_apart_nil q106_) hg hat); replace HO481 := ak_ (Kd.N_afterv (Kd.N_apart_nil q112_) hg hat); replace HB := ak_ hb; clear ho hb hg hat) | ((with_reducible refine zgk (b := .append) (xs := #[.tmp 44, .tmp 45]) rfl ?_); at_builtin; refine Kd.zdv k56 (w0 := w) w.heap.size rfl (.tmp 44) (.tmp 45) 22 56 (.agg #[(.string ⟨#[]⟩), (.slice none 0 0)]) 40 rfl Tryd.underlying22 info56 rfl (by decide) (by omega) v484 y483 l2 _ _ _ (fun k_ => ((P0_ k_ ∨ P1_ k_ ∨ P2_ k_) ∨ w.heap.size ≤ k_) ∧ some k_ ≠ (.slice Ao20 t475.length co20 : Value).ownBlock ∧ some k_ ≠ (v480 : Value).ownBlock) (fun k_ => ((fun k_ => ((P0_ k_ ∨ P1_ k_ ∨ P2_ k_) ∨ w.heap.size ≤ k_) ∧ some k_ ≠ (.slice Ao20 t475.length co20 : Value).ownBlock ∧ some k_ ≠ (v480 : Value).ownBlock)) k_ ∧ some k_ ≠ (v484 : Value).ownBlock) rfl rfl ?aO ?aR (fun _ hk => hk) ?aF ?aB ?aS ?aL ?_; (case aR => exact (by skip; exact Kd.V_F (Kd.zao (ok' := (fun k_ => ((fun k_ => ((P0_ k_ ∨ P1_ k_ ∨ P2_ k_) ∨ w.heap.size ≤ k_) ∧ some k_ ≠ (.slice Ao20 t475.length co20 : Value).ownBlock ∧ some k_ ≠ (v480 : Value).ownBlock)) k_ ∧ some k_ ≠ (v484 : Value).ownBlock)) (HO_2.out) (fun k_ hk => ⟨⟨hk.1.1.1, ⟨hk.1.1.2, hk.1.2⟩⟩, hk.2⟩)))); (case aB => exact q0_); (case aF => exact (fun k_ hk => ⟨(.inr (Nat.le_trans (zaj q0_) hk)), Kd.fresh' (Kd.N_lt q106_) k_ hk, Kd.fresh' (Kd.N_lt q112_) k_ hk⟩)); (case aO => exact (by (with_reducible repeat (first | apply Kd.zcx | apply Kd.zda | apply Kd.zdk)); exact HO485.out)); (case aS => exact (zaj q0_)); (case aL => have := LMc16.out; omega); intro v487 w23 ho hb hg hat; rw [← Ny486.out] at ho; have HO488 := ak_ ho; replace HO_0 := ak_ (Kd.zgm (ok := (fun k_ => ((P0_ k_ ∨ P1_ k_ ∨ P2_ k_) ∨ w.heap.size ≤ k_) ∧ some k_ ≠ (.slice Ao20 t475.length co20 : Value).ownBlock ∧ some k_ ≠ (v480 : Value).ownBlock)) (by (with_reducible repeat (first | apply Kd.zbg | apply Kd.zbf | apply Kd.zbl)); exact Kd.zao HO_0.out (fun _ hk => ⟨⟨hk.1.1.1, ⟨hk.1.1.2, hk.1.2⟩⟩, hk.2⟩)) hg hat); replace HO_1 := ak_ (Kd.zgm (ok := (fun k_ => ((P0_ k_ ∨ P1_ k_ ∨ P2_ k_) ∨ w.heap.size ≤ k_) ∧ some k_ ≠ (.slice Ao20 t475.length co20 : Value).ownBlock ∧ some k_ ≠ (v480 : Value).ownBlock)) (by (with_reducible repeat (first | apply Kd.zbg | apply Kd.zbf | apply Kd.zbl)); exact Kd.zao HO_1.out (fun _ hk => ⟨⟨hk.1.1.1, ⟨hk.1.1.2, hk.1.2⟩⟩, hk.2⟩)) hg hat); replace HO_2 := ak_ (Kd.zgm (ok := (fun k_ => ((P0_ k_ ∨ P1_ k_ ∨ P2_ k_) ∨ w.heap.size ≤ k_) ∧ some k_ ≠ (.slice Ao20 t475.length co20 : Value).ownBlock ∧ some k_ ≠ (v480 : Value).ownBlock)) (by (with_reducible repeat (first | apply Kd.zbg | apply Kd.zbf | apply Kd.zbl)); exact Kd.zao HO_2.out (fun _ hk => ⟨⟨hk.1.1.1, ⟨hk.1.1.2, hk.1.2⟩⟩, hk.2⟩)) hg hat); replace HO477 := ak_ (Kd.N_afterv (ok := (fun k_ => ((P0_ k_ ∨ P1_ k_ ∨ P2_ k_) ∨ w.heap.size ≤ k_) ∧ some k_ ≠ (v480 : Value).ownBlock)) q106_ hg hat); replace HO481 := ak_ (Kd.N_afterv (ok := (fun k_ => ((P0_ k_ ∨ P1_ k_ ∨ P2_ k_) ∨ w.heap.size ≤ k_))) q112_ hg hat); replace HB := ak_ hb; clear HO485 ho hb hg hat; obtain ⟨Ao24, co24, eo24⟩ := Kd.zdl HO488.out; subst eo24) | ((with_reducible refine gc_ 10 rfl ?_); refine zbo (some 47) rfl rfl Tryd.func10 (by kernel_rfl) rfl #[.slice A0 l0.length c0, .slice Ao24 y486.length co24] rfl q3_ ?_; (with_reducible refine (zck.calls kj3 (fun k_ => ((((P0_ k_ ∨ P1_ k_ ∨ P2_ k_) ∨ w.heap.size ≤ k_) ∧ (some k_ ≠ (.slice Ao20 t475.length co20 : Value).ownBlock ∧ some k_ ≠ (v480 : Value).ownBlock)) ∧ some k_ ≠ (.slice Ao24 y486.length co24 : Value).ownBlock)) _ _ l0 (fun k_ => (((P0_ k_ ∨ P1_ k_ ∨ P2_ k_) ∨ w.heap.size ≤ k_) ∧ (some k_ ≠ (.slice Ao20 t475.length co20 : Value).ownBlock ∧ some k_ ≠ (v480 : Value).ownBlock))) _ _ y486 t489 t492 _ ?side1 ?side2 A17.out q7_).mono ?_); (case side1 => exact HO_0.out); (case side2 => exact Kd.N_V (HO488.out)); rintro e w25 ⟨v490, rfl, ho0, hb⟩; refine ⟨_, rfl, ?_⟩; have HO491 := ak_ (Kd.zfc (Kd.zct (ok' := fun k_ => ((P0_ k_ ∨ P1_ k_ ∨ P2_ k_) ∨ w.heap.size ≤ k_) ∧ some k_ ≠ (.slice Ao20 t475.length co20 : Value).ownBlock ∧ some k_ ≠ (v480 : Value).ownBlock) ho0 (fun k_ hk_ => ⟨Or.elim hk_ (fun hs_ => Or.elim hs_ (fun hs_ => hs_.1.1) (fun hs_ => hs_.1)) (fun hn_ => (.inr (Nat.le_trans (zaj q0_) hn_))), Or.elim hk_ (fun hs_ => Or.elim hs_ (fun hs_ => hs_.1.2.1) (fun hs_ => hs_.2.1)) (fun hn_ => (Kd.fresh' (Kd.N_lt q106_) k_ hn_)), Or.elim hk_ (fun hs_ => Or.elim hs_ (fun hs_ => hs_.1.2.2) (fun hs_ => hs_.2.2)) (fun hn_ => (Kd.fresh' (Kd.N_lt q112_) k_ hn_))⟩)) (zaj q0_)); replace HO_0 := ak_ (Kd.zbz q126_ (Kd.zcy ho0) hb); replace HO_1 := ak_ (Kd.zbz q19_ (Kd.zcy ho0) hb); replace HO_2 := ak_ (Kd.zbz q125_ (Kd.zcy ho0) hb); replace HO477 := ak_ (Kd.zgv q106_ (Kd.zcy ho0) hb); replace HO481 := ak_ (Kd.zgv q112_ (Kd.zcy ho0) hb); replace HO488 := ak_ (Kd.zgv (by (with_reducible repeat (first | apply Kd.zcx | apply Kd.zda | apply Kd.zdk)); exact HO488.out) (Kd.zcy ho0) hb); replace HB := bs_ hb; clear hb; (try clear ho0)))
      (try simp only [Act.put, List.setIfInBounds_toArray, List.set_cons_zero, List.set_cons_succ])
      go_cut [59] (fun v59 wc => ∃ (kq : Nat) (x59_17 : Bool), v59 = .bool x59_17 ∧ zab (zah.j1 kq t479 t489 x59_17 = some r) ∧ zab (kq ≤ kj3) ∧ zab (Kd.N k56 56 wc w.heap.size (fun k_ => ((P0_ k_ ∨ P1_ k_ ∨ P2_ k_) ∨ w.heap.size ≤ k_) ∧ some k_ ≠ (v490 : Value).ownBlock) v480 t479) ∧ zab (Kd.N k56 56 wc w.heap.size (fun k_ => ((P0_ k_ ∨ P1_ k_ ∨ P2_ k_) ∨ w.heap.size ≤ k_) ∧ some k_ ≠ (v480 : Value).ownBlock) v490 t489) ∧ zab (Below w.heap.size w wc))
      case first =>
       have H := HC18.out
       clear HC18
       by_cases c26 : t478 = 0
       ·rw [if_pos c26] at H
        have c26b0 := bq_ c26
        have c26b1 := bq0_ c26
        clear c26
        (first | rw [c26b0] | (simp only [zhe, zij]; rw [c26b0]) | skip)
        by_cases c27 : t482 = 0
        ·rw [if_pos c27] at H
         have c27b0 := bq_ c27
         have c27b1 := bq0_ c27
         clear c27
         have H' := ak_ H
         clear H
         go_wp2
         go_meet
         case rel => exact ⟨_, ((t492 != 0)), q8_, H', ⟨by have := HJ3.out; first | omega | exact Nat.le_refl _⟩, ⟨q154_⟩, ⟨q153_⟩, ⟨q0_⟩⟩
        ·rw [if_neg c27] at H
         have c27b0 := bn_ c27
         have c27b1 := bn1_ c27
         have H' := ak_ H
         clear H
         go_wp2
         go_meet
         case rel => exact ⟨_, (true), q8_, H', ⟨by have := HJ3.out; first | omega | exact Nat.le_refl _⟩, ⟨q154_⟩, ⟨q153_⟩, ⟨q0_⟩⟩
       ·rw [if_neg c26] at H
        have c26b0 := bn_ c26
        have c26b1 := bn1_ c26
        (first | rw [c26b0] | (simp only [zhe, zij]; rw [c26b0]) | skip)
        have H' := ak_ H
        clear H
        go_wp2
        go_meet
        case rel => exact ⟨_, (true), q8_, H', ⟨by have := HJ3.out; first | omega | exact Nat.le_refl _⟩, ⟨q154_⟩, ⟨q153_⟩, ⟨q0_⟩⟩
      case rest =>
       clear HC18
       try clear c10
       obtain ⟨kq, x59_17, rfl, HA, HJ17, HO_9, HO_12, HB⟩ := hcut
       cases kq with
       | zero => exact absurd HA.out (by simp [zah.j1])
       | succ kj17 =>
        have H := HA.out
        clear HA
        simp only [zah.j1] at H
        by_cases c28 : x59_17 = true
        ·subst c28
         replace H := ifT_ H
         obtain ⟨t493, A29, H⟩ := bi_ H
         replace H : (some t493) = some r := H
         obtain rfl := Option.some.inj H
         go_wp2_with (first | ((with_reducible refine gc_ 9 rfl ?_); refine zbo (some 60) rfl rfl Tryd.func9 (by kernel_rfl) rfl #[] rfl q3_ ?_; (with_reducible refine ca_ (zav.calls kj17  t493 _ A29.out q7_) ?_); intro w30 hb; replace HO_9 := Nb_ (by (with_reducible repeat (first | apply Kd.zcx | apply Kd.zda | apply Kd.zdk)); exact HO_9.out) hb; replace HO_12 := Nb_ (by (with_reducible repeat (first | apply Kd.zcx | apply Kd.zda | apply Kd.zdk)); exact HO_12.out) hb; replace HB := bs_ hb; clear hb))
         go_ret
         exact ⟨q5_, q0_⟩
        ·replace c28 := Bool.eq_false_iff.mpr c28
         subst c28
         replace H := ifF_ H
         obtain ⟨t494, A31, H⟩ := bi_ H
         replace H : (if t494 = true then ((zav.f kj17).bind fun t495 => (some t495)) else (some false)) = some r := H
         obtain ⟨Ao34, co34, eo34⟩ := Kd.zdl HO_9.out
         subst eo34
         obtain ⟨Ao35, co35, eo35⟩ := Kd.zdl HO_12.out
         subst eo35
         by_cases c32 : t494 = true
         ·subst c32
          replace H := ifT_ H
          obtain ⟨t495, A33, H⟩ := bi_ H
          replace H : (some t495) = some r := H
          obtain rfl := Option.some.inj H
          go_wp2_with (first | ((with_reducible refine gc_ 12 rfl ?_); refine zbo (some 63) rfl rfl Tryd.func12 (by kernel_rfl) rfl #[.slice Ao34 t479.length co34, .slice Ao35 t489.length co35] rfl q3_ ?_; (with_reducible refine (zag.calls kj17 _ _ t479 _ _ t489 true _ ?side1 ?side2 ?side3 ?side4 A31.out).mono ?_); (case side1 => exact cx_ ((Kd.zcj HO_9.out).2.2)); (case side2 => exact (Kd.zcj HO_9.out).2.1); (case side3 => exact cx_ ((Kd.zcj HO_12.out).2.2)); (case side4 => exact (Kd.zcj HO_12.out).2.1); rintro e w' ⟨rfl, ⟨nd, rfl⟩⟩; refine ⟨_, rfl, ?_⟩) | (go_at_call 9; (with_reducible refine (zav.calls kj17  t495 _ A33.out q7_).mono ?_); rintro e w36 ⟨rfl, hb⟩; replace HO_9 := Nb_ (by (with_reducible repeat (first | apply Kd.zcx | apply Kd.zda | apply Kd.zdk)); exact HO_9.out) hb; replace HO_12 := Nb_ (by (with_reducible repeat (first | apply Kd.zcx | apply Kd.zda | apply Kd.zdk)); exact HO_12.out) hb; replace HB := bs_ hb; clear hb))
          go_ret
          exact ⟨q5_, q0_⟩
         ·replace c32 := Bool.eq_false_iff.mpr c32
          subst c32
          replace H := ifF_ H
          obtain rfl := Option.some.inj H
          go_wp2_with (first | ((with_reducible refine gc_ 12 rfl ?_); refine zbo (some 63) rfl rfl Tryd.func12 (by kernel_rfl) rfl #[.slice Ao34 t479.length co34, .slice Ao35 t489.length co35] rfl q3_ ?_; (with_reducible refine (zag.calls kj17 _ _ t479 _ _ t489 false _ ?side1 ?side2 ?side3 ?side4 A31.out).mono ?_); (case side1 => exact cx_ ((Kd.zcj HO_9.out).2.2)); (case side2 => exact (Kd.zcj HO_9.out).2.1); (case side3 => exact cx_ ((Kd.zcj HO_12.out).2.2)); (case side4 => exact (Kd.zcj HO_12.out).2.1); rintro e w' ⟨rfl, ⟨nd, rfl⟩⟩; refine ⟨_, rfl, ?_⟩))
          go_ret
          exact ⟨q5_, q0_⟩
     ·rw [if_neg c16] at H
      exact absurd H (by simp)
    ·rw [if_neg c15] at H
     exact absurd H (by simp)

end Go.Proofs.YtchpbnabbjdfgaaDoor.P
