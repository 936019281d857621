-- HALVED
import Derived.Test.YtckligjgnbgdiaaDoorPx0
namespace Go.Proofs.YtckligjgnbgdiaaDoor.P
open Go.RowKit Go.Proofs.YtckligjgnbgdiaaDoorW.PrintWords Go.Proofs.YtckligjgnbgdiaaDoorW.PrintLast Go.Proofs.YtckligjgnbgdiaaDoorW.PrintMore
attribute [local go_sem] max2_int min2_mn max_two min_two max_three min_three max_four min_four   -- for this text's walks alone
set_option linter.unusedVariables false
set_option linter.unusedSimpArgs false
def corollarylaw13_num.f (a0 : Int) : Option ((List (S51))) := some (([(⟨2, a0, (⟨#[]⟩ : ByteArray)⟩ : S51)] : List (S51)))
set_option maxHeartbeats 8000000 in
set_option maxRecDepth 100000 in
theorem corollarylaw13_num.calls (a0 : Int) (r : List (S51)) (w : World) (h : corollarylaw13_num.f a0 = some r) :
  Calls Tryd.prog 24 #[.int .i64 a0] w fun e w' => ∃ v0_ : Value, e = .returned (v0_) ∧ Kd.R k51 51 w' w.heap.size (fun _ => True) v0_ r ∧ Below w.heap.size w w' := by
 have hu51 := Tryd.underlying51
 have HB := Aside0.mk (Below.refl w.heap.size w)
 have H : (some (([(⟨2, a0, (⟨#[]⟩ : ByteArray)⟩ : S51)] : List (S51)))) = some r := h
 clear h
 obtain ⟨y198, hy198⟩ : ∃ y_ : List (S51), y_ = (([(⟨2, a0, (⟨#[]⟩ : ByteArray)⟩ : S51)] : List (S51))) := ⟨_, rfl⟩
 replace H : (some y198) = some r := by first | (rw [hy198]; with_reducible exact H) | (have H2_ := (Option.bind_some _ _).symm.trans H; rw [hy198]; with_reducible exact H2_) | (have H2_ := (Option.bind_some _ _).symm.trans H; with_reducible exact H2_) | with_reducible exact H | (rw [hy198]; exact H) | exact H
 have Ny198 := Aside0.mk hy198
 clear hy198
 obtain rfl := Option.some.inj H
 go_enter Tryd.func24, Tryd.ntmps24
 go_wp2_with (first | ((with_reducible refine gate_dst (N := 5) rfl ?_); refine Kd.R_lit k51 _ 51 ?hg (N := 5) ?hd (xs := ([(⟨2, a0, (⟨#[]⟩ : ByteArray)⟩ : S51)] : List (S51))) (inner := [.int .i64 2, .int .i64 a0, .string (⟨#[]⟩ : ByteArray)]) (ok := fun _ => True) (okp := fun _ => True) ?hr ?hp (fun _ hk => hk) trivial (Below.refl _ _) (Nat.le_refl _) (by simp) ?_; (case hd => rfl); (case hg => rfl); (case hr => first | (go_simp; done) | (go_simp; rfl)); (case hp => exact (Reps.c3 (show Kd.M k51 _ _ _ (⟨2, a0, (⟨#[]⟩ : ByteArray)⟩ : S51) [.int .i64 2, .int .i64 a0, .string (⟨#[]⟩ : ByteArray)] from (k51_mkM _ _ _ (⟨2, a0, (⟨#[]⟩ : ByteArray)⟩ : S51) )) (Reps.none _ _))); intro v199 w2 ho3 hb hg_ hnew_; clear hg_ hnew_; (first | rw [← Ny198.out] at ho3 | (simp only [Int.reduceToNat] at ho3; rw [← Ny198.out] at ho3)); have n0_ := Aside0.mk (Kd.R_lower ho3 (below_size q0_)); have n1_ := Aside0.mk (below_step q0_ hb); clear HB; have HO200 := n0_; have HB := n1_; clear n0_ n1_; clear hb ho3))
 go_ret
 exact ⟨_, q4_, by (with_reducible repeat (first | apply Kd.R_alloc | apply Kd.R_drewN | apply Kd.R_drew)); exact HO200.out, q0_⟩

end Go.Proofs.YtckligjgnbgdiaaDoor.P
