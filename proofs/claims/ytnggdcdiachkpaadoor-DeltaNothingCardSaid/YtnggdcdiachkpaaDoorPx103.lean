-- HALVED
import Derived.Test.YtnggdcdiachkpaaDoorPx0
namespace Go.Proofs.YtnggdcdiachkpaaDoor.P
open Go.RowKit Go.Proofs.YtnggdcdiachkpaaDoorW.PrintWords Go.Proofs.YtnggdcdiachkpaaDoorW.PrintLast Go.Proofs.YtnggdcdiachkpaaDoorW.PrintMore
attribute [local go_sem] zdl zeh zee zed zdc zdb zdn zdk   -- for this text's walks alone
set_option linter.unusedVariables false
set_option linter.unusedSimpArgs false
set_option maxHeartbeats 8000000
set_option maxRecDepth 100000
def zca.f (a0 : Int) : Option (Int × Int × ByteArray) := some (2, a0, (⟨#[]⟩ : ByteArray))
theorem zca.calls (a0 : Int) (r1 : Int) (r2 : Int) (r3 : ByteArray) (w : World) (h : zca.f a0 = some (r1, r2, r3)) :
  Calls Tryd.prog 20 #[.int .i64 a0] w fun e w' => e = .returned (.agg #[.int .i64 r1, .int .i64 r2, .string r3]) ∧ Below w.heap.size w w' := by
 have hu48 := Tryd.underlying48; have HB := ak_ (Below.refl w.heap.size w); have H : (some (2, a0, (⟨#[]⟩ : ByteArray))) = some (r1, r2, r3) := h; clear h; simp only [Option.some.injEq, Prod.mk.injEq] at H; obtain ⟨rfl, rfl, rfl⟩ := H; go_enter Tryd.func20, Tryd.ntmps20; go_wp2_with (first | ((with_reducible refine gd_ 2 rfl ?_); refine by_ #[.int .i64 0, .int .i64 0, .string (⟨#[]⟩ : ByteArray)] 48 ?_; intro gb477 hg w2 BK477 hb; have GE477 := gw_ hg; replace HB := bs_ hb; clear hb hg; have hz3 := bc3_ (w := w2) BK477.out)); refine bodyPost_ret (results_cell_row rfl _ _ gb477 48 #[.int .i64 2, .int .i64 a0, .string (⟨#[]⟩ : ByteArray)] (0, 0) _ rfl (bp_ (bp_ (bp_ BK477.out))) Tryd.underlying48 rfl (by kernel_rfl)) rfl ?_; exact ⟨q3_, q0_⟩

end Go.Proofs.YtnggdcdiachkpaaDoor.P
