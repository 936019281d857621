-- HALVED
import Derived.Test.YtchpbnabbjdfgaaDoorPx0
import Derived.Test.YtchpbnabbjdfgaaDoorPx23
import Derived.Test.YtchpbnabbjdfgaaDoorPx37
import Derived.Test.YtchpbnabbjdfgaaDoorPx70
namespace Go.Proofs.YtchpbnabbjdfgaaDoor.P
open Go.RowKit Go.Proofs.YtchpbnabbjdfgaaDoorW.PrintWords Go.Proofs.YtchpbnabbjdfgaaDoorW.PrintLast Go.Proofs.YtchpbnabbjdfgaaDoorW.PrintMore
attribute [local go_sem] zeb zfe zfa zfb zdl zdm zec zed   -- for this text's walks alone
set_option linter.unusedVariables false
set_option linter.unusedSimpArgs false
set_option maxHeartbeats 8000000
set_option maxRecDepth 100000
def zaa.f (k : Nat) : Option Bool :=
 (zbg.f k []).bind fun a => if a = true then (zan.f k 1 1 1 0 0 []).bind fun b => if b = true then (zan.f k 2 1 5 0 1 []).bind fun c => if c = true then (zbs.f k [] []).bind fun t => if t.1.length = 0 ∧ t.2 = 0 then some true else none else none else none else none
theorem zaa.mono : ∀ k, LeO (zaa.f k) (zaa.f (k + 1)) := by
 exact fun k => LeO.bind (zbg.mono _ _) fun a => LeO.ite (LeO.bind (zan.mono _ _ _ _ _ _ _) fun b => LeO.ite (LeO.bind (zan.mono _ _ _ _ _ _ _) fun c => LeO.ite (LeO.bind (zbs.mono _ _ _) fun t => LeO.refl _) (LeO.refl _)) (LeO.refl _)) (LeO.refl _)
theorem zaa.C0 {W : World} (A : Option Addr) : Kd.C k56 W A 0 [] := by
 exact ⟨rfl, by omega, fun h => absurd h (by decide)⟩
theorem zaa.V0 {W : World} {base : Nat} (A : Option Addr) (c : Nat) : Kd.V k56 56 W base (fun _ => False) (.slice A ([] : List S56).length c) [] := Kd.V_mk (Nat.zero_le _) (fun _ _ => zaa.C0 A)
theorem zaa.up {w W : World} {cs : Array Value} {ty : Nat} (h : Below (w.alloc (.cells cs ty)).heap.size (w.alloc (.cells cs ty)) W) : W.heap[w.heap.size]? = some (.cells cs ty (0, 0)) ∧ Below w.heap.size w W :=
 ⟨(h.block _ q51_).trans (Mem.zck _ _ _), zaw (zas (Below.refl _ _) _) (zas (Below.refl w.heap.size w) (.cells cs ty)).size h⟩
theorem zaa.up2 {w W : World} {cs ds : Array Value} {ty tz : Nat} (h : Below ((w.alloc (.cells cs ty)).alloc (.cells ds tz)).heap.size ((w.alloc (.cells cs ty)).alloc (.cells ds tz)) W) : W.heap[w.heap.size]? = some (.cells cs ty (0, 0)) ∧ W.heap[w.heap.size + 1]? = some (.cells ds tz (0, 0)) ∧ Below w.heap.size w W := by
 obtain ⟨h1, h2⟩ := zaa.up h
 obtain ⟨h3, h4⟩ := zaa.up h2
 rw [Mem.zdi] at h1
 exact ⟨h3, h1, h4⟩
theorem zaa.up3 {w W : World} {cs ds es : Array Value} {ty tz tx : Nat} (h : Below (((w.alloc (.cells cs ty)).alloc (.cells ds tz)).alloc (.cells es tx)).heap.size (((w.alloc (.cells cs ty)).alloc (.cells ds tz)).alloc (.cells es tx)) W) : W.heap[w.heap.size]? = some (.cells cs ty (0, 0)) ∧ W.heap[w.heap.size + 1]? = some (.cells ds tz (0, 0)) ∧ W.heap[w.heap.size + 1 + 1]? = some (.cells es tx (0, 0)) ∧ Below w.heap.size w W := by
 obtain ⟨h1, h2⟩ := zaa.up h
 obtain ⟨h3, h4, h5⟩ := zaa.up2 h2
 rw [Mem.zdi, Mem.zdi] at h1
 exact ⟨h3, h4, h1, h5⟩
theorem zaa.c6 {W : World} {g t : Nat} {a b c d e f : Value} (h : W.heap[g]? = some (.cells #[a, b, c, d, e, f] t (0, 0))) : W.cell? ⟨g, 0, none⟩ = some a ∧ W.cell? ⟨g, 1, none⟩ = some b ∧ W.cell? ⟨g, 2, none⟩ = some c ∧ W.cell? ⟨g, 3, none⟩ = some d ∧ W.cell? ⟨g, 4, none⟩ = some e ∧ W.cell? ⟨g, 5, none⟩ = some f ∧ ∀ j, W.frozen? ⟨g, j, none⟩ = false :=
 ⟨(zat h 0).trans rfl, (zat h 1).trans rfl, (zat h 2).trans rfl, (zat h 3).trans rfl, (zat h 4).trans rfl, (zat h 5).trans rfl, zag h⟩
theorem zaa.fill6 {w : World} {g t : Nat} {u0 u1 u2 u3 u4 u5 v0 v1 v2 v3 v4 v5 : Value} (h : w.heap[g]? = some (.cells #[u0, u1, u2, u3, u4, u5] t (0, 0))) :
  (w.setCells g 0 [v0, v1, v2, v3, v4, v5]).heap[g]? = some (.cells #[v0, v1, v2, v3, v4, v5] t (0, 0)) :=
 zbq (zbq (zbq (zbq (zbq (zbq h 0 v0 rfl) 1 v1 rfl) 2 v2 rfl) 3 v3 rfl) 4 v4 rfl) 5 v5 rfl
set_option maxHeartbeats 4000000 in
theorem zaa.new1 (w : World) : Calls Tryd.prog 18 #[.int .i64 1] w fun e w' => e = .returned (.tuple #[.agg #[.int .i64 1, .int .i64 0, .slice none 0 0, .int .i64 0, .int .i64 0, .slice none 0 0], .int .i64 0]) ∧ Below w.heap.size w w' := by
 have hu := Tryd.underlying33
 go_enter Tryd.func18, Tryd.ntmps18
 go_wp2
 refine bodyPost_ret (results_ct rfl _ _ w.heap.size 33 #[.int .i64 1, .int .i64 0, .slice none 0 0, .int .i64 0, .int .i64 0, .slice none 0 0] (0, 0) _ rfl (Mem.zck _ _ _) hu rfl (by kernel_rfl)) rfl ?_
 exact ⟨rfl, zas (Below.refl _ _) _⟩
set_option maxHeartbeats 4000000 in
theorem zaa.right1 (k : Nat) (p : Int) (A : Option Addr) (c : Nat) (w : World) (h0 : 0 ≤ p) (h1 : p ≤ 10) (h : zbg.f k [] = some true) (hG : Glob w) : Calls Tryd.prog 15 #[.agg #[.int .i64 1, .int .i64 p, .slice A 0 c, .int .i64 0, .int .i64 0, .slice none 0 0]] w fun e w' => e = .returned (.bool true) ∧ Below w.heap.size w w' := by
 have hu := Tryd.underlying33
 have HS := zab.mk (fun (W : World) (hW : Below w.heap.size w W) => show Calls Tryd.prog 22 #[.slice A 0 c] W fun e w' => e = .returned (.bool true) ∧ Below W.heap.size W w' from zbg.calls k A c [] true W (zaa.C0 A) (Nat.zero_le _) h (hG.below hW))
 have q1 : decide (p < 0) = false := decide_eq_false (by omega)
 have q2 : decide (549755813888 < p) = false := decide_eq_false (by omega)
 clear h hG h0 h1
 go_enter Tryd.func15, Tryd.ntmps15
 go_wp2_with (go_at_call 22; ((with_reducible refine (HS.out _ (zas (Below.refl _ _) _)).mono ?_)); rintro e w1 ⟨rfl, hb⟩; have HU := zab.mk (zaa.up hb); (have c3 : w1.cell? ⟨w.heap.size, 3, none⟩ = some (.int .i64 0) := (zat HU.out.1 3).trans rfl); (have c4 : w1.cell? ⟨w.heap.size, 4, none⟩ = some (.int .i64 0) := (zat HU.out.1 4).trans rfl); (have c5 : w1.cell? ⟨w.heap.size, 5, none⟩ = some (.slice none 0 0) := (zat HU.out.1 5).trans rfl); clear hb)
 go_ret
 exact ⟨rfl, HU.out.2⟩
set_option maxHeartbeats 4000000 in
theorem zaa.idle1 (p : Int) (A B : Option Addr) (c n m : Nat) (x y : Int) (w : World) : Calls Tryd.prog 38 #[.agg #[.int .i64 1, .int .i64 p, .slice A 0 c, .int .i64 x, .int .i64 y, .slice B n m]] w fun e w' => e = .returned (.agg #[.int .i64 1, .int .i64 p, .slice A 0 c, .int .i64 0, .int .i64 0, .slice none 0 0]) ∧ Below w.heap.size w w' := by
 have hu := Tryd.underlying33
 go_enter Tryd.func38, Tryd.ntmps38
 go_wp2
 refine bodyPost_ret (results_cell_row rfl _ _ (w.heap.size + 1) 33 _ (0, 0) _ rfl (by have := Mem.zck (w.alloc (.cells #[.int .i64 1, .int .i64 p, .slice A 0 c, .int .i64 0, .int .i64 0, .slice none 0 0] 33)) #[.int .i64 1, .int .i64 p, .slice A 0 c, .int .i64 0, .int .i64 0, .slice none 0 0] 33; rwa [Mem.zdi] at this) hu rfl (by kernel_rfl)) rfl ?_
 exact ⟨rfl, zas (zas (Below.refl _ _) _) _⟩
set_option maxHeartbeats 4000000 in
theorem zaa.ask1 (k : Nat) (A : Option Addr) (c : Nat) (w : World) (h : zbg.f k [] = some true) (hG : Glob w) : Calls Tryd.prog 21 #[.agg #[.int .i64 1, .int .i64 5, .slice A 0 c, .int .i64 0, .int .i64 0, .slice none 0 0]] w fun e w' => e = .returned (.tuple #[.agg #[.int .i64 3, .int .i64 1, .int .i64 5, .int .i64 0, .int .i64 0, .slice none 0 0], .bool true]) ∧ Below w.heap.size w w' := by
 have hu := Tryd.underlying33
 have hv := Tryd.underlying41
 have HR := zab.mk (fun (W : World) (hW : Below w.heap.size w W) => zaa.right1 k 5 A c W (by decide) (by decide) h (hG.below hW))
 clear h hG
 go_enter Tryd.func21, Tryd.ntmps21
 go_wp2_with (go_at_call 15; ((with_reducible refine (HR.out _ (zas (zas (Below.refl _ _) _) _)).mono ?_)); rintro e w1 ⟨rfl, hb⟩; have HU := zab.mk (zaa.up2 hb); obtain ⟨a0, a1, a2, a3, a4, a5, af⟩ := zaa.c6 HU.out.1; obtain ⟨b0, b1, b2, b3, b4, b5, bf⟩ := zaa.c6 HU.out.2.1; clear hb)
 refine bodyPost_ret (results_ct rfl _ _ (w.heap.size + 1) 41 _ (0, 0) _ rfl (zaa.fill6 HU.out.2.1) hv rfl (by kernel_rfl)) rfl ?_
 exact ⟨rfl, Mem.below_setCells HU.out.2.2 (Nat.le_succ _) 0 [.int .i64 3, .int .i64 1, .int .i64 5, .int .i64 0, .int .i64 0, .slice none 0 0]⟩
theorem zaa.hear1 (k : Nat) (w : World) (h : zbg.f k [] = some true) (hn : zan.f k 1 1 1 0 0 [] = some true) (ha : zbs.f k [] [] = some ([], 0)) (hG : Glob w) : Calls Tryd.prog 16 #[.agg #[.int .i64 1, .int .i64 0, .slice none 0 0, .int .i64 0, .int .i64 0, .slice none 0 0], .agg #[.int .i64 1, .int .i64 1, .int .i64 1, .int .i64 0, .int .i64 0, .slice none 0 0]] w fun e w' => ∃ A c, e = .returned (.agg #[.int .i64 1, .int .i64 1, .slice A 0 c, .int .i64 0, .int .i64 0, .slice none 0 0]) ∧ Below w.heap.size w w' := by
 have hu := Tryd.underlying33
 have hv := Tryd.underlying41
 have HR := zab.mk (fun (W : World) (hW : Below w.heap.size w W) => zaa.right1 k 0 none 0 W (by decide) (by decide) h (hG.below hW))
 have HNT := zab.mk (fun (W : World) (hW : Below w.heap.size w W) => show Calls Tryd.prog 37 #[.agg #[.int .i64 1, .int .i64 1, .int .i64 1, .int .i64 0, .int .i64 0, .slice none 0 0]] W fun e w' => e = .returned (.bool true) ∧ Below W.heap.size W w' from zan.calls k 1 1 1 0 0 none 0 [] true W (zaa.C0 none) (Nat.le_refl 0) hn (hG.below hW))
 have HAP := zab.mk (fun (W : World) (hW : Below w.heap.size w W) => show Calls Tryd.prog 10 #[.slice none 0 0, .slice none 0 0] W fun e w' => ∃ A c, e = .returned (.tuple #[.slice A 0 c, .int .i64 0]) ∧ Below W.heap.size W w' from (zbs.calls k _ none 0 [] _ none 0 [] [] 0 W (zaa.V0 none 0) (zaa.V0 none 0) ha (hG.below hW)).mono (by
  rintro e w' ⟨v, rfl, hN, hb⟩
  obtain ⟨A, c, rfl⟩ := Kd.zcy hN
  exact ⟨A, c, rfl, hb⟩))
 clear h hn ha hG
 go_enter Tryd.func16, Tryd.ntmps16
 go_wp2_with (first
  | (go_at_call 15; ((with_reducible refine (HR.out _ (zas (zas (zas (Below.refl _ _) _) _) _)).mono ?_)); rintro e w1 ⟨rfl, hb⟩; have HU := zab.mk (zaa.up3 hb); obtain ⟨a0, a1, a2, a3, a4, a5, af⟩ := zaa.c6 HU.out.1; obtain ⟨b0, b1, b2, b3, b4, b5, bf⟩ := zaa.c6 HU.out.2.1; clear hb)
  | (go_at_call 37; ((with_reducible refine (HNT.out _ HU.out.2.2.2).mono ?_)); rintro e w2 ⟨rfl, hb⟩; have HV := zab.mk ((⟨(hb.block _ (zca HU.out.1)).trans HU.out.1, (hb.block _ (zca HU.out.2.1)).trans HU.out.2.1, (hb.block _ (zca HU.out.2.2.1)).trans HU.out.2.2.1, zaw HU.out.2.2.2 HU.out.2.2.2.size hb⟩ : _ ∧ _ ∧ _ ∧ Below w.heap.size w w2)); obtain ⟨d0, d1, d2, d3, d4, d5, df⟩ := zaa.c6 HV.out.1; obtain ⟨e0, e1, e2, e3, e4, e5, ef⟩ := zaa.c6 HV.out.2.1; clear hb)
  | (go_at_call 10; ((with_reducible refine (HAP.out _ HV.out.2.2.2).mono ?_)); rintro e w3 ⟨A3, c3, rfl, hb⟩; have HW := zab.mk ((⟨(hb.block _ (zca HV.out.1)).trans HV.out.1, (hb.block _ (zca HV.out.2.1)).trans HV.out.2.1, (hb.block _ (zca HV.out.2.2.1)).trans HV.out.2.2.1, zaw HV.out.2.2.2 HV.out.2.2.2.size hb⟩ : _ ∧ _ ∧ _ ∧ Below w.heap.size w w3)); obtain ⟨f0, f1, f2, f3, f4, f5, ff⟩ := zaa.c6 HW.out.1; obtain ⟨g0, g1, g2, g3, g4, g5, gf⟩ := zaa.c6 HW.out.2.1; clear hb)
  | fail)
 have n1 : ¬ (w.heap.size + 1 = w.heap.size) := by omega
 have n2 : ¬ (w.heap.size = w.heap.size + 1) := by omega
 go_region_held3 (fun w' => w'.cell? ⟨w.heap.size + 1, 2, none⟩ = some (.int .i64 1)) (first | go_keep) (first | fail)
 have n3 : w.heap.size + 1 + 1 ≠ w.heap.size := by omega
 go_wp2_with (go_at_call 38; ((with_reducible refine (zaa.idle1 1 A3 none c3 0 0 0 0 _).mono ?_)); rintro e w4 ⟨rfl, hb⟩; have p0 := zbq (zbq HW.out.1 2 (.slice A3 0 c3) rfl) 1 (.int .i64 1) rfl; have p2 := (Below.heap_setCell (w3.setCell ⟨w.heap.size, 2, none⟩ (.slice A3 0 c3)) ⟨w.heap.size, 1, none⟩ (.int .i64 1) (w.heap.size + 1 + 1) n3).trans ((Below.heap_setCell w3 ⟨w.heap.size, 2, none⟩ (.slice A3 0 c3) (w.heap.size + 1 + 1) n3).trans HW.out.2.2.1); have pb := zbz (zcd (zcd HW.out.2.2.2 (j := 2) (v := .slice A3 0 c3) (Nat.le_refl w.heap.size)) (j := 1) (v := .int .i64 1) (Nat.le_refl w.heap.size)); have HX := zab.mk ((⟨(hb.block _ (zca p0)).trans p0, (hb.block _ (zca p2)).trans p2, zaw pb pb.size hb⟩ : _ ∧ _ ∧ Below w.heap.size w w4)); obtain ⟨i0, i1, i2, i3, i4, i5, if_⟩ := zaa.c6 HX.out.1; obtain ⟨j0, j1, j2, j3, j4, j5, jf⟩ := zaa.c6 HX.out.2.1; clear hb p0 p2 pb)
 refine bodyPost_ret (results_cell_row rfl _ _ (w.heap.size + 1 + 1) 33 _ (0, 0) _ rfl (zaa.fill6 (((Mem.zbd w.heap.size [.int .i64 1, .int .i64 1, .slice A3 0 c3, .int .i64 0, .int .i64 0, .slice none 0 0] 0 w4).2.2.2.2 (w.heap.size + 1 + 1) n3).trans HX.out.2.1)) hu rfl (by kernel_rfl)) rfl ?_
 exact ⟨A3, c3, rfl, Mem.below_setCells (Mem.below_setCells HX.out.2.2 (Nat.le_refl _) 0 [.int .i64 1, .int .i64 1, .slice A3 0 c3, .int .i64 0, .int .i64 0, .slice none 0 0]) (by omega) 0 [.int .i64 1, .int .i64 1, .slice A3 0 c3, .int .i64 0, .int .i64 0, .slice none 0 0]⟩
set_option maxHeartbeats 4000000 in
theorem zaa.clone0 (w : World) : Calls Tryd.prog 64 #[.slice none 0 0] w fun e w' => e = .returned (.slice none 0 0) ∧ w' = w := by
 have q22 : ∀ (w : World) (a : Option Addr) (n c n' c' : Nat), (binOp .eql 31 (.slice a n c) (.slice none n' c')).run Tryd.prog w = .ok (.bool a.isNone) w := fun w a n c n' c' => Lib.run_eql_slice_nil w _ _ a n c n' c' Tryd.underlying31
 go_enter Tryd.func64, Tryd.ntmps64
 go_wp2
 go_ret
 exact ⟨rfl, rfl⟩
set_option maxHeartbeats 4000000 in
theorem zaa.search0 (w : World) : Calls Tryd.prog 61 #[.slice none 0 0, .int .i64 0, (.func (.func 62) #[] #[])] w fun e w' => e = .returned (.tuple #[.int .i64 0, .bool false]) ∧ w' = w := by
 go_enter Tryd.func61, Tryd.ntmps61
 go_wp2
 go_loopg [9, 10] 0 (fun gg s9 s10 wr => s9 = .int .i64 0 ∧ s10 = .int .i64 0 ∧ w = wr)
 case atStart => exact ⟨rfl, rfl, rfl⟩
 case round =>
  obtain ⟨rfl, rfl, rfl⟩ := hrel
  go_wp2
  go_ret2
  exact ⟨rfl, rfl⟩
def zaa.n1 : S41 := ⟨2, 1, 5, 0, 1, []⟩
set_option maxHeartbeats 4000000 in
theorem zaa.ins1 (w0 w : World) (hb : Below w0.heap.size w0 w) : Calls Tryd.prog 63 #[.slice none 0 0, .int .i64 0, .slice (some ⟨w.heap.size, 0, none⟩) 1 1] (w.alloc (.cells #[.int .i64 2, .int .i64 1, .int .i64 5, .int .i64 0, .int .i64 1, .slice none 0 0] 41)) fun e w' => ∃ A c, e = .returned (.slice A 1 c) ∧ Kd.N k41 41 w' w0.heap.size (fun k => w0.heap.size ≤ k) (.slice A 1 c) [zaa.n1] ∧ Below w0.heap.size w0 w' := by
 go_enter Tryd.func63, Tryd.ntmps63
 go_wp2_with (at_builtin; refine Kd.N_append k41 (w0 := w0) w0.heap.size rfl _ _ 31 41 (.agg #[(.int .i64 0), (.int .i64 0), (.int .i64 0), (.int .i64 0), (.int .i64 0), (.slice none 0 0)]) 64 rfl Tryd.underlying31 (by kernel_rfl) rfl (by decide) (by omega) (.slice none 0 0) [] zaa.n1 [.int .i64 2, .int .i64 1, .int .i64 5, .int .i64 0, .int .i64 1, .slice none 0 0] (fun k => w0.heap.size ≤ k) (fun _ => False) rfl rfl (k41_mkF w _ zaa.n1 (A5 := none) (c5 := 0) (Nat.le_refl 0) (Kd.F_nil _ _ _)) (fun k h => h.elim) (fun k hk => Nat.le_trans hb.size hk) (Kd.zij _ _ _ _ _) hb hb.size (by decide) ?_)
 intro v' w1 hown hb2 hg hat
 obtain ⟨A, c, rfl⟩ := Kd.zcy hown
 go_wp2
 go_ret
 exact ⟨A, c, rfl, hown, hb2⟩
theorem zaa.gather2 (k : Nat) (A : Option Addr) (c : Nat) (w : World) (ha : zbs.f k [] [] = some ([], 0)) (hG : Glob w) : Calls Tryd.prog 39 #[.agg #[.int .i64 1, .int .i64 1, .slice A 0 c, .int .i64 0, .int .i64 0, .slice none 0 0], .agg #[.int .i64 2, .int .i64 1, .int .i64 5, .int .i64 0, .int .i64 1, .slice none 0 0]] w fun e w' => ∃ A c, e = .returned (.agg #[.int .i64 1, .int .i64 5, .slice A 0 c, .int .i64 0, .int .i64 0, .slice none 0 0]) ∧ Below w.heap.size w w' := by
 have hu := Tryd.underlying33
 have hv := Tryd.underlying41
 have HAP := zab.mk (fun (W : World) (hW : Below w.heap.size w W) (B : Option Addr) (b : Nat) => show Calls Tryd.prog 10 #[.slice none 0 0, .slice B 0 b] W fun e w' => ∃ A c, e = .returned (.tuple #[.slice A 0 c, .int .i64 0]) ∧ Below W.heap.size W w' from (zbs.calls k _ none 0 [] _ B b [] [] 0 W (zaa.V0 none 0) (zaa.V0 B b) ha (hG.below hW)).mono (by
  rintro e w' ⟨v, rfl, hN, hb⟩
  obtain ⟨A, c, rfl⟩ := Kd.zcy hN
  exact ⟨A, c, rfl, hb⟩))
 clear ha hG
 have n1 : ¬ (w.heap.size + 1 = w.heap.size) := by omega
 have n2 : ¬ (w.heap.size = w.heap.size + 1) := by omega
 have n3 : w.heap.size + 1 + 1 ≠ w.heap.size := by omega
 go_enter Tryd.func39, Tryd.ntmps39
 go_wp2_with fail
 have hU := zaa.up3 (Below.refl (((w.alloc (.cells #[.int .i64 1, .int .i64 1, .slice A 0 c, .int .i64 0, .int .i64 0, .slice none 0 0] 33)).alloc (.cells #[.int .i64 2, .int .i64 1, .int .i64 5, .int .i64 0, .int .i64 1, .slice none 0 0] 41)).alloc (.cells #[.int .i64 0, .int .i64 0, .slice none 0 0, .int .i64 0, .int .i64 0, .slice none 0 0] 33)).heap.size _)
 revert hU
 generalize (((w.alloc (.cells #[.int .i64 1, .int .i64 1, .slice A 0 c, .int .i64 0, .int .i64 0, .slice none 0 0] 33)).alloc (.cells #[.int .i64 2, .int .i64 1, .int .i64 5, .int .i64 0, .int .i64 1, .slice none 0 0] 41)).alloc (.cells #[.int .i64 0, .int .i64 0, .slice none 0 0, .int .i64 0, .int .i64 0, .slice none 0 0] 33)) = w1
 intro hU
 have HU := zab.mk hU
 obtain ⟨a0, a1, a2, a3, a4, a5, af⟩ := zaa.c6 hU.1
 obtain ⟨b0, b1, b2, b3, b4, b5, bf⟩ := zaa.c6 hU.2.1
 clear hU
 go_region_held3 (fun w' => w'.cell? ⟨w.heap.size + 1, 2, none⟩ = some (.int .i64 5) ∧ w'.cell? ⟨w.heap.size + 1, 4, none⟩ = some (.int .i64 1)) (first | go_keep) (first | fail)
 go_upto_if 51 with (first
  | (go_at_call 61; ((with_reducible refine (zaa.search0 _).mono ?_)); rintro e w2 ⟨rfl, rfl⟩)
  | fail)
 go_cut [] (fun wx => zab (∃ (B : Option Addr) (cB : Nat), wx.heap[w.heap.size]? = some (.cells #[.int .i64 1, .int .i64 1, .slice A 0 c, .int .i64 5, .int .i64 1, .slice B 1 cB] 33 (0, 0)) ∧ wx.heap[w.heap.size + 1 + 1]? = some (.cells #[.int .i64 0, .int .i64 0, .slice none 0 0, .int .i64 0, .int .i64 0, .slice none 0 0] 33 (0, 0)) ∧ Below w.heap.size w wx ∧ Kd.F k41 wx (fun k => w.heap.size < k) B 1 [zaa.n1]))
 case first =>
  have hA := (⟨zbq (zbq (zbq HU.out.1 3 (.int .i64 5) rfl) 4 (.int .i64 1) rfl) 5 (.slice none 0 0) rfl, ((Mem.zbd w.heap.size [.int .i64 5, .int .i64 1, .slice none 0 0] 3 w1).2.2.2.2 (w.heap.size + 1) n1).trans HU.out.2.1, ((Mem.zbd w.heap.size [.int .i64 5, .int .i64 1, .slice none 0 0] 3 w1).2.2.2.2 (w.heap.size + 1 + 1) n3).trans HU.out.2.2.1, zbz (Mem.below_setCells HU.out.2.2.2 (Nat.le_refl _) 3 [.int .i64 5, .int .i64 1, .slice none 0 0])⟩ : ((((w1.setCell ⟨w.heap.size, 3, none⟩ (.int .i64 5)).setCell ⟨w.heap.size, 4, none⟩ (.int .i64 1)).setCell ⟨w.heap.size, 5, none⟩ (.slice none 0 0)).drew).heap[w.heap.size]? = some (.cells #[.int .i64 1, .int .i64 1, .slice A 0 c, .int .i64 5, .int .i64 1, .slice none 0 0] 33 (0, 0)) ∧ ((((w1.setCell ⟨w.heap.size, 3, none⟩ (.int .i64 5)).setCell ⟨w.heap.size, 4, none⟩ (.int .i64 1)).setCell ⟨w.heap.size, 5, none⟩ (.slice none 0 0)).drew).heap[w.heap.size + 1]? = _ ∧ ((((w1.setCell ⟨w.heap.size, 3, none⟩ (.int .i64 5)).setCell ⟨w.heap.size, 4, none⟩ (.int .i64 1)).setCell ⟨w.heap.size, 5, none⟩ (.slice none 0 0)).drew).heap[w.heap.size + 1 + 1]? = _ ∧ Below w.heap.size w ((((w1.setCell ⟨w.heap.size, 3, none⟩ (.int .i64 5)).setCell ⟨w.heap.size, 4, none⟩ (.int .i64 1)).setCell ⟨w.heap.size, 5, none⟩ (.slice none 0 0)).drew))
  clear a0 a1 a2 a3 a4 a5 af b0 b1 b2 b3 b4 b5 bf HU
  revert hA
  generalize ((((w1.setCell ⟨w.heap.size, 3, none⟩ (.int .i64 5)).setCell ⟨w.heap.size, 4, none⟩ (.int .i64 1)).setCell ⟨w.heap.size, 5, none⟩ (.slice none 0 0)).drew) = wA
  intro hA
  have HA := zab.mk hA
  obtain ⟨a0, a1, a2, a3, a4, a5, af⟩ := zaa.c6 hA.1
  obtain ⟨b0, b1, b2, b3, b4, b5, bf⟩ := zaa.c6 hA.2.1
  clear hA
  have z0 : w.heap.size < wA.heap.size := zca HA.out.1
  have z1 : w.heap.size + 1 < wA.heap.size := zca HA.out.2.1
  have z2 : ¬ (w.heap.size = wA.heap.size) := by omega
  have z3 : ¬ (w.heap.size + 1 = wA.heap.size) := by omega
  have z4 : ¬ (wA.heap.size = w.heap.size) := by omega
  have z5 : ¬ (wA.heap.size = w.heap.size + 1) := by omega
  go_wp2_with fail
  go_region_law (first
   | (go_simp; go_at_call 64; refine (zaa.clone0 _).mono ?_; rintro e wc ⟨rfl, rfl⟩)
   | (go_simp; go_at_call 63; refine (zaa.ins1 wA wA.drew (zbz (Below.refl _ _))).mono ?_; rintro e w5 ⟨B, cB, rfl, hN, hb⟩; have f5 := (hb.frozen (p := ⟨w.heap.size, 5, none⟩) (zca HA.out.1)).trans (af 5); have x5 := (hb.cell (p := ⟨w.heap.size, 5, none⟩) (zca HA.out.1)).trans a5)
   | fail)
  all_goals
   go_wp2_with fail
   go_meet
   refine ⟨B, cB, zbq ((hb.block _ (zca HA.out.1)).trans HA.out.1) 5 _ rfl, ((Mem.zbd w.heap.size [.slice B 1 cB] 5 w5).2.2.2.2 (w.heap.size + 1 + 1) n3).trans ((hb.block _ (zca HA.out.2.2.1)).trans HA.out.2.2.1), Mem.below_setCells (zaw HA.out.2.2.2 HA.out.2.2.2.size hb) (Nat.le_refl _) 5 [.slice B 1 cB], Kd.F_far (p := ⟨w.heap.size, 5, none⟩) (Kd.zey (Kd.N_F hN) (fun k hk => Nat.lt_of_lt_of_le z0 hk)) (fun k hk e => Nat.lt_irrefl _ (e ▸ hk)) _⟩
 case rest =>
  obtain ⟨B, cB, k0, k2, hb, hF⟩ := hcut.out
  obtain ⟨wq, hwq⟩ : ∃ W, W = wc := ⟨_, rfl⟩
  subst hwq
  obtain ⟨a0, a1, a2, a3, a4, a5, af⟩ := zaa.c6 k0
  have K0 := zab.mk k0
  have K2 := zab.mk k2
  have HB := zab.mk hb
  have HF := zab.mk (fun (W : World) (hW : Below wq.heap.size wq W) => (Kd.zdn (Kd.zeg hF) hW : Kd.F k41 W _ B 1 [zaa.n1]))
  clear k0 k2 hb hF hcut
  go_wp2
  go_loopg [7, 70] 1 (fun gg s7 s70 wr => ∃ i : Nat, s70 = .int .i64 i ∧ zab (i ≤ 1) ∧ zab (1 - i ≤ gg) ∧ zab (Kd.N k56 56 wr wq.heap.size (fun k => wq.heap.size ≤ k) s7 []) ∧ zab (Below wq.heap.size wq wr))
  case atStart => exact ⟨0, rfl, ⟨Nat.zero_le _⟩, ⟨Nat.le_refl _⟩, ⟨Kd.zij _ _ _ _ _⟩, ⟨Below.refl _ _⟩⟩
  case round =>
   obtain ⟨i, rfl, hi, hgg, HN, HW⟩ := hrel
   by_cases hlt : i < 1
   ·obtain ⟨ad, cs, hA1, _, hFK, hcc, _⟩ := Kd.F_get (HF.out wr HW.out) z41 (i : Int) (by omega) (by omega)
    subst hA1
    rw [show [zaa.n1].getD ((i : Int)).toNat z41 = zaa.n1 from (by obtain rfl : i = 0 := (by omega); rfl)] at hFK
    obtain ⟨A5, c5, hce, _, _⟩ := k41_openF hFK
    subst hce
    have hd : ∀ j, 0 < j → ad.add (i * 6 + j) = ⟨(ad.add (i * 6)).block, (ad.add (i * 6)).off + j, none⟩ := fun j hj => zcl ad (i * 6) j (by omega)
    have e0 : wr.cell? (ad.add (i * 6)) = some (.int .i64 2) := hcc 0 _ rfl
    have e1 : wr.cell? ⟨(ad.add (i * 6)).block, (ad.add (i * 6)).off + 1, none⟩ = some (.int .i64 1) := by rw [← hd 1 (by decide)]; exact hcc 1 _ rfl
    have e2 : wr.cell? ⟨(ad.add (i * 6)).block, (ad.add (i * 6)).off + 2, none⟩ = some (.int .i64 5) := by rw [← hd 2 (by decide)]; exact hcc 2 _ rfl
    have e3 : wr.cell? ⟨(ad.add (i * 6)).block, (ad.add (i * 6)).off + 3, none⟩ = some (.int .i64 0) := by rw [← hd 3 (by decide)]; exact hcc 3 _ rfl
    have e4 : wr.cell? ⟨(ad.add (i * 6)).block, (ad.add (i * 6)).off + 4, none⟩ = some (.int .i64 1) := by rw [← hd 4 (by decide)]; exact hcc 4 _ rfl
    have e5 : wr.cell? ⟨(ad.add (i * 6)).block, (ad.add (i * 6)).off + 5, none⟩ = some (.slice A5 0 c5) := by rw [← hd 5 (by decide)]; exact hcc 5 _ rfl
    have hi0 : (0 : Int) ≤ (i : Int) := by omega
    have hi1 : (i : Int) < 1 := by omega
    have hit : ((i : Int)).toNat = i := by omega
    have hwi : wrap64 ((i : Int) + 1) = ((i + 1 : Nat) : Int) := by unfold wrap64; omega
    clear hFK hcc hd
    go_wp2_with ((with_reducible refine zfx (b := .append) (xs := #[.tmp 74, .tmp 76]) rfl ?_); at_builtin; refine Kd.zdb k56 (w0 := wq) wq.heap.size rfl (.tmp 74) (.tmp 76) 22 56 (.agg #[(.string ⟨#[]⟩), (.slice none 0 0)]) 40 rfl Tryd.underlying22 (by kernel_rfl) rfl (by decide) (by omega) _ [] [] A5 0 c5 (fun k => wq.heap.size ≤ k) (fun _ => False) rfl rfl (Kd.zcj HN.out _) (fun _ _ => zaa.C0 A5) (fun k h => h.elim) (fun k hk => Nat.le_trans (zaw HW.out HW.out.size (zas (Below.refl _ _) _)).size hk) (zaw HW.out HW.out.size (zas (Below.refl _ _) _)) (zaw HW.out HW.out.size (zas (Below.refl _ _) _)).size (by decide) ?_; intro v2 w3 hN2 hb2 hg hat; have HN2 := zab.mk hN2; have HB2 := zab.mk hb2; clear hN2 hb2 hg hat)
    go_roundg 0
    case measure => have := hgg.out; omega
    case rel => exact ⟨i + 1, by go_num, ⟨by omega⟩, ⟨by omega⟩, HN2, HB2⟩
   ·obtain rfl : i = 1 := by have := hi.out; omega
    obtain ⟨Aa, ca, rfl⟩ := Kd.zcy HN.out
    have hB := zaw HB.out HB.out.size HW.out
    have KW := zab.mk ((⟨(HW.out.block _ (zca K0.out)).trans K0.out, (HW.out.block _ (zca K2.out)).trans K2.out, hB⟩ : _ ∧ _ ∧ Below w.heap.size w wr))
    have hn1 : ¬ ((1 : Nat) : Int) < 1 := by omega
    clear hB hlt
    go_wp2_with (first
     | (go_at_call 10; ((with_reducible refine (HAP.out _ KW.out.2.2 _ _).mono ?_)); rintro e w3 ⟨A3, c3, rfl, hb⟩; have HX := zab.mk ((⟨(hb.block _ (zca KW.out.1)).trans KW.out.1, (hb.block _ (zca KW.out.2.1)).trans KW.out.2.1, zaw KW.out.2.2 KW.out.2.2.size hb⟩ : _ ∧ _ ∧ Below w.heap.size w w3)); obtain ⟨f0, f1, f2, f3, f4, f5, ff⟩ := zaa.c6 HX.out.1; clear hb)
     | (go_at_call 38; ((with_reducible refine (zaa.idle1 5 A3 B c3 1 cB 5 1 _).mono ?_)); rintro e w4 ⟨rfl, hb⟩; have p0 := zbq (zbq HX.out.1 2 (.slice A3 0 c3) rfl) 1 (.int .i64 5) rfl; have p2 := (Below.heap_setCell (w3.setCell ⟨w.heap.size, 2, none⟩ (.slice A3 0 c3)) ⟨w.heap.size, 1, none⟩ (.int .i64 5) (w.heap.size + 1 + 1) n3).trans ((Below.heap_setCell w3 ⟨w.heap.size, 2, none⟩ (.slice A3 0 c3) (w.heap.size + 1 + 1) n3).trans HX.out.2.1); have pb := zcd (zcd HX.out.2.2 (j := 2) (v := .slice A3 0 c3) (Nat.le_refl w.heap.size)) (j := 1) (v := .int .i64 5) (Nat.le_refl w.heap.size); have HZ := zab.mk ((⟨(hb.block _ (zca p2)).trans p2, zaw pb pb.size hb⟩ : _ ∧ Below w.heap.size w w4)); obtain ⟨j0, j1, j2, j3, j4, j5, jf⟩ := zaa.c6 HZ.out.1; clear hb p0 p2 pb))
    refine bodyPost_ret (results_cell_row rfl _ _ (w.heap.size + 1 + 1) 33 _ (0, 0) _ rfl (zaa.fill6 HZ.out.1) hu rfl (by kernel_rfl)) rfl ?_
    exact ⟨A3, c3, rfl, Mem.below_setCells HZ.out.2 (by omega) 0 [.int .i64 1, .int .i64 5, .slice A3 0 c3, .int .i64 0, .int .i64 0, .slice none 0 0]⟩
set_option maxHeartbeats 4000000 in
theorem zaa.hear2 (k : Nat) (A : Option Addr) (c : Nat) (w : World) (h : zbg.f k [] = some true) (hn : zan.f k 2 1 5 0 1 [] = some true) (ha : zbs.f k [] [] = some ([], 0)) (hG : Glob w) : Calls Tryd.prog 16 #[.agg #[.int .i64 1, .int .i64 1, .slice A 0 c, .int .i64 0, .int .i64 0, .slice none 0 0], .agg #[.int .i64 2, .int .i64 1, .int .i64 5, .int .i64 0, .int .i64 1, .slice none 0 0]] w fun e w' => ∃ A c, e = .returned (.agg #[.int .i64 1, .int .i64 5, .slice A 0 c, .int .i64 0, .int .i64 0, .slice none 0 0]) ∧ Below w.heap.size w w' := by
 have hu := Tryd.underlying33
 have hv := Tryd.underlying41
 have HR := zab.mk (fun (W : World) (hW : Below w.heap.size w W) => zaa.right1 k 1 A c W (by decide) (by decide) h (hG.below hW))
 have HNT := zab.mk (fun (W : World) (hW : Below w.heap.size w W) => show Calls Tryd.prog 37 #[.agg #[.int .i64 2, .int .i64 1, .int .i64 5, .int .i64 0, .int .i64 1, .slice none 0 0]] W fun e w' => e = .returned (.bool true) ∧ Below W.heap.size W w' from zan.calls k 2 1 5 0 1 none 0 [] true W (zaa.C0 none) (Nat.le_refl 0) hn (hG.below hW))
 have HGA := zab.mk (fun (W : World) (hW : Below w.heap.size w W) => zaa.gather2 k A c W ha (hG.below hW))
 clear h hn ha hG
 go_enter Tryd.func16, Tryd.ntmps16
 go_wp2_with (first
  | (go_at_call 15; ((with_reducible refine (HR.out _ (zas (zas (zas (Below.refl _ _) _) _) _)).mono ?_)); rintro e w1 ⟨rfl, hb⟩; have HU := zab.mk (zaa.up3 hb); obtain ⟨a0, a1, a2, a3, a4, a5, af⟩ := zaa.c6 HU.out.1; obtain ⟨b0, b1, b2, b3, b4, b5, bf⟩ := zaa.c6 HU.out.2.1; clear hb)
  | (go_at_call 37; ((with_reducible refine (HNT.out _ HU.out.2.2.2).mono ?_)); rintro e w2 ⟨rfl, hb⟩; have HV := zab.mk ((⟨(hb.block _ (zca HU.out.1)).trans HU.out.1, (hb.block _ (zca HU.out.2.1)).trans HU.out.2.1, (hb.block _ (zca HU.out.2.2.1)).trans HU.out.2.2.1, zaw HU.out.2.2.2 HU.out.2.2.2.size hb⟩ : _ ∧ _ ∧ _ ∧ Below w.heap.size w w2)); obtain ⟨d0, d1, d2, d3, d4, d5, df⟩ := zaa.c6 HV.out.1; obtain ⟨e0, e1, e2, e3, e4, e5, ef⟩ := zaa.c6 HV.out.2.1; clear hb)
  | (go_at_call 39; ((with_reducible refine (HGA.out _ HV.out.2.2.2).mono ?_)); rintro e w3 ⟨A3, c3, rfl, hb⟩; have HW := zab.mk ((⟨(hb.block _ (zca HV.out.2.2.1)).trans HV.out.2.2.1, zaw HV.out.2.2.2 HV.out.2.2.2.size hb⟩ : _ ∧ Below w.heap.size w w3)); obtain ⟨j0, j1, j2, j3, j4, j5, jf⟩ := zaa.c6 HW.out.1; clear hb))
 refine bodyPost_ret (results_cell_row rfl _ _ (w.heap.size + 1 + 1) 33 _ (0, 0) _ rfl (zaa.fill6 HW.out.1) hu rfl (by kernel_rfl)) rfl ?_
 exact ⟨A3, c3, rfl, Mem.below_setCells HW.out.2 (by omega) 0 [.int .i64 1, .int .i64 5, .slice A3 0 c3, .int .i64 0, .int .i64 0, .slice none 0 0]⟩
theorem zaa.calls (k : Nat) (r : Bool) (w : World) (h : zaa.f k = some r) (hG : Glob w) : Calls Tryd.prog 9 #[] w fun e w' => e = .returned (.bool r) ∧ Below w.heap.size w w' := by
 unfold zaa.f at h; obtain ⟨a, h1, h⟩ := Option.bind_eq_some_iff.1 h
 cases a with
 | false => cases h
 | true =>
 rw [if_pos rfl] at h; obtain ⟨b, h2, h⟩ := Option.bind_eq_some_iff.1 h
 cases b with
 | false => cases h
 | true =>
 rw [if_pos rfl] at h; obtain ⟨c, h3, h⟩ := Option.bind_eq_some_iff.1 h
 cases c with
 | false => cases h
 | true =>
 rw [if_pos rfl] at h; obtain ⟨⟨l, t⟩, h4, h⟩ := Option.bind_eq_some_iff.1 h
 by_cases hq : l.length = 0 ∧ t = 0
 case neg => rw [if_neg hq] at h; cases h
 rw [if_pos hq] at h; injection h with h
 subst h; obtain rfl := List.eq_nil_of_length_eq_zero hq.1; obtain rfl := hq.2; have hu := Tryd.underlying33; have hv := Tryd.underlying41; have H1 := zab.mk (fun (W : World) (hW : Below w.heap.size w W) => zaa.hear1 k W h1 h2 h4 (hG.below hW)); have H2 := zab.mk (fun (W : World) (hW : Below w.heap.size w W) (A : Option Addr) (c : Nat) => zaa.hear2 k A c W h1 h3 h4 (hG.below hW)); have H3 := zab.mk (fun (W : World) (hW : Below w.heap.size w W) (A : Option Addr) (c : Nat) => zaa.ask1 k A c W h1 (hG.below hW)); clear h1 h2 h3 h4 hG hq; go_enter Tryd.func9, Tryd.ntmps9
 go_wp2_with (first
  | (go_at_call 18; ((with_reducible refine (zaa.new1 _).mono ?_)); rintro e w1 ⟨rfl, hb⟩; have HB1 := zab.mk hb; clear hb)
  | (go_at_call 16; ((with_reducible refine (H1.out _ (zas HB1.out _)).mono ?_)); rintro e w2 ⟨A2, c2, rfl, hb⟩; have hU := zaa.up hb; have HU := zab.mk ((⟨hU.1, zaw HB1.out HB1.out.size hU.2⟩ : _ ∧ Below w.heap.size w w2)); obtain ⟨a0, a1, a2, a3, a4, a5, af⟩ := zaa.c6 hU.1; clear hb hU)
  | (go_at_call 16; ((with_reducible refine (H2.out _ (zcd (zcd (zcd (zcd (zcd (zcd HU.out.2 HB1.out.size) HB1.out.size) HB1.out.size) HB1.out.size) HB1.out.size) HB1.out.size) _ _).mono ?_)); rintro e w3 ⟨A3, c3, rfl, hb⟩; have p0 := zaa.fill6 (v0 := .int .i64 1) (v1 := .int .i64 1) (v2 := .slice A2 0 c2) (v3 := .int .i64 0) (v4 := .int .i64 0) (v5 := .slice none 0 0) HU.out.1; have pb := Mem.below_setCells HU.out.2 HB1.out.size 0 [.int .i64 1, .int .i64 1, .slice A2 0 c2, .int .i64 0, .int .i64 0, .slice none 0 0]; have HV := zab.mk ((⟨(hb.block _ (zca p0)).trans p0, zaw pb pb.size hb⟩ : _ ∧ Below w.heap.size w w3)); obtain ⟨b0, b1, b2, b3, b4, b5, bf⟩ := zaa.c6 HV.out.1; clear hb p0 pb)
  | (go_at_call 21; ((with_reducible refine (H3.out _ (zcd (zcd (zcd (zcd (zcd (zcd HV.out.2 HB1.out.size) HB1.out.size) HB1.out.size) HB1.out.size) HB1.out.size) HB1.out.size) _ _).mono ?_)); rintro e w4 ⟨rfl, hb⟩; have p0 := zaa.fill6 (v0 := .int .i64 1) (v1 := .int .i64 5) (v2 := .slice A3 0 c3) (v3 := .int .i64 0) (v4 := .int .i64 0) (v5 := .slice none 0 0) HV.out.1; have pb := Mem.below_setCells HV.out.2 HB1.out.size 0 [.int .i64 1, .int .i64 5, .slice A3 0 c3, .int .i64 0, .int .i64 0, .slice none 0 0]; have HW := zab.mk ((⟨(hb.block _ (zca p0)).trans p0, zaw pb pb.size hb⟩ : _ ∧ Below w.heap.size w w4)); obtain ⟨d0, d1, d2, d3, d4, d5, df⟩ := zaa.c6 HW.out.1; have z0 := zca HW.out.1; (have z1 : ¬ (w1.heap.size = w4.heap.size) := by omega); (have z2 : ¬ (w4.heap.size = w1.heap.size) := by omega); clear hb p0 pb))
 go_ret; exact ⟨rfl, zas HW.out.2 _⟩

end Go.Proofs.YtchpbnabbjdfgaaDoor.P
