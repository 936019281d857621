-- HALVED
import Derived.Shelf.SlSortCmp.KitK
import Derived.Sort.WalkB2
import Derived.Sort.WalkB12
import Derived.Deep.LoopGhost
import Derived.Deep.Cut
import Derived.Test.YtchpbnabbjdfgaaDoorProg
import Derived.Test.YtchpbnabbjdfgaaDoorStA
import Derived.Test.YtchpbnabbjdfgaaDoorWAll
set_option linter.unusedVariables false
set_option linter.unusedSimpArgs false
namespace Go.Proofs.Stb
open Go.Shelf Go.RowKit Go.Lib Go.Sort Go.Stb Go.Proofs
structure zhs (P : Program) (k : Nat) : Prop where
 mixed : P.follows .mixedOrders = true
 F39 : P.funcs[79]? = some Tryd.f79
 F52 : P.funcs[95]? = some Tryd.f95
 F60 : P.funcs[103]? = some Tryd.f103
 F61 : P.funcs[104]? = some Tryd.f104
 F64 : P.funcs[108]? = some Tryd.f108
 F65 : P.funcs[109]? = some Tryd.f109
 e52 : ∀ args w, (callFunc 95 args).run P w = .ok (.enter 95 args) w
 e60 : ∀ args w, (callFunc 103 args).run P w = .ok (.enter 103 args) w
 e61 : ∀ args w, (callFunc 104 args).run P w = .ok (.enter 104 args) w
 e64 : ∀ args w, (callFunc 108 args).run P w = .ok (.enter 108 args) w
 e65 : ∀ args w, (callFunc 109 args).run P w = .ok (.enter 109 args) w
 aE : ∀ w, (isAgg 81).run P w = .ok true w
 zE : ∀ w, (Go.sizeOf 81).run P w = .ok k w
 t0 : P.underlying 0 = some (TypeDesc.tuple #[])
 a0 : ∀ w, (isAgg 0).run P w = .ok false w
 z0 : ∀ w, (Go.sizeOf 0).run P w = .ok 1 w
 v0 : ∀ w, (zeroValue 0).run P w = .ok (Value.tuple #[]) w
 t3 : P.underlying 3 = some (TypeDesc.int IntKind.i64)
 a3 : ∀ w, (isAgg 3).run P w = .ok false w
 z3 : ∀ w, (Go.sizeOf 3).run P w = .ok 1 w
 v3 : ∀ w, (zeroValue 3).run P w = .ok (Value.int IntKind.i64 0) w
 t4 : P.underlying 4 = some (TypeDesc.bool)
 a4 : ∀ w, (isAgg 4).run P w = .ok false w
 z4 : ∀ w, (Go.sizeOf 4).run P w = .ok 1 w
 v4 : ∀ w, (zeroValue 4).run P w = .ok (Value.bool false) w
 t22 : P.underlying 54 = some (TypeDesc.slice 81)
 a22 : ∀ w, (isAgg 54).run P w = .ok false w
 z22 : ∀ w, (Go.sizeOf 54).run P w = .ok 1 w
 v22 : ∀ w, (zeroValue 54).run P w = .ok (Value.slice none 0 0) w
 t61 : P.underlying 109 = some (TypeDesc.func #[81, 81] #[3] false)
 a61 : ∀ w, (isAgg 109).run P w = .ok false w
 z61 : ∀ w, (Go.sizeOf 109).run P w = .ok 1 w
 v61 : ∀ w, (zeroValue 109).run P w = .ok (Value.nilFunc) w

variable {P : Program} {α : Type} [Inhabited α]

set_option maxHeartbeats 4000000 in
set_option maxRecDepth 1000000 in
theorem zgz {k : Nat} (L : zhs P k) (enc : α → List Value) (g : Nat) (cb : Array Value) (blk off cap a b n : Nat) (d0 d : Array α) (w0 w : World)
  (R : RowK enc k w0 blk off d0) (hs : d0.size = d.size) (S : SWK enc k w0 blk off d w) (h1 : a + n ≤ d.size) (h2 : b + n ≤ d.size) (hsz : d.size < 4611686018427387904) :
  Calls P 109 #[.slice (some ⟨blk, off, none⟩) d.size cap, .int .i64 a, .int .i64 b, .int .i64 n, .func (.func g) #[] cb] w fun e w' => e = .returned (.tuple #[]) ∧ SWK enc k w0 blk off (swapRange a b n d) w' := by
 have mixed := L.mixed; have aE := L.aE; have zE := L.zE; have t0 := L.t0; have a0 := L.a0; have z0 := L.z0; have v0 := L.v0; have t3 := L.t3; have a3 := L.a3; have z3 := L.z3; have v3 := L.v3; have t4 := L.t4; have a4 := L.a4; have z4 := L.z4; have v4 := L.v4; have t22 := L.t22; have a22 := L.a22; have z22 := L.z22; have v22 := L.v22; have t61 := L.t61; have a61 := L.a61; have z61 := L.z61; have v61 := L.v61
 have FG := L.F65
 have S0 : Aside (SWK enc k w0 blk off d w) := S
 clear S
 go_enter FG, Tryd.ntmps109
 go_wp2
 go_loopg [10] n (fun kx s10 wr => ∃ (i : Nat) (dk : Array α), s10 = .int .i64 i ∧ i ≤ n ∧ n - i ≤ kx ∧
  dk.size = d.size ∧ Aside (SWK enc k w0 blk off dk wr) ∧ Hid (swapRange (a + i) (b + i) (n - i) dk = swapRange a b n d))
 case atStart => exact ⟨0, d, rfl, Nat.zero_le _, Nat.le_refl _, rfl, S0, rfl⟩
 case round =>
  clear S0
  obtain ⟨i, dk, rfl, hin, hkx, hds, S1, HE⟩ := hrel
  by_cases hlt : (i : Int) < (n : Int)
  ·have hin' : i < n := by omega
   go_wp2_with fail
   have ea44 : ((a : Int) + (i : Int)).toNat = a + i := by omega
   have pa44 : (0 : Int) ≤ (a : Int) + (i : Int) := by omega
   have ba44 : (a : Int) + (i : Int) < (d.size : Int) := by omega
   have ra44 : IntKind.i64.wrap ((a : Int) + (i : Int)) = (a : Int) + (i : Int) := by rw [IntKind.wrap_i64]; omega
   have ec44 : ((b : Int) + (i : Int)).toNat = b + i := by omega
   have pc44 : (0 : Int) ≤ (b : Int) + (i : Int) := by omega
   have bc44 : (b : Int) + (i : Int) < (d.size : Int) := by omega
   have rc44 : IntKind.i64.wrap ((b : Int) + (i : Int)) = (b : Int) + (i : Int) := by rw [IntKind.wrap_i64]; omega
   have S2 : Aside (SWK enc k w0 blk off (swp dk (a + i) (b + i)) ((wr.drew.setCells blk (off + (a + i) * k) (enc dk[b + i]!)).setCells blk (off + (b + i) * k) (enc dk[a + i]!))) := S1.out.swapped R (a + i) (b + i) (by omega) (by omega)
   have l44a := S1.out.ld1 R (by omega) P (a + i) (by omega)
   have l44b := S1.out.ld1 R (by omega) P (b + i) (by omega)
   have s44a := S1.out.st1 R (by omega) P (a + i) (by omega) dk[b + i]!
   have s44b := S1.out.st2 R (by omega) P (a + i) (b + i) (by omega) (by omega) dk[b + i]! dk[a + i]!
   have n44a : (enc dk[a + i]!).length = k := R.hk _
   have n44b : (enc dk[b + i]!).length = k := R.hk _
   generalize enc dk[a + i]! = cI44 at S2 l44a s44b n44a
   generalize enc dk[b + i]! = cJ44 at S2 l44b s44a s44b n44b
   clear S1
   go_wp2_with fail
   go_big_region_o
   clear l44a l44b s44a s44b
   generalize (wr.drew.setCells blk (off + (a + i) * k) cJ44).setCells blk (off + (b + i) * k) cI44 = w2 at S2 ⊢
   go_wp2
   go_roundg (n - (i + 1))
   case measure => omega
   case rel =>
    refine ⟨i + 1, swp dk (a + i) (b + i), by simp, by omega, Nat.le_refl _, by rw [size_swp]; exact hds, S2, (show Hid _ from ?_)⟩
    show _ = _
    rw [← HE.out, show n - i = (n - (i + 1)) + 1 by omega, swapRange]
    rfl
  ·have e : i = n := by omega
   subst e
   go_wp2
   go_end0
   refine ⟨rfl, ?_⟩
   have := HE.out
   rw [Nat.sub_self, swapRange] at this
   rw [← this]
   exact S1.out

end Go.Proofs.Stb

namespace Go.Proofs.Stb
open Go.Shelf Go.RowKit Go.Lib Go.Sort Go.Stb Go.Proofs
variable {P : Program} {α : Type} [Inhabited α]

set_option maxHeartbeats 4000000 in
set_option maxRecDepth 1000000 in
theorem rotate_walk {k : Nat} (L : zhs P k) (enc : α → List Value) (g : Nat) (cb : Array Value) (blk off cap a m b : Nat) (d0 d : Array α) (w0 w : World)
  (R : RowK enc k w0 blk off d0) (hs : d0.size = d.size) (S : SWK enc k w0 blk off d w) (ham : a < m) (hmb : m < b) (hb : b ≤ d.size) (hsz : d.size < 4611686018427387904) :
  Calls P 108 #[.slice (some ⟨blk, off, none⟩) d.size cap, .int .i64 a, .int .i64 m, .int .i64 b, .func (.func g) #[] cb] w fun e w' => e = .returned (.tuple #[]) ∧ SWK enc k w0 blk off (rotate a m b d) w' := by
 have mixed := L.mixed; have aE := L.aE; have zE := L.zE; have t0 := L.t0; have a0 := L.a0; have z0 := L.z0; have v0 := L.v0; have t3 := L.t3; have a3 := L.a3; have z3 := L.z3; have v3 := L.v3; have t4 := L.t4; have a4 := L.a4; have z4 := L.z4; have v4 := L.v4; have t22 := L.t22; have a22 := L.a22; have z22 := L.z22; have v22 := L.v22; have t61 := L.t61; have a61 := L.a61; have z61 := L.z61; have v61 := L.v61
 have FG := L.F64; have e65 := L.e65
 have S0 : Aside (SWK enc k w0 blk off d w) := S
 clear S
 have ecm : ((m - a : Nat) : Int) = (m : Int) - (a : Int) := by omega
 have ecb : ((b - m : Nat) : Int) = (b : Int) - (m : Int) := by omega
 go_enter FG, Tryd.ntmps108
 go_wp2
 go_loopg [10, 11] (b - a) (fun kx s10 s11 wr => ∃ (i j : Nat) (dk : Array α), s10 = .int .i64 i ∧ s11 = .int .i64 j ∧ 0 < i ∧ 0 < j ∧ i ≤ m ∧ m + j ≤ d.size ∧ i + j ≤ kx ∧
  dk.size = d.size ∧ Aside (SWK enc k w0 blk off dk wr) ∧ Hid (zds m i j dk = zds m (m - a) (b - m) d))
 case atStart => exact ⟨m - a, b - m, d, by rw [ecm], by rw [ecb], by omega, by omega, by omega, by omega, by omega, rfl, S0, rfl⟩
 case round =>
  clear S0
  obtain ⟨i, j, dk, rfl, rfl, hi0, hj0, him, hjb, hkx, hds, S1, HE⟩ := hrel
  have emi : ((m - i : Nat) : Int) = (m : Int) - (i : Int) := by omega
  by_cases hij : i = j
  ·subst hij
   have hcall := zgz L enc g cb blk off cap (m - i) m i d0 dk w0 wr R (by omega) S1.out (by omega) (by omega) (by omega)
   rw [emi, hds] at hcall
   go_wp2_with (go_at_fn 109; refine hcall.mono ?_; rintro e w1 ⟨rfl, S3⟩)
   go_end0
   refine ⟨rfl, ?_⟩
   rw [rotate, ← HE.out, zds, if_neg (by omega), if_pos rfl]
   exact S3
  ·have hijz : ¬ (i : Int) = (j : Int) := by omega
   by_cases hji : (j : Int) < (i : Int)
   ·have hcall := zgz L enc g cb blk off cap (m - i) m j d0 dk w0 wr R (by omega) S1.out (by omega) (by omega) (by omega)
    rw [emi, hds] at hcall
    clear S1
    go_wp2_with (go_at_fn 109; refine hcall.mono ?_; rintro e w1 ⟨rfl, S3⟩)
    go_roundg (i - j + j)
    case measure => omega
    case rel =>
     refine ⟨i - j, j, swapRange (m - i) m j dk, by rw [show ((i - j : Nat) : Int) = (i : Int) - (j : Int) by omega], rfl, by omega, hj0, by omega, hjb, Nat.le_refl _, by rw [zcr, hds], S3, (show Hid _ from ?_)⟩
     show _ = _
     rw [← HE.out]
     conv => rhs; rw [zds, if_neg (by omega), if_neg hij, if_pos (by omega)]
   ·have hjiz : ¬ (j : Int) < (i : Int) := hji
    have hcall := zgz L enc g cb blk off cap (m - i) (m + j - i) i d0 dk w0 wr R (by omega) S1.out (by omega) (by omega) (by omega)
    rw [emi, hds, show ((m + j - i : Nat) : Int) = (m : Int) + (j : Int) - (i : Int) by omega] at hcall
    clear S1
    go_wp2_with (go_at_fn 109; refine hcall.mono ?_; rintro e w1 ⟨rfl, S3⟩)
    go_roundg (i + (j - i))
    case measure => omega
    case rel =>
     refine ⟨i, j - i, swapRange (m - i) (m + j - i) i dk, rfl, by rw [show ((j - i : Nat) : Int) = (j : Int) - (i : Int) by omega], hi0, by omega, him, by omega, Nat.le_refl _, by rw [zcr, hds], S3, (show Hid _ from ?_)⟩
     show _ = _
     rw [← HE.out]
     conv => rhs; rw [zds, if_neg (by omega), if_neg hij, if_neg (by omega)]
end Go.Proofs.Stb

namespace Go.Proofs.Stb
open Go.Shelf Go.RowKit Go.Lib Go.Sort Go.Stb Go.Proofs
variable {P : Program} {α : Type} [Inhabited α] {enc : α → List Value} {k : Nat} {w0 W w w' : World} {blk off : Nat} {dk : Array α}
theorem below_form {wz : World} (hz : wz.drawn = 0) (n : Nat) (os : Array Obj) (h : Below (grow (wz.drewN n) os).heap.size (grow (wz.drewN n) os) w') : ∃ p : GrownBy, w' = grow (wz.drewN p.n) p.os := by
 obtain ⟨h1, h2, h3, h4, h5⟩ := h
 have e : (grow (wz.drewN n) os).heap.size = (wz.heap ++ os).size := rfl
 rw [e] at h4 h5
 have hh : ∃ xs, w'.heap = wz.heap ++ (os ++ xs) := by
  refine ⟨w'.heap.extract (wz.heap ++ os).size w'.heap.size, ?_⟩
  rw [← Array.append_assoc]
  apply Array.ext
  ·simp only [Array.size_append, Array.size_extract] at h4 ⊢; omega
  ·intro i hi1 hi2
   by_cases hi : i < (wz.heap ++ os).size
   ·rw [Array.getElem_append_left hi]
    have := h5 i hi
    rw [Array.getElem?_eq_getElem hi1] at this
    have e2 : (grow (wz.drewN n) os).heap[i]? = some ((wz.heap ++ os)[i]) := Array.getElem?_eq_getElem hi
    rw [e2] at this
    exact Option.some.inj this
   ·rw [Array.getElem_append_right (by omega), Array.getElem_extract]
    congr 1; omega
 obtain ⟨xs, hx⟩ := hh
 refine ⟨⟨w'.drawn, os ++ xs⟩, ?_⟩
 cases w'
 cases wz
 simp only [grow, World.drewN] at *
 subst hx h1 h2 h3 hz
 simp
def CmpB (P : Program) (g : Nat) (cb : Array Value) (enc : α → List Value) (k : Nat) (cf : α → α → Int) (blk off size : Nat) (w0 : World) : Prop :=
 ∀ (W : World) (dk : Array α), SWK enc k w0 blk off dk W → dk.size = size → ∀ x y : α,
  Calls P g (#[.agg (enc x).toArray, .agg (enc y).toArray] ++ cb) W fun e w' => e = .returned (.int .i64 (cf x y)) ∧ Below W.heap.size W w'

theorem zfy (h : SWK enc k w0 blk off dk W) (h0 : w0.drawn = 0) : ∃ wz q, W = wz.drewN q ∧ wz.drawn = 0 ∧ SWK enc k w0 blk off dk wz := by
 obtain ⟨m, os, rfl⟩ := h
 refine ⟨sortWorldK enc k w0 blk off 0 dk os, m, ?_, ?_, 0, os, rfl⟩
 ·unfold sortWorldK
  have e := putRowK_drewN enc k w0 0 m blk off dk
  rw [Nat.zero_add] at e
  rw [← e]
  rfl
 ·unfold sortWorldK putRowK putRow mapBlock
  simp only [grow, Sort.ahead, Nat.add_zero]
  exact h0

theorem SWK.cmpB {wz : World} {g : Nat} {cb : Array Value} {cf : α → α → Int} {size : Nat} (h : SWK enc k w0 blk off dk wz) (hC : CmpB P g cb enc k cf blk off size w0) (hz : wz.drawn = 0) (hs : dk.size = size) (x y : α) (n : Nat) (os : Array Obj) :
  Calls P g (#[.agg (enc x).toArray, .agg (enc y).toArray] ++ cb) (grow (wz.drewN n) os) fun e w' => e = .returned (.int .i64 (cf x y)) ∧ ∃ p : GrownBy, w' = grow (wz.drewN p.n) p.os :=
 (hC _ dk (h.grown n os) hs x y).mono fun _ _ ⟨he, hb⟩ => ⟨he, below_form hz n os hb⟩

theorem zcq {id : Nat} {Q : Exit → Act → World → Prop} {a : Act} {wz : World} {q : Nat} {l : List Oper} (hm : P.follows .mixedOrders = true) (hB : Region.lexB .any l.toArray = true)
  (h : wpQuiet P l.toArray (fun w' => ∃ p : GrownBy, w' = grow (wz.drewN p.n) p.os) (fun a' => ∀ w', (∃ p : GrownBy, w' = grow (wz.drewN p.n) p.os) → Q .normal a' w') l a) : (Code.region id l.toArray true).wp P Q a (wz.drewN q) :=
 wp_region_quiet (C := fun w' => ∃ p : GrownBy, w' = grow (wz.drewN p.n) p.os) hm hB ⟨⟨q + 1, #[]⟩, by rw [grow_empty]; rfl⟩ (by simpa using h)
end Go.Proofs.Stb

namespace Go.Proofs.Stb
open Go.Shelf Go.RowKit Go.Lib Go.Sort Go.Stb Go.Proofs
variable {P : Program} {α : Type} [Inhabited α]

set_option maxHeartbeats 4000000 in
set_option maxRecDepth 1000000 in
theorem ins_walk {k : Nat} (L : zhs P k) (enc : α → List Value) (cf : α → α → Int) (g : Nat) (cb : Array Value) (blk off cap a b : Nat) (d0 d : Array α) (w0 w : World)
  (eg : ∀ args w, (callFunc g args).run P w = .ok (.enter g args) w) (hcmp : CmpB P g cb enc k cf blk off d0.size w0) (h00 : w0.drawn = 0) (R : RowK enc k w0 blk off d0) (hs : d0.size = d.size) (S : SWK enc k w0 blk off d w) (hab : a ≤ b) (hb : b ≤ d.size) (hsz : d.size < 4611686018427387904) :
  Calls P 103 #[.slice (some ⟨blk, off, none⟩) d.size cap, .int .i64 a, .int .i64 b, .func (.func g) #[] cb] w fun e w' => e = .returned (.tuple #[]) ∧ SWK enc k w0 blk off (Sort.insertionSort (ltOf cf) d a b) w' := by
 have mixed := L.mixed; have aE := L.aE; have zE := L.zE; have t0 := L.t0; have a0 := L.a0; have z0 := L.z0; have v0 := L.v0; have t3 := L.t3; have a3 := L.a3; have z3 := L.z3; have v3 := L.v3; have t4 := L.t4; have a4 := L.a4; have z4 := L.z4; have v4 := L.v4; have t22 := L.t22; have a22 := L.a22; have z22 := L.z22; have v22 := L.v22; have t61 := L.t61; have a61 := L.a61; have z61 := L.z61; have v61 := L.v61
 have FG := L.F60
 have HC : Aside _ := hcmp
 have S0 : Aside (SWK enc k w0 blk off d w) := S
 clear S hcmp
 go_enter FG, Tryd.ntmps103
 go_wp2
 go_loopg [8] (b - a) (fun g1 vi wr => ∃ (i : Nat) (dk : Array α), vi = .int .i64 i ∧ a < i ∧ i ≤ b + 1 ∧ b + 1 - i ≤ g1 + 1 ∧ dk.size = d.size ∧ Aside (SWK enc k w0 blk off dk wr) ∧ Hid (insOuter (ltOf cf) a b i dk = insOuter (ltOf cf) a b (a + 1) d))
 case atStart => exact ⟨a + 1, d, by go_num, by omega, by omega, by omega, rfl, S0, rfl⟩
 case round =>
  clear S0
  obtain ⟨i, dk, rfl, hai, hib, hg1, hsk, S1, HO⟩ := hrel
  by_cases hlt : i < b
  ·have hltz : (i : Int) < (b : Int) := by omega
   go_wp2
   go_loopg [9] i (fun g2 vj wr2 => ∃ (j : Nat) (dj : Array α), vj = .int .i64 j ∧ a ≤ j ∧ j ≤ i ∧ j ≤ g2 ∧ dj.size = d.size ∧ Aside (SWK enc k w0 blk off dj wr2) ∧ Hid (insInner (ltOf cf) a j dj = insInner (ltOf cf) a i dk))
   case atStart => exact ⟨i, dk, rfl, by omega, Nat.le_refl _, Nat.le_refl _, hsk, S1, rfl⟩
   case round =>
    clear S1
    obtain ⟨j, dj, rfl, haj, hji, hg2, hsj, S1, HI⟩ := hrel
    have out : (j ≤ a ∨ ltOf cf dj[j]! dj[j - 1]! = false) → Hid (insOuter (ltOf cf) a b (i + 1) dj = insOuter (ltOf cf) a b (a + 1) d) := fun hs => by
     show _ = _
     rw [← HO.out, insOuter_go _ _ _ _ _ hlt, ← HI.out, insInner_stop _ _ _ _ hs]
    have OUT : Aside _ := out
    clear out
    by_cases hja : a < j
    ·have hjaz : (a : Int) < (j : Int) := by omega
     obtain ⟨jp, rfl⟩ : ∃ jp, j = jp + 1 := ⟨j - 1, by omega⟩
     have hjaz' : (a : Int) < (jp : Int) + 1 := by omega
     have hjc : ((jp + 1 : Nat) : Int) = (jp : Int) + 1 := by omega
     cases hL : ltOf cf dj[jp + 1]! dj[jp]! with
     | true =>
      obtain ⟨wz5, qz5, rfl, hz5, Z5⟩ := zfy S1.out h00
      clear S1
      have ea5 : ((jp : Int) + 1).toNat = jp + 1 := by omega
      have pa5 : (0 : Int) ≤ (jp : Int) + 1 := by omega
      have ba5 : (jp : Int) + 1 < (d.size : Int) := by omega
      have ra5 : IntKind.i64.wrap ((jp : Int) + 1) = (jp : Int) + 1 := by rw [IntKind.wrap_i64]; omega
      have ec5 : ((jp : Int)).toNat = jp := by omega
      have pc5 : (0 : Int) ≤ (jp : Int) := by omega
      have bc5 : (jp : Int) < (d.size : Int) := by omega
      have rc5 : IntKind.i64.wrap ((jp : Int)) = (jp : Int) := by rw [IntKind.wrap_i64]; omega
      obtain ⟨x5, hx5⟩ : ∃ x, x = dj[jp + 1]! := ⟨_, rfl⟩
      obtain ⟨y5, hy5⟩ : ∃ x, x = dj[jp]! := ⟨_, rfl⟩
      have l5a := Z5.ld R (by omega) P (jp + 1) (by omega)
      have l5b := Z5.ld R (by omega) P (jp) (by omega)
      rw [← hx5] at l5a
      rw [← hy5] at l5b
      have hc5 := SWK.cmpB Z5 HC.out hz5 (by omega) x5 y5
      have Z5 : Aside (SWK enc k w0 blk off dj wz5) := Z5
      clear hz5
      have hv5 : cf x5 y5 < 0 := by rw [hx5, hy5]; exact of_decide_eq_true hL
      have hd5 : decide (cf x5 y5 < 0) = true := decide_eq_true hv5
      clear hx5 hy5
      go_wp2_with fail
      refine zcq (wz := wz5) (q := qz5) mixed (by kernel_rfl) ?_
      repeat (quiet_step (first | (go_at_fn g; exact hc5 _ _)))
      refine wpQuiet_nil ?_
      intro _ hw'
      obtain ⟨⟨nq, osq⟩, hw''⟩ := hw'
      subst hw''
      have S2 : Aside (SWK enc k w0 blk off dj (grow (wz5.drewN nq) osq)) := Z5.out.grown nq osq
      clear l5a l5b hc5 Z5
      generalize grow (wz5.drewN nq) osq = w2 at S2 ⊢
      clear nq osq
      go_wp2_with fail
      have ea7 : ((jp : Int) + 1).toNat = jp + 1 := by omega
      have pa7 : (0 : Int) ≤ (jp : Int) + 1 := by omega
      have ba7 : (jp : Int) + 1 < (d.size : Int) := by omega
      have ra7 : IntKind.i64.wrap ((jp : Int) + 1) = (jp : Int) + 1 := by rw [IntKind.wrap_i64]; omega
      have ec7 : ((jp : Int)).toNat = jp := by omega
      have pc7 : (0 : Int) ≤ (jp : Int) := by omega
      have bc7 : (jp : Int) < (d.size : Int) := by omega
      have rc7 : IntKind.i64.wrap ((jp : Int)) = (jp : Int) := by rw [IntKind.wrap_i64]; omega
      have S3 : Aside (SWK enc k w0 blk off (swp dj (jp + 1) (jp)) ((w2.drew.setCells blk (off + (jp + 1) * k) (enc dj[jp]!)).setCells blk (off + (jp) * k) (enc dj[jp + 1]!))) := S2.out.swapped R (jp + 1) (jp) (by omega) (by omega)
      have l7a := S2.out.ld1 R (by omega) P (jp + 1) (by omega)
      have l7b := S2.out.ld1 R (by omega) P (jp) (by omega)
      have s7a := S2.out.st1 R (by omega) P (jp + 1) (by omega) dj[jp]!
      have s7b := S2.out.st2 R (by omega) P (jp + 1) (jp) (by omega) (by omega) dj[jp]! dj[jp + 1]!
      have n7a : (enc dj[jp + 1]!).length = k := R.hk _
      have n7b : (enc dj[jp]!).length = k := R.hk _
      generalize enc dj[jp + 1]! = cI7 at S3 l7a s7b n7a
      generalize enc dj[jp]! = cJ7 at S3 l7b s7a s7b n7b
      clear S2
      go_wp2_with fail
      go_big_region_o
      clear l7a l7b s7a s7b
      generalize (w2.drew.setCells blk (off + (jp + 1) * k) cJ7).setCells blk (off + (jp) * k) cI7 = w3 at S3 ⊢
      go_wp2
      go_roundg jp
      case measure => omega
      case rel =>
       refine ⟨jp, swp dj (jp + 1) jp, by first | rfl | go_num | (congr 1; omega), by omega, by omega, Nat.le_refl _, by rw [size_swp]; exact hsj, S3, (show Hid _ from ?_)⟩
       show _ = _
       have := insInner_go (ltOf cf) a (jp + 1) dj hja (by simpa using hL)
       simp only [Nat.add_sub_cancel] at this
       rw [← HI.out, this]
     | false =>
      obtain ⟨wz6, qz6, rfl, hz6, Z6⟩ := zfy S1.out h00
      clear S1
      have ea6 : ((jp : Int) + 1).toNat = jp + 1 := by omega
      have pa6 : (0 : Int) ≤ (jp : Int) + 1 := by omega
      have ba6 : (jp : Int) + 1 < (d.size : Int) := by omega
      have ra6 : IntKind.i64.wrap ((jp : Int) + 1) = (jp : Int) + 1 := by rw [IntKind.wrap_i64]; omega
      have ec6 : ((jp : Int)).toNat = jp := by omega
      have pc6 : (0 : Int) ≤ (jp : Int) := by omega
      have bc6 : (jp : Int) < (d.size : Int) := by omega
      have rc6 : IntKind.i64.wrap ((jp : Int)) = (jp : Int) := by rw [IntKind.wrap_i64]; omega
      obtain ⟨x6, hx6⟩ : ∃ x, x = dj[jp + 1]! := ⟨_, rfl⟩
      obtain ⟨y6, hy6⟩ : ∃ x, x = dj[jp]! := ⟨_, rfl⟩
      have l6a := Z6.ld R (by omega) P (jp + 1) (by omega)
      have l6b := Z6.ld R (by omega) P (jp) (by omega)
      rw [← hx6] at l6a
      rw [← hy6] at l6b
      have hc6 := SWK.cmpB Z6 HC.out hz6 (by omega) x6 y6
      have Z6 : Aside (SWK enc k w0 blk off dj wz6) := Z6
      clear hz6
      have hv6 : ¬ cf x6 y6 < 0 := by rw [hx6, hy6]; exact of_decide_eq_false hL
      have hd6 : decide (cf x6 y6 < 0) = false := decide_eq_false hv6
      clear hx6 hy6
      go_wp2_with fail
      refine zcq (wz := wz6) (q := qz6) mixed (by kernel_rfl) ?_
      repeat (quiet_step (first | (go_at_fn g; exact hc6 _ _)))
      refine wpQuiet_nil ?_
      intro _ hw'
      obtain ⟨⟨nq, osq⟩, hw''⟩ := hw'
      subst hw''
      have S2 : Aside (SWK enc k w0 blk off dj (grow (wz6.drewN nq) osq)) := Z6.out.grown nq osq
      clear l6a l6b hc6 Z6
      generalize grow (wz6.drewN nq) osq = w2 at S2 ⊢
      clear nq osq
      go_wp2
      go_roundg (b - (i + 1))
      case measure => omega
      case rel => exact ⟨i + 1, dj, by go_num, by omega, by omega, by omega, hsj, S2, OUT.out (Or.inr (by simpa using hL))⟩
    ·have hjaz : decide ((j : Int) > (a : Int)) = false := decide_eq_false (by omega)
     have hjaz' : ¬ (a : Int) < (j : Int) := by omega
     have S2 : Aside (SWK enc k w0 blk off dj wr.drew) := S1.out.drew
     clear S1
     go_wp2_with fail
     go_big_region_o
     all_goals go_wp2
     go_roundg (b - (i + 1))
     case measure => omega
     case rel => exact ⟨i + 1, dj, by go_num, by omega, by omega, by omega, hsj, S2, OUT.out (Or.inl (by omega))⟩
  ·have hltz : ¬ ((i : Int) < (b : Int)) := by omega
   go_wp2
   go_end0
   refine ⟨rfl, ?_⟩
   unfold Sort.insertionSort
   rw [← HO.out, insOuter_stop _ _ _ _ _ hlt]
   exact S1.out
end Go.Proofs.Stb

namespace Go.Proofs.Stb
open Go.Shelf Go.RowKit Go.Lib Go.Sort Go.Stb Go.Proofs
variable {P : Program} {α : Type} [Inhabited α]

set_option maxHeartbeats 4000000 in
set_option maxRecDepth 1000000 in
theorem symMerge_walk {k : Nat} (L : zhs P k) (enc : α → List Value) (cf : α → α → Int) (g : Nat) (cb : Array Value) (blk off cap : Nat) (d0 : Array α) (w0 : World)
  (eg : ∀ args w, (callFunc g args).run P w = .ok (.enter g args) w) (hcmp : CmpB P g cb enc k cf blk off d0.size w0) (h00 : w0.drawn = 0) (R : RowK enc k w0 blk off d0) (hsz : d0.size < 4611686018427387904)
  (t71 : P.underlying 51 = some (TypeDesc.int IntKind.u64)) :
  ∀ (f : Nat) (a m b : Nat) (d : Array α) (w : World), d0.size = d.size → SWK enc k w0 blk off d w → b - a ≤ f → a < m → m < b → b ≤ d.size →
  Calls P 104 #[.slice (some ⟨blk, off, none⟩) d.size cap, .int .i64 a, .int .i64 m, .int .i64 b, .func (.func g) #[] cb] w fun e w' => e = .returned (.tuple #[]) ∧ SWK enc k w0 blk off (symMerge (ltOf cf) f d a m b) w' := by
 have mixed := L.mixed; have aE := L.aE; have zE := L.zE; have t0 := L.t0; have a0 := L.a0; have z0 := L.z0; have v0 := L.v0; have t3 := L.t3; have a3 := L.a3; have z3 := L.z3; have v3 := L.v3; have t4 := L.t4; have a4 := L.a4; have z4 := L.z4; have v4 := L.v4; have t22 := L.t22; have a22 := L.a22; have z22 := L.z22; have v22 := L.v22; have t61 := L.t61; have a61 := L.a61; have z61 := L.z61; have v61 := L.v61
 have FG := L.F61; have e64 := L.e64; have e61 := L.e61
 have HC : Aside _ := hcmp
 intro f
 induction f with
 | zero => intro a m b d w hs S hf ham hmb hb; omega
 | succ f ih =>
 intro a m b d w hs S hf ham hmb hb
 have IH : Aside _ := ih
 clear ih hcmp
 have S0 : Aside (SWK enc k w0 blk off d w) := S
 clear S
 go_enter FG, Tryd.ntmps104
 by_cases c1 : m - a = 1
 ·have c1z : (m : Int) - (a : Int) = 1 := by omega
  go_wp2
  go_loopg [10, 11] (b - m) (fun kx s10 s11 wr => ∃ (i j : Nat), s10 = .int .i64 i ∧ s11 = .int .i64 j ∧ m ≤ i ∧ i ≤ j ∧ j ≤ b ∧ j - i ≤ kx ∧ Aside (SWK enc k w0 blk off d wr) ∧ Hid (bsearch (fun h => ltOf cf d[h]! d[a]!) i j = bsearch (fun h => ltOf cf d[h]! d[a]!) m b))
  case atStart => exact ⟨m, b, rfl, rfl, Nat.le_refl _, by omega, Nat.le_refl _, Nat.le_refl _, S0, rfl⟩
  case round =>
   clear S0
   obtain ⟨i, j, rfl, rfl, hmi, hij, hjb, hkx, S1, HE⟩ := hrel
   by_cases hlt : (i : Int) < (j : Int)
   ·have hlt' : i < j := by omega
    go_wp2_with fail
    obtain ⟨h, hh⟩ : ∃ h, h = (i + j) / 2 := ⟨_, rfl⟩
    have hz : ((i : Int) + (j : Int)) / 2 = (h : Int) := by omega
    have hih : i ≤ h := by omega
    have hhj : h < j := by omega
    simp only [hz]
    have HH : Hid (h = (i + j) / 2) := hh
    clear hz hh
    cases hL : ltOf cf d[h]! d[a]! with
    | true =>
     obtain ⟨wz5, qz5, rfl, hz5, Z5⟩ := zfy S1.out h00
     clear S1
     have ea5 : ((h : Int)).toNat = h := by omega
     have pa5 : (0 : Int) ≤ (h : Int) := by omega
     have ba5 : (h : Int) < (d.size : Int) := by omega
     have ra5 : IntKind.i64.wrap ((h : Int)) = (h : Int) := by rw [IntKind.wrap_i64]; omega
     have ec5 : ((a : Int)).toNat = a := by omega
     have pc5 : (0 : Int) ≤ (a : Int) := by omega
     have bc5 : (a : Int) < (d.size : Int) := by omega
     have rc5 : IntKind.i64.wrap ((a : Int)) = (a : Int) := by rw [IntKind.wrap_i64]; omega
     obtain ⟨x5, hx5⟩ : ∃ x, x = d[h]! := ⟨_, rfl⟩
     obtain ⟨y5, hy5⟩ : ∃ x, x = d[a]! := ⟨_, rfl⟩
     have l5a := Z5.ld R (by omega) P (h) (by omega)
     have l5b := Z5.ld R (by omega) P (a) (by omega)
     rw [← hx5] at l5a
     rw [← hy5] at l5b
     have hc5 := SWK.cmpB Z5 HC.out hz5 (by omega) x5 y5
     have Z5 : Aside (SWK enc k w0 blk off d wz5) := Z5
     clear hz5
     have hv5 : cf x5 y5 < 0 := by rw [hx5, hy5]; exact of_decide_eq_true hL
     have hd5 : decide (cf x5 y5 < 0) = true := decide_eq_true hv5
     clear hx5 hy5
     go_wp2_with fail
     refine zcq (wz := wz5) (q := qz5) mixed (by kernel_rfl) ?_
     repeat (quiet_step (first | (go_at_fn g; exact hc5 _ _)))
     refine wpQuiet_nil ?_
     intro _ hw'
     obtain ⟨⟨nq, osq⟩, hw''⟩ := hw'
     subst hw''
     have S2 : Aside (SWK enc k w0 blk off d (grow (wz5.drewN nq) osq)) := Z5.out.grown nq osq
     clear l5a l5b hc5 Z5
     generalize grow (wz5.drewN nq) osq = w2 at S2 ⊢
     clear nq osq
     go_wp2
     go_roundg (j - (h + 1))
     case measure => omega
     case rel =>
      refine ⟨h + 1, j, by simp, rfl, by omega, by omega, hjb, Nat.le_refl _, S2, (show Hid _ from ?_)⟩
      show _ = _
      rw [← HE.out]
      conv => rhs; rw [bsearch, if_pos hlt', ← HH.out, if_pos (by simp [hL])]
    | false =>
     obtain ⟨wz5, qz5, rfl, hz5, Z5⟩ := zfy S1.out h00
     clear S1
     have ea5 : ((h : Int)).toNat = h := by omega
     have pa5 : (0 : Int) ≤ (h : Int) := by omega
     have ba5 : (h : Int) < (d.size : Int) := by omega
     have ra5 : IntKind.i64.wrap ((h : Int)) = (h : Int) := by rw [IntKind.wrap_i64]; omega
     have ec5 : ((a : Int)).toNat = a := by omega
     have pc5 : (0 : Int) ≤ (a : Int) := by omega
     have bc5 : (a : Int) < (d.size : Int) := by omega
     have rc5 : IntKind.i64.wrap ((a : Int)) = (a : Int) := by rw [IntKind.wrap_i64]; omega
     obtain ⟨x5, hx5⟩ : ∃ x, x = d[h]! := ⟨_, rfl⟩
     obtain ⟨y5, hy5⟩ : ∃ x, x = d[a]! := ⟨_, rfl⟩
     have l5a := Z5.ld R (by omega) P (h) (by omega)
     have l5b := Z5.ld R (by omega) P (a) (by omega)
     rw [← hx5] at l5a
     rw [← hy5] at l5b
     have hc5 := SWK.cmpB Z5 HC.out hz5 (by omega) x5 y5
     have Z5 : Aside (SWK enc k w0 blk off d wz5) := Z5
     clear hz5
     have hv5 : ¬ cf x5 y5 < 0 := by rw [hx5, hy5]; exact of_decide_eq_false hL
     have hd5 : decide (cf x5 y5 < 0) = false := decide_eq_false hv5
     clear hx5 hy5
     go_wp2_with fail
     refine zcq (wz := wz5) (q := qz5) mixed (by kernel_rfl) ?_
     repeat (quiet_step (first | (go_at_fn g; exact hc5 _ _)))
     refine wpQuiet_nil ?_
     intro _ hw'
     obtain ⟨⟨nq, osq⟩, hw''⟩ := hw'
     subst hw''
     have S2 : Aside (SWK enc k w0 blk off d (grow (wz5.drewN nq) osq)) := Z5.out.grown nq osq
     clear l5a l5b hc5 Z5
     generalize grow (wz5.drewN nq) osq = w2 at S2 ⊢
     clear nq osq
     go_wp2
     go_roundg (h - i)
     case measure => omega
     case rel =>
      refine ⟨i, h, rfl, rfl, by omega, by omega, by omega, Nat.le_refl _, S2, (show Hid _ from ?_)⟩
      show _ = _
      rw [← HE.out]
      conv => rhs; rw [bsearch, if_pos hlt', ← HH.out, if_neg (by simp [hL])]
   ·have hij' : i = j := by omega
    subst hij'
    have hr : bsearch (fun h => ltOf cf d[h]! d[a]!) m b = i := by rw [← HE.out, bsearch, if_neg (by omega)]
    have hlt' : ¬ (i : Int) < (i : Int) := by omega
    go_wp2
    go_loopg [13] (i - 1 - a) (fun kx s13 wr2 => ∃ (q : Nat) (dk : Array α), s13 = .int .i64 q ∧ a ≤ q ∧ q ≤ i - 1 ∧ i - 1 - q ≤ kx ∧ dk.size = d.size ∧ Aside (SWK enc k w0 blk off dk wr2) ∧ Hid (shUp q (i - 1 - q) dk = shUp a (i - 1 - a) d))
    case atStart => exact ⟨a, d, rfl, Nat.le_refl _, by omega, Nat.le_refl _, rfl, S1, rfl⟩
    case round =>
     clear S1
     obtain ⟨q, dk, rfl, haq, hqi, hkx2, hds, S1, HE2⟩ := hrel
     by_cases hq : (q : Int) < (i : Int) - 1
     ·go_wp2_with fail
      have ea7 : ((q : Int)).toNat = q := by omega
      have pa7 : (0 : Int) ≤ (q : Int) := by omega
      have ba7 : (q : Int) < (d.size : Int) := by omega
      have ra7 : IntKind.i64.wrap ((q : Int)) = (q : Int) := by rw [IntKind.wrap_i64]; omega
      have ec7 : ((q : Int) + 1).toNat = q + 1 := by omega
      have pc7 : (0 : Int) ≤ (q : Int) + 1 := by omega
      have bc7 : (q : Int) + 1 < (d.size : Int) := by omega
      have rc7 : IntKind.i64.wrap ((q : Int) + 1) = (q : Int) + 1 := by rw [IntKind.wrap_i64]; omega
      have S2 : Aside (SWK enc k w0 blk off (swp dk (q) (q + 1)) ((wr.drew.setCells blk (off + (q) * k) (enc dk[q + 1]!)).setCells blk (off + (q + 1) * k) (enc dk[q]!))) := S1.out.swapped R (q) (q + 1) (by omega) (by omega)
      have l7a := S1.out.ld1 R (by omega) P (q) (by omega)
      have l7b := S1.out.ld1 R (by omega) P (q + 1) (by omega)
      have s7a := S1.out.st1 R (by omega) P (q) (by omega) dk[q + 1]!
      have s7b := S1.out.st2 R (by omega) P (q) (q + 1) (by omega) (by omega) dk[q + 1]! dk[q]!
      have n7a : (enc dk[q]!).length = k := R.hk _
      have n7b : (enc dk[q + 1]!).length = k := R.hk _
      generalize enc dk[q]! = cI7 at S2 l7a s7b n7a
      generalize enc dk[q + 1]! = cJ7 at S2 l7b s7a s7b n7b
      clear S1
      go_wp2_with fail
      go_big_region_o
      clear l7a l7b s7a s7b
      generalize (wr.drew.setCells blk (off + (q) * k) cJ7).setCells blk (off + (q + 1) * k) cI7 = w2 at S2 ⊢
      go_wp2
      go_roundg (i - 1 - (q + 1))
      case measure => omega
      case rel =>
       refine ⟨q + 1, swp dk q (q + 1), by simp, by omega, by omega, Nat.le_refl _, by rw [size_swp]; exact hds, S2, (show Hid _ from ?_)⟩
       show _ = _
       rw [← HE2.out, show i - 1 - q = (i - 1 - (q + 1)) + 1 by omega, shUp]
     ·have hq' : q = i - 1 := by omega
      go_wp2
      (try simp only [Exit.inBlock, Exit.then]); refine bodyPost_ret (results_none rfl _ _ _) rfl ?_
      refine ⟨rfl, ?_⟩
      rw [symMerge, if_pos c1, hr, ← HE2.out, hq', Nat.sub_self, shUp]
      exact S1.out
 ·have c1z : ¬ ((m : Int) - (a : Int) = 1) := by omega
  have c1b : ((m : Int) - (a : Int) == 1) = false := by simp [c1z]
  by_cases c2 : b - m = 1
  ·have c2z : (b : Int) - (m : Int) = 1 := by omega
   go_wp2
   go_loopg [14, 15] (m - a) (fun kx s10 s11 wr => ∃ (i j : Nat), s10 = .int .i64 i ∧ s11 = .int .i64 j ∧ a ≤ i ∧ i ≤ j ∧ j ≤ m ∧ j - i ≤ kx ∧ Aside (SWK enc k w0 blk off d wr) ∧ Hid (bsearch (fun h => !ltOf cf d[m]! d[h]!) i j = bsearch (fun h => !ltOf cf d[m]! d[h]!) a m))
   case atStart => exact ⟨a, m, rfl, rfl, Nat.le_refl _, by omega, Nat.le_refl _, Nat.le_refl _, S0, rfl⟩
   case round =>
    clear S0
    obtain ⟨i, j, rfl, rfl, hai, hij, hjm, hkx, S1, HE⟩ := hrel
    by_cases hlt : (i : Int) < (j : Int)
    ·have hlt' : i < j := by omega
     go_wp2_with fail
     obtain ⟨h, hh⟩ : ∃ h, h = (i + j) / 2 := ⟨_, rfl⟩
     have hz : ((i : Int) + (j : Int)) / 2 = (h : Int) := by omega
     have hih : i ≤ h := by omega
     have hhj : h < j := by omega
     simp only [hz]
     have HH : Hid (h = (i + j) / 2) := hh
     clear hz hh
     cases hL : ltOf cf d[m]! d[h]! with
     | true =>
      obtain ⟨wz6, qz6, rfl, hz6, Z6⟩ := zfy S1.out h00
      clear S1
      have ea6 : ((m : Int)).toNat = m := by omega
      have pa6 : (0 : Int) ≤ (m : Int) := by omega
      have ba6 : (m : Int) < (d.size : Int) := by omega
      have ra6 : IntKind.i64.wrap ((m : Int)) = (m : Int) := by rw [IntKind.wrap_i64]; omega
      have ec6 : ((h : Int)).toNat = h := by omega
      have pc6 : (0 : Int) ≤ (h : Int) := by omega
      have bc6 : (h : Int) < (d.size : Int) := by omega
      have rc6 : IntKind.i64.wrap ((h : Int)) = (h : Int) := by rw [IntKind.wrap_i64]; omega
      obtain ⟨x6, hx6⟩ : ∃ x, x = d[m]! := ⟨_, rfl⟩
      obtain ⟨y6, hy6⟩ : ∃ x, x = d[h]! := ⟨_, rfl⟩
      have l6a := Z6.ld R (by omega) P (m) (by omega)
      have l6b := Z6.ld R (by omega) P (h) (by omega)
      rw [← hx6] at l6a
      rw [← hy6] at l6b
      have hc6 := SWK.cmpB Z6 HC.out hz6 (by omega) x6 y6
      have Z6 : Aside (SWK enc k w0 blk off d wz6) := Z6
      clear hz6
      have hv6 : cf x6 y6 < 0 := by rw [hx6, hy6]; exact of_decide_eq_true hL
      have hd6 : decide (cf x6 y6 < 0) = true := decide_eq_true hv6
      clear hx6 hy6
      go_wp2_with fail
      refine zcq (wz := wz6) (q := qz6) mixed (by kernel_rfl) ?_
      repeat (quiet_step (first | (go_at_fn g; exact hc6 _ _)))
      refine wpQuiet_nil ?_
      intro _ hw'
      obtain ⟨⟨nq, osq⟩, hw''⟩ := hw'
      subst hw''
      have S2 : Aside (SWK enc k w0 blk off d (grow (wz6.drewN nq) osq)) := Z6.out.grown nq osq
      clear l6a l6b hc6 Z6
      generalize grow (wz6.drewN nq) osq = w2 at S2 ⊢
      clear nq osq
      go_wp2
      go_roundg (h - i)
      case measure => omega
      case rel =>
       refine ⟨i, h, rfl, rfl, by omega, by omega, by omega, Nat.le_refl _, S2, (show Hid _ from ?_)⟩
       show _ = _
       rw [← HE.out]
       conv => rhs; rw [bsearch, if_pos hlt', ← HH.out, if_neg (by simp [hL])]
     | false =>
      obtain ⟨wz6, qz6, rfl, hz6, Z6⟩ := zfy S1.out h00
      clear S1
      have ea6 : ((m : Int)).toNat = m := by omega
      have pa6 : (0 : Int) ≤ (m : Int) := by omega
      have ba6 : (m : Int) < (d.size : Int) := by omega
      have ra6 : IntKind.i64.wrap ((m : Int)) = (m : Int) := by rw [IntKind.wrap_i64]; omega
      have ec6 : ((h : Int)).toNat = h := by omega
      have pc6 : (0 : Int) ≤ (h : Int) := by omega
      have bc6 : (h : Int) < (d.size : Int) := by omega
      have rc6 : IntKind.i64.wrap ((h : Int)) = (h : Int) := by rw [IntKind.wrap_i64]; omega
      obtain ⟨x6, hx6⟩ : ∃ x, x = d[m]! := ⟨_, rfl⟩
      obtain ⟨y6, hy6⟩ : ∃ x, x = d[h]! := ⟨_, rfl⟩
      have l6a := Z6.ld R (by omega) P (m) (by omega)
      have l6b := Z6.ld R (by omega) P (h) (by omega)
      rw [← hx6] at l6a
      rw [← hy6] at l6b
      have hc6 := SWK.cmpB Z6 HC.out hz6 (by omega) x6 y6
      have Z6 : Aside (SWK enc k w0 blk off d wz6) := Z6
      clear hz6
      have hv6 : ¬ cf x6 y6 < 0 := by rw [hx6, hy6]; exact of_decide_eq_false hL
      have hd6 : decide (cf x6 y6 < 0) = false := decide_eq_false hv6
      clear hx6 hy6
      go_wp2_with fail
      refine zcq (wz := wz6) (q := qz6) mixed (by kernel_rfl) ?_
      repeat (quiet_step (first | (go_at_fn g; exact hc6 _ _)))
      refine wpQuiet_nil ?_
      intro _ hw'
      obtain ⟨⟨nq, osq⟩, hw''⟩ := hw'
      subst hw''
      have S2 : Aside (SWK enc k w0 blk off d (grow (wz6.drewN nq) osq)) := Z6.out.grown nq osq
      clear l6a l6b hc6 Z6
      generalize grow (wz6.drewN nq) osq = w2 at S2 ⊢
      clear nq osq
      go_wp2
      go_roundg (j - (h + 1))
      case measure => omega
      case rel =>
       refine ⟨h + 1, j, by simp, rfl, by omega, by omega, hjm, Nat.le_refl _, S2, (show Hid _ from ?_)⟩
       show _ = _
       rw [← HE.out]
       conv => rhs; rw [bsearch, if_pos hlt', ← HH.out, if_pos (by simp [hL])]
    ·have hij' : i = j := by omega
     subst hij'
     have hr : bsearch (fun h => !ltOf cf d[m]! d[h]!) a m = i := by rw [← HE.out, bsearch, if_neg (by omega)]
     have hlt' : ¬ (i : Int) < (i : Int) := by omega
     go_wp2
     go_loopg [17] (m - i) (fun kx s17 wr2 => ∃ (q : Nat) (dk : Array α), s17 = .int .i64 q ∧ i ≤ q ∧ q ≤ m ∧ q - i ≤ kx ∧ dk.size = d.size ∧ Aside (SWK enc k w0 blk off dk wr2) ∧ Hid (shDn q (q - i) dk = shDn m (m - i) d))
     case atStart => exact ⟨m, d, rfl, by omega, Nat.le_refl _, Nat.le_refl _, rfl, S1, rfl⟩
     case round =>
      clear S1
      obtain ⟨q, dk, rfl, hiq, hqm, hkx2, hds, S1, HE2⟩ := hrel
      by_cases hq : (i : Int) < (q : Int)
      ·obtain ⟨p, rfl⟩ : ∃ p, q = p + 1 := ⟨q - 1, by omega⟩
       have hpz : ((p + 1 : Nat) : Int) = (p : Int) + 1 := by omega
       rw [hpz] at hq ⊢
       go_wp2_with fail
       have ea8 : ((p : Int) + 1).toNat = p + 1 := by omega
       have pa8 : (0 : Int) ≤ (p : Int) + 1 := by omega
       have ba8 : (p : Int) + 1 < (d.size : Int) := by omega
       have ra8 : IntKind.i64.wrap ((p : Int) + 1) = (p : Int) + 1 := by rw [IntKind.wrap_i64]; omega
       have ec8 : ((p : Int)).toNat = p := by omega
       have pc8 : (0 : Int) ≤ (p : Int) := by omega
       have bc8 : (p : Int) < (d.size : Int) := by omega
       have rc8 : IntKind.i64.wrap ((p : Int)) = (p : Int) := by rw [IntKind.wrap_i64]; omega
       have S2 : Aside (SWK enc k w0 blk off (swp dk (p + 1) (p)) ((wr.drew.setCells blk (off + (p + 1) * k) (enc dk[p]!)).setCells blk (off + (p) * k) (enc dk[p + 1]!))) := S1.out.swapped R (p + 1) (p) (by omega) (by omega)
       have l8a := S1.out.ld1 R (by omega) P (p + 1) (by omega)
       have l8b := S1.out.ld1 R (by omega) P (p) (by omega)
       have s8a := S1.out.st1 R (by omega) P (p + 1) (by omega) dk[p]!
       have s8b := S1.out.st2 R (by omega) P (p + 1) (p) (by omega) (by omega) dk[p]! dk[p + 1]!
       have n8a : (enc dk[p + 1]!).length = k := R.hk _
       have n8b : (enc dk[p]!).length = k := R.hk _
       generalize enc dk[p + 1]! = cI8 at S2 l8a s8b n8a
       generalize enc dk[p]! = cJ8 at S2 l8b s8a s8b n8b
       clear S1
       go_wp2_with fail
       go_big_region_o
       clear l8a l8b s8a s8b
       generalize (wr.drew.setCells blk (off + (p + 1) * k) cJ8).setCells blk (off + (p) * k) cI8 = w2 at S2 ⊢
       go_wp2
       go_roundg (p - i)
       case measure => omega
       case rel =>
        refine ⟨p, swp dk (p + 1) p, by first | rfl | simp, by omega, by omega, Nat.le_refl _, by rw [size_swp]; exact hds, S2, (show Hid _ from ?_)⟩
        show _ = _
        rw [← HE2.out, show p + 1 - i = (p - i) + 1 by omega, shDn]
        rfl
      ·have hq' : q = i := by omega
       go_wp2
       (try simp only [Exit.inBlock, Exit.then]); refine bodyPost_ret (results_none rfl _ _ _) rfl ?_
       refine ⟨rfl, ?_⟩
       rw [symMerge, if_neg c1, if_pos c2, hr, ← HE2.out, hq', Nat.sub_self, shDn]
       exact S1.out
  ·have c2z : ¬ ((b : Int) - (m : Int) = 1) := by omega
   have c2b : ((b : Int) - (m : Int) == 1) = false := by simp [c2z]
   obtain ⟨mid, hmid⟩ : ∃ x, x = (a + b) / 2 := ⟨_, rfl⟩
   have hdiv : 2 * mid ≤ a + b ∧ a + b ≤ 2 * mid + 1 := by omega
   have hm1 : a < mid := by omega
   have hm2 : mid < b := by omega
   obtain ⟨st, hst⟩ : ∃ x, x = (if mid < m then mid + m - b else a) := ⟨_, rfl⟩
   obtain ⟨r0, hr0⟩ : ∃ x, x = (if mid < m then mid else m) := ⟨_, rfl⟩
   have hSM : zfz (ltOf cf) a m b d = bsearch (fun c => !ltOf cf d[mid + m - 1 - c]! d[c]!) st r0 := by rw [zfz, ← hmid, ← hst, ← hr0]
   have hb1 : a ≤ st ∧ st ≤ r0 ∧ r0 ≤ m ∧ r0 ≤ mid ∧ mid + m - st ≤ b := by rw [hst, hr0]; split <;> (refine ⟨?_, ?_, ?_, ?_, ?_⟩ <;> omega)
   go_upto_if 140 with fail
   have hmz : ((a : Int) + (b : Int)) / 2 = (mid : Int) := by omega
   simp only [hmz]
   have HM : Hid (mid = (a + b) / 2) := hmid
   clear hmz hmid
   go_cut [20, 21] from 138 (fun s20 s21 wc => s20 = .int .i64 st ∧ s21 = .int .i64 r0 ∧ w = wc)
   case first =>
    by_cases hm : mid < m
    ·rw [if_pos hm] at hst hr0
     have hmi : (mid : Int) < (m : Int) := by omega
     go_wp2_with fail
     go_meet
     case rel => exact ⟨by rw [hst]; congr 1; omega, by rw [hr0], rfl⟩
    ·rw [if_neg hm] at hst hr0
     have hmi : ¬ (mid : Int) < (m : Int) := by omega
     go_wp2_with fail
     go_meet
     case rel => exact ⟨by rw [hst], by rw [hr0], rfl⟩
   case rest =>
    obtain ⟨rfl, rfl, rfl⟩ := hcut
    clear hst hr0
    go_wp2
    go_loopg [20, 21] (r0 - st) (fun kx s10 s11 wr => ∃ (i j : Nat), s10 = .int .i64 i ∧ s11 = .int .i64 j ∧ st ≤ i ∧ i ≤ j ∧ j ≤ r0 ∧ j - i ≤ kx ∧ Aside (SWK enc k w0 blk off d wr) ∧ Hid (bsearch (fun c => !ltOf cf d[mid + m - 1 - c]! d[c]!) i j = bsearch (fun c => !ltOf cf d[mid + m - 1 - c]! d[c]!) st r0))
    case atStart => exact ⟨st, r0, rfl, rfl, Nat.le_refl _, by omega, Nat.le_refl _, Nat.le_refl _, S0, rfl⟩
    case round =>
     clear S0
     obtain ⟨i, j, rfl, rfl, hai, hij, hjm, hkx, S1, HE⟩ := hrel
     by_cases hlt : (i : Int) < (j : Int)
     ·have hlt' : i < j := by omega
      go_wp2_with fail
      obtain ⟨h, hh⟩ : ∃ h, h = (i + j) / 2 := ⟨_, rfl⟩
      have hz : ((i : Int) + (j : Int)) / 2 = (h : Int) := by omega
      have hih : i ≤ h := by omega
      have hhj : h < j := by omega
      simp only [hz]
      have HH : Hid (h = (i + j) / 2) := hh
      clear hz hh
      obtain ⟨z, hzn⟩ : ∃ z, z = mid + m - 1 - h := ⟨_, rfl⟩
      have hz9 : (mid : Int) + (m : Int) - 1 - (h : Int) = (z : Int) := by omega
      have hzb : z < b := by omega
      have HZ : Hid (z = mid + m - 1 - h) := hzn
      clear hzn
      cases hL : ltOf cf d[z]! d[h]! with
      | true =>
       obtain ⟨wz9, qz9, rfl, hz9, Z9⟩ := zfy S1.out h00
       clear S1
       have ea9 : ((z : Int)).toNat = z := by omega
       have pa9 : (0 : Int) ≤ (z : Int) := by omega
       have ba9 : (z : Int) < (d.size : Int) := by omega
       have ra9 : IntKind.i64.wrap ((z : Int)) = (z : Int) := by rw [IntKind.wrap_i64]; omega
       have ec9 : ((h : Int)).toNat = h := by omega
       have pc9 : (0 : Int) ≤ (h : Int) := by omega
       have bc9 : (h : Int) < (d.size : Int) := by omega
       have rc9 : IntKind.i64.wrap ((h : Int)) = (h : Int) := by rw [IntKind.wrap_i64]; omega
       obtain ⟨x9, hx9⟩ : ∃ x, x = d[z]! := ⟨_, rfl⟩
       obtain ⟨y9, hy9⟩ : ∃ x, x = d[h]! := ⟨_, rfl⟩
       have l9a := Z9.ld R (by omega) P (z) (by omega)
       have l9b := Z9.ld R (by omega) P (h) (by omega)
       rw [← hx9] at l9a
       rw [← hy9] at l9b
       have hc9 := SWK.cmpB Z9 HC.out hz9 (by omega) x9 y9
       have Z9 : Aside (SWK enc k w0 blk off d wz9) := Z9
       clear hz9
       have hv9 : cf x9 y9 < 0 := by rw [hx9, hy9]; exact of_decide_eq_true hL
       have hd9 : decide (cf x9 y9 < 0) = true := decide_eq_true hv9
       clear hx9 hy9
       go_wp2_with fail
       refine zcq (wz := wz9) (q := qz9) mixed (by kernel_rfl) ?_
       repeat (quiet_step (first | (go_at_fn g; exact hc9 _ _)))
       refine wpQuiet_nil ?_
       intro _ hw'
       obtain ⟨⟨nq, osq⟩, hw''⟩ := hw'
       subst hw''
       have S2 : Aside (SWK enc k w0 blk off d (grow (wz9.drewN nq) osq)) := Z9.out.grown nq osq
       clear l9a l9b hc9 Z9
       generalize grow (wz9.drewN nq) osq = w2 at S2 ⊢
       clear nq osq
       go_wp2
       go_roundg (h - i)
       case measure => omega
       case rel =>
        refine ⟨i, h, rfl, rfl, by omega, by omega, by omega, Nat.le_refl _, S2, (show Hid _ from ?_)⟩
        show _ = _
        rw [← HE.out]
        conv => rhs; rw [bsearch, if_pos hlt', ← HH.out, if_neg (by rw [← HZ.out]; simp [hL])]
      | false =>
       obtain ⟨wz9, qz9, rfl, hz9, Z9⟩ := zfy S1.out h00
       clear S1
       have ea9 : ((z : Int)).toNat = z := by omega
       have pa9 : (0 : Int) ≤ (z : Int) := by omega
       have ba9 : (z : Int) < (d.size : Int) := by omega
       have ra9 : IntKind.i64.wrap ((z : Int)) = (z : Int) := by rw [IntKind.wrap_i64]; omega
       have ec9 : ((h : Int)).toNat = h := by omega
       have pc9 : (0 : Int) ≤ (h : Int) := by omega
       have bc9 : (h : Int) < (d.size : Int) := by omega
       have rc9 : IntKind.i64.wrap ((h : Int)) = (h : Int) := by rw [IntKind.wrap_i64]; omega
       obtain ⟨x9, hx9⟩ : ∃ x, x = d[z]! := ⟨_, rfl⟩
       obtain ⟨y9, hy9⟩ : ∃ x, x = d[h]! := ⟨_, rfl⟩
       have l9a := Z9.ld R (by omega) P (z) (by omega)
       have l9b := Z9.ld R (by omega) P (h) (by omega)
       rw [← hx9] at l9a
       rw [← hy9] at l9b
       have hc9 := SWK.cmpB Z9 HC.out hz9 (by omega) x9 y9
       have Z9 : Aside (SWK enc k w0 blk off d wz9) := Z9
       clear hz9
       have hv9 : ¬ cf x9 y9 < 0 := by rw [hx9, hy9]; exact of_decide_eq_false hL
       have hd9 : decide (cf x9 y9 < 0) = false := decide_eq_false hv9
       clear hx9 hy9
       go_wp2_with fail
       refine zcq (wz := wz9) (q := qz9) mixed (by kernel_rfl) ?_
       repeat (quiet_step (first | (go_at_fn g; exact hc9 _ _)))
       refine wpQuiet_nil ?_
       intro _ hw'
       obtain ⟨⟨nq, osq⟩, hw''⟩ := hw'
       subst hw''
       have S2 : Aside (SWK enc k w0 blk off d (grow (wz9.drewN nq) osq)) := Z9.out.grown nq osq
       clear l9a l9b hc9 Z9
       generalize grow (wz9.drewN nq) osq = w2 at S2 ⊢
       clear nq osq
       go_wp2
       go_roundg (j - (h + 1))
       case measure => omega
       case rel =>
        refine ⟨h + 1, j, by simp, rfl, by omega, by omega, hjm, Nat.le_refl _, S2, (show Hid _ from ?_)⟩
        show _ = _
        rw [← HE.out]
        conv => rhs; rw [bsearch, if_pos hlt', ← HH.out, if_pos (by rw [← HZ.out]; simp [hL])]
     ·have hij' : i = j := by omega
      subst hij'
      have hlt' : ¬ (i : Int) < (i : Int) := by omega
      have hr : zfz (ltOf cf) a m b d = i := by rw [hSM, ← HE.out, bsearch, if_neg (by omega)]
      clear HE hSM
      obtain ⟨e, he⟩ : ∃ x, x = mid + m - i := ⟨_, rfl⟩
      have hez : (mid : Int) + (m : Int) - (i : Int) = (e : Int) := by omega
      have hbd : a ≤ i ∧ i ≤ m ∧ i ≤ mid ∧ mid ≤ e ∧ m ≤ e ∧ e ≤ b := by refine ⟨?_, ?_, ?_, ?_, ?_, ?_⟩ <;> omega
      have HEE : Hid (e = mid + m - i) := he
      clear he
      go_upto_region 39 with fail
      clear hez
      obtain ⟨cA, hcA⟩ : ∃ x : Bool, x = decide (i < m ∧ m < e) := ⟨_, rfl⟩
      go_cut [185] from 138 (fun s185 wc => s185 = .bool cA ∧ wr = wc)
      case first =>
       by_cases q1 : i < m
       ·have q1z : (i : Int) < (m : Int) := by omega
        by_cases q2 : m < e
        ·have q2z : (m : Int) < (e : Int) := by omega
         go_wp2_with fail
         go_meet
         case rel => exact ⟨by rw [hcA, decide_eq_true ⟨q1, q2⟩], rfl⟩
        ·have q2z : ¬ (m : Int) < (e : Int) := by omega
         go_wp2_with fail
         go_meet
         case rel => exact ⟨by rw [hcA, decide_eq_false (fun h => q2 h.2)], rfl⟩
       ·have q1z : ¬ (i : Int) < (m : Int) := by omega
        go_wp2_with fail
        go_meet
        case rel => exact ⟨by rw [hcA, decide_eq_false (fun h => q1 h.1)], rfl⟩
      case rest =>
       obtain ⟨rfl, rfl⟩ := hcut
       go_upto_if 185 with fail
       go_cut [10] from 138 (fun _ wc => Aside (SWK enc k w0 blk off (zgh a m b i d) wc))
       case first =>
        cases cA with
        | true =>
         have hA := of_decide_eq_true hcA.symm
         have hcall := rotate_walk L enc g cb blk off cap i m e d0 d w0 wr R (by omega) S1.out hA.1 hA.2 (by omega) (by omega)
         go_wp2_with (go_at_fn 108; refine hcall.mono ?_; rintro e1 w1 ⟨rfl, S3⟩)
         go_meet
         case rel => rw [zgh, ← HM.out, ← HEE.out, if_pos hA]; exact S3
        | false =>
         have hA := of_decide_eq_false hcA.symm
         go_wp2_with fail
         go_meet
         case rel => rw [zgh, ← HM.out, ← HEE.out, if_neg hA]; exact S1
       case rest =>
        have S2 := hcut
        clear hcut S1 hcA
        generalize wc = wb at S2 ⊢
        have hsr : (zgh a m b i d).size = d.size := zgr _ _ _ _ _
        obtain ⟨d1, hd1⟩ : ∃ x, x = zgh a m b i d := ⟨_, rfl⟩
        rw [← hd1] at S2 hsr
        go_upto_region 41 with fail
        obtain ⟨cB, hcB⟩ : ∃ x : Bool, x = decide (a < i ∧ i < mid) := ⟨_, rfl⟩
        go_cut [199] from 138 (fun s199 wx => s199 = .bool cB ∧ wb = wx)
        case first =>
         by_cases q1 : a < i
         ·have q1z : (a : Int) < (i : Int) := by omega
          by_cases q2 : i < mid
          ·have q2z : (i : Int) < (mid : Int) := by omega
           go_wp2_with fail
           go_meet
           case rel => exact ⟨by rw [hcB, decide_eq_true ⟨q1, q2⟩], rfl⟩
          ·have q2z : ¬ (i : Int) < (mid : Int) := by omega
           go_wp2_with fail
           go_meet
           case rel => exact ⟨by rw [hcB, decide_eq_false (fun h => q2 h.2)], rfl⟩
         ·have q1z : ¬ (a : Int) < (i : Int) := by omega
          go_wp2_with fail
          go_meet
          case rel => exact ⟨by rw [hcB, decide_eq_false (fun h => q1 h.1)], rfl⟩
        case rest =>
         obtain ⟨rfl, rfl⟩ := hcut
         go_upto_if 199 with fail
         go_cut [10] from 138 (fun _ wy => Aside (SWK enc k w0 blk off (if a < i ∧ i < mid then symMerge (ltOf cf) f d1 a i mid else d1) wy))
         case first =>
          cases cB with
          | true =>
           have hB := of_decide_eq_true hcB.symm
           have hcall := IH.out a i mid d1 wb (by omega) S2.out (by omega) hB.1 hB.2 (by omega)
           rw [hsr] at hcall
           go_wp2_with (go_at_fn 104; refine hcall.mono ?_; rintro e1 w1 ⟨rfl, S3⟩)
           go_meet
           case rel => rw [if_pos hB]; exact S3
          | false =>
           have hB := of_decide_eq_false hcB.symm
           go_wp2_with fail
           go_meet
           case rel => rw [if_neg hB]; exact S2
         case rest =>
          have S3 := hcut
          clear hcut S2 hcB
          generalize wc = we at S3 ⊢
          have hsr2 : (if a < i ∧ i < mid then symMerge (ltOf cf) f d1 a i mid else d1).size = d.size := by split <;> simp only [zdw, hsr]
          obtain ⟨d2, hd2⟩ : ∃ x, x = (if a < i ∧ i < mid then symMerge (ltOf cf) f d1 a i mid else d1) := ⟨_, rfl⟩
          rw [← hd2] at S3 hsr2
          have hfin : symMerge (ltOf cf) (f + 1) d a m b = (if mid < e ∧ e < b then symMerge (ltOf cf) f d2 mid e b else d2) := by rw [symMerge, if_neg c1, if_neg c2]; dsimp only; rw [hr, ← HM.out, ← HEE.out, ← hd1, ← hd2]
          go_upto_region 43 with fail
          obtain ⟨cC, hcC⟩ : ∃ x : Bool, x = decide (mid < e ∧ e < b) := ⟨_, rfl⟩
          go_cut [213] from 138 (fun s213 wx => s213 = .bool cC ∧ we = wx)
          case first =>
           by_cases q1 : mid < e
           ·have q1z : (mid : Int) < (e : Int) := by omega
            by_cases q2 : e < b
            ·have q2z : (e : Int) < (b : Int) := by omega
             go_wp2_with fail
             go_meet
             case rel => exact ⟨by rw [hcC, decide_eq_true ⟨q1, q2⟩], rfl⟩
            ·have q2z : ¬ (e : Int) < (b : Int) := by omega
             go_wp2_with fail
             go_meet
             case rel => exact ⟨by rw [hcC, decide_eq_false (fun h => q2 h.2)], rfl⟩
           ·have q1z : ¬ (mid : Int) < (e : Int) := by omega
            go_wp2_with fail
            go_meet
            case rel => exact ⟨by rw [hcC, decide_eq_false (fun h => q1 h.1)], rfl⟩
          case rest =>
           obtain ⟨rfl, rfl⟩ := hcut
           cases cC with
           | true =>
            have hC := of_decide_eq_true hcC.symm
            have hcall := IH.out mid e b d2 we (by omega) S3.out (by omega) hC.1 hC.2 (by omega)
            rw [hsr2] at hcall
            go_wp2_with (go_at_fn 104; refine hcall.mono ?_; rintro e1 w1 ⟨rfl, S4⟩)
            go_end0
            refine ⟨rfl, ?_⟩
            rw [hfin, if_pos hC]; exact S4
           | false =>
            have hC := of_decide_eq_false hcC.symm
            go_wp2_with fail
            go_end0
            refine ⟨rfl, ?_⟩
            rw [hfin, if_neg hC]; exact S3.out
end Go.Proofs.Stb

namespace Go.Proofs.Stb
open Go.Shelf Go.RowKit Go.Lib Go.Sort Go.Stb Go.Proofs
variable {P : Program} {α : Type} [Inhabited α]

set_option maxHeartbeats 4000000 in
set_option maxRecDepth 1000000 in
theorem stable_walk {k : Nat} (L : zhs P k) (enc : α → List Value) (cf : α → α → Int) (g : Nat) (cb : Array Value) (blk off cap : Nat) (d : Array α) (w0 w : World)
  (eg : ∀ args w, (callFunc g args).run P w = .ok (.enter g args) w) (hcmp : CmpB P g cb enc k cf blk off d.size w0) (h00 : w0.drawn = 0) (R : RowK enc k w0 blk off d) (hsz : d.size < 2305843009213693952) (t71 : P.underlying 51 = some (TypeDesc.int IntKind.u64))
  (S : SWK enc k w0 blk off d w) :
  Calls P 95 #[.slice (some ⟨blk, off, none⟩) d.size cap, .int .i64 d.size, .func (.func g) #[] cb] w fun e w' => e = .returned (.tuple #[]) ∧ SWK enc k w0 blk off (stable (ltOf cf) d) w' := by
 have mixed := L.mixed; have aE := L.aE; have zE := L.zE; have t0 := L.t0; have a0 := L.a0; have z0 := L.z0; have v0 := L.v0; have t3 := L.t3; have a3 := L.a3; have z3 := L.z3; have v3 := L.v3; have t4 := L.t4; have a4 := L.a4; have z4 := L.z4; have v4 := L.v4; have t22 := L.t22; have a22 := L.a22; have z22 := L.z22; have v22 := L.v22; have t61 := L.t61; have a61 := L.a61; have z61 := L.z61; have v61 := L.v61
 have FG := L.F52; have e60 := L.e60; have e61 := L.e61
 have HC : Aside _ := hcmp
 have S0 : Aside (SWK enc k w0 blk off d w) := S
 clear S hcmp
 obtain ⟨n, hn⟩ : ∃ n, n = d.size := ⟨_, rfl⟩
 have hnz : ((d.size : Nat) : Int) = (n : Int) := by omega
 rw [hnz]
 go_enter FG, Tryd.ntmps95
 go_wp2
 go_loopg [7, 8] n (fun kx s7 s8 wr => ∃ (a : Nat) (dk : Array α), s7 = .int .i64 a ∧ s8 = .int .i64 ((a + 20 : Nat) : Int) ∧ a ≤ n ∧ n - a ≤ kx ∧ dk.size = d.size ∧ Aside (SWK enc k w0 blk off dk wr) ∧ Hid (zid (ltOf cf) n a dk = zid (ltOf cf) n 0 d))
 case atStart => exact ⟨0, d, rfl, rfl, Nat.zero_le _, Nat.le_refl _, rfl, S0, rfl⟩
 case round =>
  clear S0
  obtain ⟨a, dk, rfl, rfl, han, hkx, hds, S1, HE⟩ := hrel
  by_cases hlt : ((a + 20 : Nat) : Int) ≤ (n : Int)
  ·have hcall := ins_walk L enc cf g cb blk off cap a (a + 20) d dk w0 wr eg HC.out h00 R (by omega) S1.out (by omega) (by omega) (by omega)
   rw [hds] at hcall
   clear S1
   go_wp2_with (go_at_fn 103; refine hcall.mono ?_; rintro e w1 ⟨rfl, S3⟩)
   go_roundg (n - (a + 20))
   case measure => omega
   case rel =>
    refine ⟨a + 20, Sort.insertionSort (ltOf cf) dk a (a + 20), by simp, by first | rfl | simp, by omega, Nat.le_refl _, by rw [zem]; exact hds, S3, (show Hid _ from ?_)⟩
    show _ = _
    rw [← HE.out]
    conv => rhs; rw [zid, if_pos (by omega)]
  ·have hcall := ins_walk L enc cf g cb blk off cap a n d dk w0 wr eg HC.out h00 R (by omega) S1.out (by omega) (by omega) (by omega)
   rw [hds] at hcall
   clear S1
   have hI : Hid (zid (ltOf cf) n 0 d = Sort.insertionSort (ltOf cf) dk a n) := by
    show _ = _
    rw [← HE.out, zid, if_neg (by omega)]
   clear HE
   have hds1 : (Sort.insertionSort (ltOf cf) dk a n).size = d.size := by rw [zem]; exact hds
   generalize Sort.insertionSort (ltOf cf) dk a n = d1 at hcall hI hds1
   clear hds
   go_wp2_with (go_at_fn 103; refine hcall.mono ?_; rintro e w1 ⟨rfl, S3⟩)
   go_loopg [6] n (fun kx s6 wr => ∃ (bs : Nat) (dk : Array α), s6 = .int .i64 bs ∧ 0 < bs ∧ bs ≤ 2 * n + 20 ∧ n - bs ≤ kx ∧ dk.size = d.size ∧ Aside (SWK enc k w0 blk off dk wr) ∧ Hid (zgg (ltOf cf) bs n dk = zgg (ltOf cf) 20 n d1))
   case atStart => exact ⟨20, d1, rfl, by omega, by omega, by omega, hds1, S3, rfl⟩
   case round =>
    clear S3 hcall
    obtain ⟨bs, dm, rfl, hbs0, hbsn, hkx2, hdm, S4, HB⟩ := hrel
    by_cases hbn : (bs : Int) < (n : Int)
    ·have hbn' : bs < n := by omega
     have hw2 : IntKind.i64.wrap (2 * (bs : Int)) = 2 * (bs : Int) := by rw [IntKind.wrap_i64]; omega
     have hw3 : IntKind.i64.wrap ((bs : Int) * 2) = (bs : Int) * 2 := by rw [IntKind.wrap_i64]; omega
     go_wp2_with fail
     go_loopg [7, 8] n (fun kx s7 s8 wr => ∃ (a : Nat) (dj : Array α), s7 = .int .i64 a ∧ s8 = .int .i64 ((a : Int) + 2 * (bs : Int)) ∧ a ≤ n ∧ n - a ≤ kx ∧ dj.size = d.size ∧ Aside (SWK enc k w0 blk off dj wr) ∧ Hid (zeu (ltOf cf) bs n a dj = zeu (ltOf cf) bs n 0 dm))
     case atStart => exact ⟨0, dm, rfl, by simp, Nat.zero_le _, Nat.le_refl _, hdm, S4, rfl⟩
     case round =>
      clear S4
      obtain ⟨q, dj, rfl, rfl, hqn, hkx3, hdj, S5, HM⟩ := hrel
      have hwm : IntKind.i64.wrap ((q : Int) + (bs : Int)) = (q : Int) + (bs : Int) := by rw [IntKind.wrap_i64]; omega
      by_cases hq : (q : Int) + 2 * (bs : Int) ≤ (n : Int)
      ·have hwb : IntKind.i64.wrap ((q : Int) + 2 * (bs : Int) + 2 * (bs : Int)) = (q : Int) + 2 * (bs : Int) + 2 * (bs : Int) := by rw [IntKind.wrap_i64]; omega
       have hcall := symMerge_walk L enc cf g cb blk off cap d w0 eg HC.out h00 R (by omega) t71 (2 * bs) q (q + bs) (q + 2 * bs) dj wr (by omega) S5.out (by omega) (by omega) (by omega) (by omega)
       rw [hdj, show ((q + bs : Nat) : Int) = (q : Int) + (bs : Int) by omega, show ((q + 2 * bs : Nat) : Int) = (q : Int) + 2 * (bs : Int) by omega] at hcall
       clear S5
       go_wp2_with (go_at_fn 104; refine hcall.mono ?_; rintro e w1 ⟨rfl, S6⟩)
       go_roundg (n - (q + 2 * bs))
       case measure => omega
       case rel =>
        refine ⟨q + 2 * bs, symMerge (ltOf cf) (2 * bs) dj q (q + bs) (q + 2 * bs), by congr 1 <;> omega, by congr 1 <;> omega, by omega, Nat.le_refl _, by rw [zdw]; exact hdj, S6, (show Hid _ from ?_)⟩
        show _ = _
        rw [← HM.out]
        conv => rhs; rw [zeu, if_neg (by omega), if_pos (by omega)]
      ·by_cases hm : (q : Int) + (bs : Int) < (n : Int)
       ·have hcall := symMerge_walk L enc cf g cb blk off cap d w0 eg HC.out h00 R (by omega) t71 (n - q) q (q + bs) n dj wr (by omega) S5.out (by omega) (by omega) (by omega) (by omega)
        rw [hdj, show ((q + bs : Nat) : Int) = (q : Int) + (bs : Int) by omega] at hcall
        clear S5
        go_wp2_with (go_at_fn 104; refine hcall.mono ?_; rintro e w1 ⟨rfl, S6⟩)
        go_roundg (n - 2 * bs)
        case measure => omega
        case rel =>
         refine ⟨2 * bs, symMerge (ltOf cf) (n - q) dj q (q + bs) n, by congr 1; omega, by omega, by omega, Nat.le_refl _, by rw [zdw]; exact hdj, S6, (show Hid _ from ?_)⟩
         show _ = _
         rw [← HB.out]
         conv => rhs; rw [zgg, if_neg (by omega), if_pos hbn', ← HM.out, zeu, if_neg (by omega), if_neg (by omega), if_pos (by omega)]
       ·go_wp2
        go_roundg (n - 2 * bs)
        case measure => omega
        case rel =>
         refine ⟨2 * bs, dj, by congr 1; omega, by omega, by omega, Nat.le_refl _, hdj, S5, (show Hid _ from ?_)⟩
         show _ = _
         rw [← HB.out]
         conv => rhs; rw [zgg, if_neg (by omega), if_pos hbn', ← HM.out, zeu, if_neg (by omega), if_neg (by omega), if_neg (by omega)]
    ·go_wp2
     go_end0
     refine ⟨rfl, ?_⟩
     have := HB.out
     rw [zgg, if_neg (by omega), if_neg (by omega)] at this
     rw [stable, ← hn, hI.out, ← this]
     exact S4.out

set_option maxHeartbeats 4000000 in
set_option maxRecDepth 1000000 in
theorem sortStable_walk {k : Nat} (L : zhs P k) (enc : α → List Value) (cf : α → α → Int) (g : Nat) (cb : Array Value) (blk off cap : Nat) (d : Array α) (w0 w : World)
  (eg : ∀ args w, (callFunc g args).run P w = .ok (.enter g args) w) (hcmp : CmpB P g cb enc k cf blk off d.size w0) (h00 : w0.drawn = 0) (R : RowK enc k w0 blk off d) (hsz : d.size < 2305843009213693952) (t71 : P.underlying 51 = some (TypeDesc.int IntKind.u64))
  (S : SWK enc k w0 blk off d w) :
  Calls P 79 #[.slice (some ⟨blk, off, none⟩) d.size cap, .func (.func g) #[] cb] w fun e w' => e = .returned (.tuple #[]) ∧ SWK enc k w0 blk off (stable (ltOf cf) d) w' := by
 have mixed := L.mixed; have aE := L.aE; have zE := L.zE; have t0 := L.t0; have a0 := L.a0; have z0 := L.z0; have v0 := L.v0; have t3 := L.t3; have a3 := L.a3; have z3 := L.z3; have v3 := L.v3; have t4 := L.t4; have a4 := L.a4; have z4 := L.z4; have v4 := L.v4; have t22 := L.t22; have a22 := L.a22; have z22 := L.z22; have v22 := L.v22; have t61 := L.t61; have a61 := L.a61; have z61 := L.z61; have v61 := L.v61
 have FG := L.F39; have e52 := L.e52
 have hcall := stable_walk L enc cf g cb blk off cap d w0 w eg hcmp h00 R hsz t71 S
 clear hcmp S
 go_enter FG, Tryd.ntmps79
 go_wp2_with (go_at_fn 95; refine hcall.mono ?_; rintro e w1 ⟨rfl, S6⟩)
 go_end0
 exact ⟨rfl, S6⟩
end Go.Proofs.Stb

namespace Go.Proofs.Stb
open Go.Shelf Go.RowKit Go.Lib Go.Sort Go.Stb Go.Proofs
variable {P : Program} {α : Type} [Inhabited α] {enc : α → List Value} {k : Nat} {w0 W : World} {blk off : Nat} {dk : Array α}

theorem swk_same (h : SWK enc k w0 blk off dk W) : W.os = w0.os ∧ W.tape = w0.tape ∧ W.output = w0.output := by
 obtain ⟨m, os, rfl⟩ := h
 exact ⟨rfl, rfl, rfl⟩

theorem swk_other (h : SWK enc k w0 blk off dk W) (i : Nat) (hi : i < w0.heap.size) (hne : i ≠ blk) : W.heap[i]? = w0.heap[i]? := by
 obtain ⟨m, os, rfl⟩ := h
 show ((w0.heap.modify blk (onCells (putCells id off (flatK enc k dk)))) ++ os)[i]? = _
 rw [Array.getElem?_append_left (by simpa using hi), Array.getElem?_modify, if_neg (Ne.symm hne)]

theorem swk_block (h : SWK enc k w0 blk off dk W) (hblk : blk < w0.heap.size) {c : Array Value} {e : TypeId} {fz : Nat × Nat} (hb : w0.heap[blk]? = some (.cells c e fz)) :
  W.heap[blk]? = some (.cells (putCells id off (flatK enc k dk) c) e fz) := by
 obtain ⟨m, os, rfl⟩ := h
 show ((w0.heap.modify blk (onCells (putCells id off (flatK enc k dk)))) ++ os)[blk]? = _
 rw [Array.getElem?_append_left (by simpa using hblk), Array.getElem?_modify, if_pos rfl, hb]
 rfl
theorem ins_nil {k : Nat} (L : zhs P k) (g : Nat) (cb : Array Value) (w : World) :
  Calls P 103 #[.slice none 0 0, .int .i64 0, .int .i64 0, .func (.func g) #[] cb] w fun e w' => e = .returned (.tuple #[]) ∧ w' = w := by
 have mixed := L.mixed; have aE := L.aE; have zE := L.zE; have t0 := L.t0; have a0 := L.a0; have z0 := L.z0; have v0 := L.v0; have t3 := L.t3; have a3 := L.a3; have z3 := L.z3; have v3 := L.v3; have t4 := L.t4; have a4 := L.a4; have z4 := L.z4; have v4 := L.v4; have t22 := L.t22; have a22 := L.a22; have z22 := L.z22; have v22 := L.v22; have t61 := L.t61; have a61 := L.a61; have z61 := L.z61; have v61 := L.v61
 have FG := L.F60
 go_enter FG, Tryd.ntmps103
 go_wp2
 go_loopg [8] 0 (fun kx s8 wr => s8 = .int .i64 1 ∧ wr = w)
 case atStart => exact ⟨rfl, rfl⟩
 case round =>
  obtain ⟨rfl, rfl⟩ := hrel
  go_wp2
  go_end0
  exact ⟨rfl, rfl⟩

theorem stable_nil {k : Nat} (L : zhs P k) (g : Nat) (cb : Array Value) (w : World) :
  Calls P 95 #[.slice none 0 0, .int .i64 0, .func (.func g) #[] cb] w fun e w' => e = .returned (.tuple #[]) ∧ w' = w := by
 have mixed := L.mixed; have aE := L.aE; have zE := L.zE; have t0 := L.t0; have a0 := L.a0; have z0 := L.z0; have v0 := L.v0; have t3 := L.t3; have a3 := L.a3; have z3 := L.z3; have v3 := L.v3; have t4 := L.t4; have a4 := L.a4; have z4 := L.z4; have v4 := L.v4; have t22 := L.t22; have a22 := L.a22; have z22 := L.z22; have v22 := L.v22; have t61 := L.t61; have a61 := L.a61; have z61 := L.z61; have v61 := L.v61
 have FG := L.F52; have e60 := L.e60
 have hc := ins_nil L g cb w
 go_enter FG, Tryd.ntmps95
 go_wp2
 go_loopg [7, 8] 0 (fun kx s7 s8 wr => s7 = .int .i64 0 ∧ s8 = .int .i64 20 ∧ wr = w)
 case atStart => exact ⟨rfl, rfl, rfl⟩
 case round =>
  obtain ⟨rfl, rfl, rfl⟩ := hrel
  go_wp2_with (go_at_fn 103; refine hc.mono ?_; rintro e w1 ⟨rfl, rfl⟩)
  go_loopg [6] 0 (fun kx s6 wr2 => s6 = .int .i64 20 ∧ wr2 = w1)
  case atStart => exact ⟨rfl, rfl⟩
  case round =>
   obtain ⟨rfl, rfl⟩ := hrel
   go_wp2
   go_end0
   exact ⟨rfl, rfl⟩

theorem sortStable_nil {k : Nat} (L : zhs P k) (g : Nat) (cb : Array Value) (w : World) :
  Calls P 79 #[.slice none 0 0, .func (.func g) #[] cb] w fun e w' => e = .returned (.tuple #[]) ∧ w' = w := by
 have mixed := L.mixed; have aE := L.aE; have zE := L.zE; have t0 := L.t0; have a0 := L.a0; have z0 := L.z0; have v0 := L.v0; have t3 := L.t3; have a3 := L.a3; have z3 := L.z3; have v3 := L.v3; have t4 := L.t4; have a4 := L.a4; have z4 := L.z4; have v4 := L.v4; have t22 := L.t22; have a22 := L.a22; have z22 := L.z22; have v22 := L.v22; have t61 := L.t61; have a61 := L.a61; have z61 := L.z61; have v61 := L.v61
 have FG := L.F39; have e52 := L.e52
 have hc := stable_nil L g cb w
 go_enter FG, Tryd.ntmps79
 go_wp2_with (go_at_fn 95; refine hc.mono ?_; rintro e w1 ⟨rfl, rfl⟩)
 go_end0
 exact ⟨rfl, rfl⟩

theorem stLays : zhs Tryd.prog 2 := {
 mixed := by kernel_rfl
 F39 := Tryd.func79
 F52 := Tryd.func95
 F60 := Tryd.func103
 F61 := Tryd.func104
 F64 := Tryd.func108
 F65 := Tryd.func109
 e52 := fun args w => enters_of Tryd.func95 (by decide) rfl args w
 e60 := fun args w => enters_of Tryd.func103 (by decide) rfl args w
 e61 := fun args w => enters_of Tryd.func104 (by decide) rfl args w
 e64 := fun args w => enters_of Tryd.func108 (by decide) rfl args w
 e65 := fun args w => enters_of Tryd.func109 (by decide) rfl args w
 aE := Tryd.isAgg81
 zE := Tryd.sizeOf81
 t0 := Tryd.underlying0
 a0 := Tryd.isAgg0
 z0 := Tryd.sizeOf0
 v0 := Tryd.zeroValue0
 t3 := Tryd.underlying3
 a3 := Tryd.isAgg3
 z3 := Tryd.sizeOf3
 v3 := Tryd.zeroValue3
 t4 := Tryd.underlying4
 a4 := Tryd.isAgg4
 z4 := Tryd.sizeOf4
 v4 := Tryd.zeroValue4
 t22 := Tryd.underlying54
 a22 := Tryd.isAgg54
 z22 := Tryd.sizeOf54
 v22 := Tryd.zeroValue54
 t61 := Tryd.underlying109
 a61 := Tryd.isAgg109
 z61 := Tryd.sizeOf109
 v61 := Tryd.zeroValue109 }
end Go.Proofs.Stb

namespace Go.Proofs.YtchpbnabbjdfgaaDoor.P
open Go.RowKit Go.Proofs.YtchpbnabbjdfgaaDoorW.PrintWords Go.Proofs.YtchpbnabbjdfgaaDoorW.PrintLast Go.Proofs.YtchpbnabbjdfgaaDoorW.PrintMore
theorem cl_made {α : Type} (d : Kd α) (e : Nat) (w : World) (ok : Nat → Prop) (hok : ok w.heap.size) : Kd.N d e (w.alloc (.cells #[] e)) w.heap.size ok (.slice (some ⟨w.heap.size, 0, none⟩) 0 0) [] :=
 ⟨fun k hk => by simp [Value.ownBlock] at hk; subst hk; exact hok, [], rfl, ⟨fun k hk => hk.symm, [], World.ownsRow_made w #[] 0 (Nat.le_refl _) (Nat.zero_le _) (by simp), Reps.none _ _⟩, fun j x c hx => by simp at hx⟩
theorem cl_madeR {α : Type} (d : Kd α) (e : Nat) (w : World) : d.R e (w.alloc (.cells #[] e)) w.heap.size (fun _ => True) (.slice (some ⟨w.heap.size, 0, none⟩) 0 0) [] :=
 ⟨fun _ _ => trivial, [], World.ownsRow_made w #[] 0 (Nat.le_refl _) (Nat.zero_le _) (by simp), Reps.none _ _⟩
section
open Go.Shelf Go.Lib Go.Sort Go.Stb Go.Proofs.Stb
section
variable {α : Type} [Inhabited α]
structure SvE (d : Kd α) (w : World) (ok : Nat → Prop) (l : List α) where
 x : α
 c : List Value
 mem : x ∈ default :: l
 fk : Kd.FK d w ok x c
theorem sv_listG {d : Kd α} {w : World} {ok : Nat → Prop} (l0 : List α) : ∀ (l : List α) (rows : List (List Value)), l.length = rows.length → (∀ x ∈ l, x ∈ l0) → (∀ (j : Nat) (x : α) (c : List Value), l[j]? = some x → rows[j]? = some c → Kd.FK d w ok x c) →
  ∃ s : List (SvE d w ok l0), s.map (fun q => q.x) = l ∧ s.map (fun q => q.c) = rows
 | [], [], _, _, _ => ⟨[], rfl, rfl⟩
 | x :: l, c :: rows, hl, hm, hf => by
  obtain ⟨s, h1, h2⟩ := sv_listG l0 l rows (by simpa using hl) (fun y hy => hm y (List.mem_cons_of_mem _ hy)) (fun j y cc hy hc => hf (j + 1) y cc hy hc)
  exact ⟨⟨x, c, List.mem_cons_of_mem _ (hm x List.mem_cons_self), hf 0 x c rfl rfl⟩ :: s, by rw [List.map_cons, h1], by rw [List.map_cons, h2]⟩
 | [], _ :: _, hl, _, _ => by simp at hl
 | _ :: _, [], hl, _, _ => by simp at hl

theorem flatK_drop {β : Type} [Inhabited β] (enc : β → List Value) (k : Nat) (hk : ∀ x, (enc x).length = k) (d : Array β) (j : Nat) (hj : j < d.size) : (((flatK enc k d).toList).drop (j * k)).take k = enc d[j]! := by
 apply List.ext_getElem
 ·rw [List.length_take, List.length_drop, Array.length_toList, size_flatK, hk]
  have := Nat.mul_le_mul_right k (show j + 1 ≤ d.size from hj)
  rw [Nat.add_mul, Nat.one_mul] at this
  omega
 ·intro i h1 h2
  rw [List.getElem_take, List.getElem_drop, Array.getElem_toList]
  have hi : i < k := by rw [hk] at h2; exact h2
  have hlt : j * k + i < d.size * k := by
   have := Nat.mul_le_mul_right k (show j + 1 ≤ d.size from hj)
   rw [Nat.add_mul, Nat.one_mul] at this
   omega
  have e := get_flatK enc k d (j * k + i) hlt
  have e1 : (j * k + i) / k = j := (blk_iff k j _ (by omega)).1 ⟨by omega, by omega⟩
  have e2 : (j * k + i) % k = i := by rw [Nat.mod_eq_sub_div_mul, e1]; omega
  rw [e1, e2, getElem!_pos _ _ (by rw [size_flatK]; exact hlt), getElem!_pos (enc d[j]!) i h2] at e
  exact e

variable {P : Program}
theorem sort_N {d : Kd α} {e : Nat} (L : zhs P d.sz) (g : Nat) (cf : α → α → Int) (zc : List Value) (hz : ∀ W ok, Kd.FK d W ok default zc) (l0 : List α)
  (eg : ∀ args w, (callFunc g args).run P w = .ok (.enter g args) w) (t71 : P.underlying 51 = some (TypeDesc.int IntKind.u64))
  (hcmp : ∀ x ∈ default :: l0, ∀ y ∈ default :: l0, ∀ (W : World) (cx cy : List Value), d.K W x cx → d.K W y cy → Calls P g #[.agg cx.toArray, .agg cy.toArray] W fun e w' => e = .returned (.int .i64 (cf x y)) ∧ Below W.heap.size W w')
  (hlen : l0.length ≤ 1000000) (P_ : Nat → Prop) (u : Value) (wo w : World) {ok : Nat → Prop} (hB : Below wo.heap.size wo w) (ho : Kd.N d e w wo.heap.size ok u l0) (hP : ∀ k, some k = u.ownBlock → P_ k) :
  Calls P 79 #[u, .func (.func g) #[] #[]] w fun e' w' => e' = .returned (.tuple #[]) ∧ Kd.N d e w' wo.heap.size ok u (stable (ltOf cf) l0.toArray).toList ∧ Below wo.heap.size wo w' ∧ Kept w w' P_ := by
 obtain ⟨h0, rows, hrl, hR, hf⟩ := ho
 obtain ⟨hown0, inner, ⟨hil, hcase⟩, hreps⟩ := hR
 replace hreps : Reps (fun x cs => cs = x ∧ cs.length = d.sz ∧ ∀ u ∈ cs, u.oneCell' = true) d.sz rows inner := hreps
 simp only [show (Kd.raw d.sz).sz = d.sz from rfl] at hil hcase
 rcases hcase with ⟨hu, hn⟩ | ⟨b, cap, cur, hu, hbb, hbh, hncap, hcm, hcur, htake⟩
 ·subst hu
  have e0 : l0 = [] := by cases l0 with | nil => rfl | cons => simp at hrl; omega
  subst e0
  refine (sortStable_nil L g #[] w).mono ?_
  rintro e' w' ⟨rfl, rfl⟩
  refine ⟨rfl, ?_, hB, Kept.refl _ _⟩
  have : (stable (ltOf cf) ([] : List α).toArray).toList = [] := by
   apply List.eq_nil_of_length_eq_zero
   rw [Array.length_toList, size_stable]; rfl
  rw [this]
  exact Kd.zij _ _ _ _ _
 ·subst hu
  have hob : (Value.slice (some ⟨b, 0, none⟩) rows.length cap).ownBlock = some b := rfl
  obtain ⟨okp, hokp⟩ : ∃ okp : Nat → Prop, okp = fun k => ok k ∧ some k ≠ (Value.slice (some ⟨b, 0, none⟩) rows.length cap).ownBlock := ⟨_, rfl⟩
  rw [← hokp] at hf
  letI : Inhabited (SvE d w okp l0) := ⟨⟨default, zc, List.mem_cons_self, hz _ _⟩⟩
  obtain ⟨s, hs1, hs2⟩ := sv_listG (d := d) (w := w) (ok := okp) l0 l0 rows hrl.symm (fun _ h => h) hf
  have hsl : s.length = rows.length := by rw [← hs2, List.length_map]
  have henc : ∀ q : SvE d w okp l0, q.c.length = d.sz := fun q => d.K_len (Kd.zff q.fk)
  have hone : ∀ q : SvE d w okp l0, ∀ v ∈ q.c, v.oneCell' = true := fun q => d.K_one (Kd.zff q.fk)
  let D := s.toArray
  let wz : World := { w with drawn := 0 }
  have hD : D.size = rows.length := by simp [D, hsl]
  have hDj : ∀ j, (hj : j < rows.length) → (D[j]!).c = rows[j] := by
   intro j hj
   have hjs : j < s.length := by omega
   have e1 : D[j]! = s[j] := by
    rw [getElem!_pos D j (by omega)]; simp [D]
   rw [e1]
   have := congrArg (fun l => l[j]?) hs2
   simp only [List.getElem?_map, List.getElem?_eq_getElem hjs, List.getElem?_eq_getElem hj, Option.map_some, Option.some.injEq] at this
   exact this
  have hinner : inner.length = rows.length * d.sz := hil
  have hH : HoldsK (fun q => q.c) d.sz wz b 0 D := by
   intro t ht
   rw [size_flatK, hD] at ht
   have hk0 : 0 < d.sz := by
    rcases Nat.eq_zero_or_pos d.sz with h | h
    ·rw [h] at ht; simp at ht
    ·exact h
   rw [get_flatK _ _ _ _ (by rw [hD]; exact ht)]
   have hj : t / d.sz < rows.length := by rw [Nat.div_lt_iff_lt_mul hk0]; exact ht
   rw [hDj _ hj]
   have hm := (hreps.2 (t / d.sz) _ (List.getElem?_eq_getElem hj))
   have hrow : rows[t / d.sz] = (inner.drop (t / d.sz * d.sz)).take d.sz := hm.1.symm
   have hmod : t % d.sz < d.sz := Nat.mod_lt _ hk0
   have hdm : t / d.sz * d.sz + t % d.sz = t := Nat.div_add_mod' t d.sz
   have hti : t < inner.length := by rw [hinner]; exact ht
   have hcell : (rows[t / d.sz])[t % d.sz]! = inner[t] := by
    rw [hrow, getElem!_pos _ _ (by rw [List.length_take, List.length_drop]; have := Nat.mul_le_mul_right d.sz (show t / d.sz + 1 ≤ rows.length from hj); rw [Nat.add_mul, Nat.one_mul] at this; omega)]
    rw [List.getElem_take, List.getElem_drop]
    congr 1
   rw [hcell]
   have hcurt : t < cur.size := by
    rw [hcur]
    exact Nat.lt_of_lt_of_le ht (Nat.mul_le_mul_right _ hncap)
   have hct : cur[t] = inner[t] := by
    have : inner[t]? = (cur.toList.take (rows.length * d.sz))[t]? := by rw [htake]
    rw [List.getElem?_take_of_lt ht, List.getElem?_eq_getElem hti, Array.getElem?_toList, Array.getElem?_eq_getElem hcurt] at this
    exact (Option.some.inj this).symm
   constructor
   ·show World.cell? wz ⟨b, 0 + t, none⟩ = _
    have := zat hbh t
    rw [Nat.zero_add]
    refine Eq.trans ?_ (this.trans ?_)
    ·rfl
    ·rw [Array.getElem?_eq_getElem hcurt, hct]; rfl
   ·rw [Nat.zero_add]
    exact (zag hbh t)
  have hblk : b < wz.heap.size := zca hbh
  have R : RowK (fun q : SvE d w okp l0 => q.c) d.sz wz b 0 D := ⟨henc, hone, hH, hblk⟩
  have hS : SWK (fun q : SvE d w okp l0 => q.c) d.sz wz b 0 D w := by
   have h := (SWK.start hH).drewN w.drawn
   have e : wz.drewN w.drawn = w := by cases w; simp [wz, World.drewN]
   rwa [e] at h
  have hokb : ∀ k, okp k → k ≠ b := by
   subst hokp
   intro k hk e
   exact hk.2 (by rw [e]; rfl)
  have hstep : ∀ (W : World) (dk : Array (SvE d w okp l0)), SWK (fun q : SvE d w okp l0 => q.c) d.sz wz b 0 dk W → ∀ q : SvE d w okp l0, d.K W q.x q.c :=
   fun W dk hW q => q.fk W (fun k hk hlt => swk_other hW k hlt (hokb k hk))
  have hC : CmpB P g #[] (fun q : SvE d w okp l0 => q.c) d.sz (fun p q => cf p.x q.x) b 0 D.size wz :=
   fun W dk hW _ x y => hcmp x.x x.mem y.x y.mem W x.c y.c (hstep W dk hW x) (hstep W dk hW y)
  have hcall := sortStable_walk L (fun q : SvE d w okp l0 => q.c) (fun p q => cf p.x q.x) g #[] b 0 cap D wz w eg hC rfl R (by omega) t71 hS
  rw [hD] at hcall
  refine hcall.mono ?_
  rintro e' w' ⟨rfl, hS'⟩
  obtain ⟨ds, hds⟩ : ∃ ds, ds = stable (ltOf (fun p q : SvE d w okp l0 => cf p.x q.x)) D := ⟨_, rfl⟩
  rw [← hds] at hS'
  have hdsz : ds.size = rows.length := by rw [hds, size_stable, hD]
  have hmap : stable (ltOf cf) l0.toArray = ds.map (fun q => q.x) := by
   have h := stable_map (fun q : SvE d w okp l0 => q.x) rfl (ltOf cf) D
   have e : D.map (fun q => q.x) = l0.toArray := by simp [D, hs1]
   rw [e] at h
   rw [h, hds]
   rfl
  have hsame := swk_same hS'
  have hsz : w.heap.size ≤ w'.heap.size := hS'.le
  have hoth : ∀ i, i < w.heap.size → i ≠ b → w'.heap[i]? = w.heap[i]? := fun i hi hne => swk_other hS' i hi hne
  have hnb := swk_block hS' hblk (c := cur) (e := e) (fz := (0, 0)) hbh
  have hFs : (flatK (fun q : SvE d w okp l0 => q.c) d.sz ds).size = rows.length * d.sz := by rw [size_flatK, hdsz]
  have hle : rows.length * d.sz ≤ cur.size := by rw [hcur]; exact Nat.mul_le_mul_right _ hncap
  have hrl' : (ds.toList.map (fun q => q.c)).length = rows.length := by simp [hdsz]
  refine ⟨rfl, ⟨h0, ds.toList.map (fun q => q.c), ?_, ⟨fun k hk => hk.symm, (flatK (fun q : SvE d w okp l0 => q.c) d.sz ds).toList, ⟨?_, .inr ⟨b, cap, _, ?_, hbb, hnb, ?_, hcm, ?_, ?_⟩⟩, ⟨?_, ?_⟩⟩, ?_⟩, ⟨?_, ?_, ?_, ?_, ?_⟩, hsz, ?_⟩
  ·simp [hmap]
  ·rw [Array.length_toList, hFs, hrl']; rfl
  ·rw [hrl']
  ·rw [hrl']; exact hncap
  ·unfold putCells; rw [Array.size_mapIdx, hcur]; rfl
  ·rw [hrl']
   apply List.ext_getElem
   ·have hp : (putCells id 0 (flatK (fun q : SvE d w okp l0 => q.c) d.sz ds) cur).toList.length = cur.size := by
     rw [Array.length_toList]
     unfold putCells
     exact Array.size_mapIdx
    have hq : (flatK (fun q : SvE d w okp l0 => q.c) d.sz ds).toList.length = rows.length * d.sz := by rw [Array.length_toList, hFs]
    rw [List.length_take, hp, hq]
    exact Nat.min_eq_left hle
   ·intro i h1 h2
    rw [Array.length_toList] at h2
    rw [List.getElem_take, Array.getElem_toList, Array.getElem_toList]
    unfold putCells
    rw [Array.getElem_mapIdx, if_pos ⟨Nat.zero_le _, by rw [Nat.zero_add]; exact h2⟩, Nat.sub_zero]
    exact (getElem!_pos (flatK (fun q : SvE d w okp l0 => q.c) d.sz ds) i h2)
  ·rw [Array.length_toList, hFs, hrl']; rfl
  ·intro j p hj
   have hjl : j < ds.size := by
    have := (List.getElem?_eq_some_iff.1 hj).1
    simpa using this
   have e1 := flatK_drop (fun q : SvE d w okp l0 => q.c) d.sz henc ds j hjl
   show _ = _ ∧ _
   have e2 : p = (ds[j]!).c := by
    rw [List.getElem?_map, Array.getElem?_toList, Array.getElem?_eq_getElem hjl] at hj
    simp only [Option.map_some, Option.some.injEq] at hj
    rw [getElem!_pos ds j hjl]
    exact hj.symm
   refine ⟨e1.trans e2.symm, ?_⟩
   have e3 : List.take (Kd.raw d.sz).sz (List.drop (j * (Kd.raw d.sz).sz) (flatK (fun q : SvE d w okp l0 => q.c) d.sz ds).toList) = (ds[j]!).c := e1
   rw [e3]
   exact ⟨henc _, hone _⟩
  ·intro j x c hx hc
   rw [hmap] at hx
   rw [Array.toList_map, List.getElem?_map] at hx
   rw [List.getElem?_map] at hc
   cases hq : ds.toList[j]? with
   | none => rw [hq] at hx; cases hx
   | some q =>
    rw [hq] at hx hc
    simp only [Option.map_some, Option.some.injEq] at hx hc
    subst hx hc
    rw [← hokp]
    exact Kd.zgb q.fk (fun k hk hlt => hoth k hlt (hokb k hk))
  ·rw [hsame.1]; exact hB.os
  ·rw [hsame.2.1]; exact hB.tape
  ·rw [hsame.2.2]; exact hB.output
  ·exact Nat.le_trans hB.size hsz
  ·intro k hk
   rw [hoth k (Nat.lt_of_lt_of_le hk hB.size) (by omega)]
   exact hB.block k hk
  ·intro i hi hnP
   refine hoth i hi (fun e => hnP (hP i ?_))
   rw [e]
   exact hob.symm
end
end
end Go.Proofs.YtchpbnabbjdfgaaDoor.P
