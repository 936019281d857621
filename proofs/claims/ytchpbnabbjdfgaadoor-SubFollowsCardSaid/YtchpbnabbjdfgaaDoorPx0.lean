-- HALVED
import Derived.Test.YtchpbnabbjdfgaaDoorProg
import Derived.Below
import Derived.Deep.Draws
import Derived.Deep.AppendLies
import Derived.Maps.AppendAt
import Derived.OwnWalk
import Derived.Laws.BytesArg
import Derived.Laws.MakeOwn
import Derived.Laws.OwnMore
import Derived.Deep.OwnRows
import Derived.Tactics
import Derived.Lib.ConvBytes
import Derived.Laws.Slices
import Derived.WalkKit
import Derived.KernelRfl
import Derived.RowKit3
import Derived.Deep.LoopGhost
import Derived.Deep.QuietTactic
import Derived.BigQuiet
import Derived.WideLaws
import Derived.Deep.DeepCutAuto
import Derived.Deep.CutBlock
import Derived.Deep.RegionHeld3
import Derived.Laws.Rows
import Derived.Lib.AppendStr
import Derived.ArgAppend
import Derived.Laws.IdiomCopy
import Derived.OrdersHeld
import Derived.Laws.BitsLemmas
import Derived.RowKit
import Derived.Shelf.Unicode.ValidAny
import Derived.Lib.ValidU
import Derived.Lib.Bytealg
import Derived.Laws.Externs
import Derived.Test.YtchpbnabbjdfgaaDoorShelf
import Derived.Test.YtchpbnabbjdfgaaDoorStE
import Derived.Test.YtchpbnabbjdfgaaDoorMem
import Derived.Test.YtchpbnabbjdfgaaDoorWAll
namespace Go.Proofs.YtchpbnabbjdfgaaDoor.P
open Go.RowKit Go.Proofs.YtchpbnabbjdfgaaDoorW.PrintWords Go.Proofs.YtchpbnabbjdfgaaDoorW.PrintLast Go.Proofs.YtchpbnabbjdfgaaDoorW.PrintMore
attribute [local go_sem] zeb min2_int zfa zfb zdl zdm zec zed   -- for this text's walks alone
set_option linter.unusedVariables false
set_option linter.unusedSimpArgs false

def errW : Option Int → Value
 | none => .nilIface
 | some c => .iface 0 (.int .i64 c)
theorem zco : errW none = .nilIface := rfl
theorem zcp (c : Int) : errW (some c) = .iface 0 (.int .i64 c) := rfl
section
variable {P : Program} {ops : Array Oper} {Q : Exit → Act → World → Prop}
def Ext (P : Program) (f : FuncId) (args : Array Value) (w : World) (R : Ending → World → Prop) : Prop :=
 ∃ v, (callFunc f args).run P w = .ok (.value v) w ∧ R (.returned v) w
theorem Ext.mono {f : FuncId} {args : Array Value} {w : World} {R R' : Ending → World → Prop} (h : Ext P f args w R) (hr : ∀ e w', R e w' → R' e w') : Ext P f args w R' := by
 obtain ⟨v, h1, h2⟩ := h
 exact ⟨v, h1, hr _ _ h2⟩
theorem zcg {rest : List Oper} {o : Oper} {a : Act} {W : World} {t : Tmp} {as_ : Array Operand} {ts : Array TypeId} (_ho : o.op = .call { callee := .value (.tmp t), args := as_, argTypes := ts }) (h : wpList P ops Q (o :: rest) a W) : wpList P ops Q (o :: rest) a W := h
theorem zez {rest : List Oper} {oi : Oper} {a : Act} {w : World} (N : Option Tmp) (hd : oi.dst = N) (hg : oi.guard = none) {f : FuncId} {fn : Func} {c : Operand} {as_ : Array Operand} {ts : Array TypeId} (hf : P.funcs[f]? = some fn) (hname : (fn.name == "runtime.NumGoroutine") = false) (hb : fn.body.isSome = true) (args : Array Value)
  (hop : oi.op = .call { callee := .value c, args := as_, argTypes := ts }) (hc : a.eval c = .func (.func f) #[] #[]) (hargs : as_.map a.eval = args)
  (h : Calls P f args w fun e w' => ∃ v, e = .returned v ∧ wpList P ops Q rest (a.put N v) w') : wpList P ops Q (oi :: rest) a w := by
 refine wpList_plain hg fun K hK => ?_
 have he := enters_ hf hname hb args w
 have hrun : (execOp a.eval oi).run P w = .ok (.enter f args) w := by
  unfold execOp
  simp [hop, resolve, hc, Deferred.ofValue, invoke, hargs, he]
 unfold Oper.wp
 rw [hrun, Oper.upon_enter]
 refine h.mono fun e w'' hh => ?_
 obtain ⟨v, rfl, hk⟩ := hh
 subst hd
 exact hK _ _ hk
end
theorem zfo : ∀ (x y : List UInt8), (!(Op.bytesLess x y || x == y)) = Op.bytesLess y x
 | [], [] => rfl
 | [], b :: y => rfl
 | a :: x, [] => rfl
 | a :: x, b :: y => by
  have ih := zfo x y
  simp only [Op.bytesLess]
  by_cases h : a = b
  ·subst h
   have h1 : decide (a < a) = false := by simp
   simp only [h1, Bool.false_or, beq_self_eq_true, Bool.true_and]
   rw [← ih]; simp
  ·have h2 : (a == b) = false := by simpa using h
   have h3 : (b == a) = false := by simpa using (Ne.symm h)
   have h4 : (a :: x == b :: y) = false := by simp [h]
   rw [h2, h3, h4]
   simp only [Bool.false_and, Bool.or_false]
   have : a < b ∨ b < a := by
    rcases UInt8.lt_or_lt_of_ne h with h | h
    ·exact .inl h
    ·exact .inr h
   by_cases hl : a < b
   ·have : ¬ b < a := UInt8.lt_asymm hl
    simp [hl, this]
   ·have : b < a := by rcases this with h | h; exact absurd h hl; exact h
    simp [hl, this]
@[go_sem] theorem xbinOp_string_gtr (t : TypeId) (a b : ByteArray) : binOp .gtr t (.string a) (.string b) = pure (.bool (Op.bytesLess b.toList a.toList)) := by rw [← zfo]; simp [binOp, Op.stringOp]
@[go_sem] theorem xbinOp_string_geq (t : TypeId) (a b : ByteArray) : binOp .geq t (.string a) (.string b) = pure (.bool (!(Op.bytesLess a.toList b.toList))) := by simp [binOp, Op.stringOp]
abbrev bN_ := @blk_drewN
abbrev bD_ := @blk_drew
abbrev bA_ := @blk_alloc
theorem qa_ {p : Prop} (h : p := by simp only [Act.put, List.setIfInBounds_toArray, List.set_cons_zero, List.set_cons_succ, zhm, i32_w]; rfl) : p := h
def Glob (w : World) : Prop := Go.Lib.Utf8Tabs (Tryd.laysValid_ren.g 3) (Tryd.laysValid_ren.g 4) w
theorem Glob.below {w w' : World} (h : Glob w) (hb : Below w.heap.size w w') : Glob w' := Utf8Tabs_below h hb
theorem Glob.drewN {w : World} (h : Glob w) (n : Nat) : Glob (w.drewN n) := h
theorem Glob.drew {w : World} (h : Glob w) : Glob w.drew := h
theorem Glob.alloc {w : World} (h : Glob w) (o : Obj) : Glob (w.alloc o) := h.below (zas (Below.refl _ _) o)
theorem Glob.u8 {w : World} (h : Glob w) : Go.Lib.Utf8Tabs (Tryd.laysValid_ren.g 3) (Tryd.laysValid_ren.g 4) w := h
theorem zfe (k k' : IntKind) (x y : Int) : Builtin.min2 (.int k x) (.int k' y) = pure (.int k (mn x y)) := by simp only [Builtin.min2]; rfl

theorem info41 : (Tryd.prog.info? 41).map (fun i => (i.zero, i.size, i.bytes)) = some (some (.agg #[(.int .i64 0), (.int .i64 0), (.int .i64 0), (.int .i64 0), (.int .i64 0), (.slice none 0 0)]), 6, 64) := by kernel_rfl
theorem info56 : (Tryd.prog.info? 56).map (fun i => (i.zero, i.size, i.bytes)) = some (some (.agg #[(.string ⟨#[]⟩), (.slice none 0 0)]), 2, 40) := by kernel_rfl
theorem info81 : (Tryd.prog.info? 81).map (fun i => (i.zero, i.size, i.bytes)) = some (some (.agg #[(.slice none 0 0), (.int .i64 0)]), 2, 32) := by kernel_rfl
structure S105 where
 f0 : Int
 f1 : Int
 f2 : ByteArray
def z105 : S105 := ⟨(0 : Int), (0 : Int), (⟨#[]⟩ : ByteArray)⟩
def k105 : Kd S105 := Kd.iso (Kd.pair (Kd.int .i64) (Kd.pair (Kd.int .i64) Kd.string)) (fun x : S105 => (x.f0, x.f1, x.f2))
theorem k105_heap : Kd.Heap k105 := Kd.heap_iso _ (Kd.heap_pair (Kd.heap_int .i64) (Kd.heap_pair (Kd.heap_int .i64) Kd.heap_string))
theorem k105_open {w : World} {x : S105} {cs : List Value} (h : k105.K w x cs) : cs = [.int .i64 x.f0, .int .i64 x.f1, .string x.f2] := by
 obtain ⟨_, _, rfl, rfl, ⟨_, _, rfl, rfl, rfl⟩⟩ := h
 exact rfl
theorem k105_mkM (w : World) (base : Nat) (ok : Nat → Prop) (x : S105)  : k105.M w base ok x [.int .i64 x.f0, .int .i64 x.f1, .string x.f2] := ⟨[.int .i64 x.f0], [.int .i64 x.f1, .string x.f2], rfl, rfl, ⟨[.int .i64 x.f1], [.string x.f2], rfl, rfl, rfl⟩⟩
def zbj (xs : List S105) (i : Int) : S105 := xs.getD i.toNat z105
theorem at_T105 {w : World} {A : Option Addr} {n : Nat} {xs : List S105} (h : Kd.C k105 w A n xs) (i : Int) (h0 : 0 ≤ i) (h1 : i < n) : ∃ ad , A = some ad ∧ w.cell? (ad.add (i.toNat * 3)) = some (.int .i64 (zbj xs i).f0) ∧ w.cell? ⟨(ad.add (i.toNat * 3)).block, (ad.add (i.toNat * 3)).off + 1, none⟩ = some (.int .i64 (zbj xs i).f1) ∧ w.cell? ⟨(ad.add (i.toNat * 3)).block, (ad.add (i.toNat * 3)).off + 2, none⟩ = some (.string (zbj xs i).f2) := by
 obtain ⟨ad, c, e, _, hK, hc0⟩ := Kd.C_get h z105 i h0 h1
 have hc : ∀ j u, c[j]? = some u → w.cell? (ad.add (i.toNat * 3 + j)) = some u := hc0
 obtain rfl := k105_open hK
 exact ⟨ad, e, hc 0 _ rfl, by rw [← zcl _ _ 1 (by omega)]; exact hc 1 _ rfl, by rw [← zcl _ _ 2 (by omega)]; exact hc 2 _ rfl⟩

def rd_L3 (xs : List (List S105)) (i : Int) : (List S105) := xs.getD i.toNat ([] : List S105)
structure S81 where
 f0 : (List S105)
 f1 : Int
def z81 : S81 := ⟨([] : List S105), (0 : Int)⟩
def k81 : Kd S81 := Kd.iso (Kd.pair (Kd.slice 105 k105) (Kd.int .i64)) (fun x : S81 => (x.f0, x.f1))
theorem k81_heap : Kd.Heap k81 := Kd.heap_iso _ (Kd.heap_pair (Kd.heap_slice 105 k105_heap) (Kd.heap_int .i64))
theorem k81_open {w : World} {x : S81} {cs : List Value} (h : k81.K w x cs) : ∃ A0 c0, cs = [.slice A0 x.f0.length c0, .int .i64 x.f1] ∧ x.f0.length ≤ c0 ∧ k105.C w A0 x.f0.length x.f0 := by
 obtain ⟨_, _, rfl, ⟨A0, c0, rfl, l0, g0⟩, rfl⟩ := h
 exact ⟨A0, c0, rfl, l0, g0⟩
theorem k81_mk (w : World) (x : S81) {A0 : Option Addr} {c0 : Nat} (l0 : x.f0.length ≤ c0) (g0 : k105.C w A0 x.f0.length x.f0) : k81.K w x [.slice A0 x.f0.length c0, .int .i64 x.f1] := ⟨[.slice A0 x.f0.length c0], [.int .i64 x.f1], rfl, ⟨A0, c0, rfl, l0, g0⟩, rfl⟩
theorem k81_openF {W : World} {ok : Nat → Prop} {x : S81} {cs : List Value} (h : Kd.FK k81 W ok x cs) : ∃ A0 c0, cs = [.slice A0 x.f0.length c0, .int .i64 x.f1] ∧ x.f0.length ≤ c0 ∧ Kd.F k105 W ok A0 x.f0.length x.f0 := by
 obtain ⟨A0, c0, rfl, l0, _⟩ := k81_open (Kd.zff h)
 exact ⟨A0, c0, rfl, l0, (fun W' hW => by obtain ⟨A0_, c0_, he, l0_, g0_⟩ := k81_open (h W' hW); injection (Option.some.inj (show some (Value.slice A0 x.f0.length c0) = some (Value.slice A0_ x.f0.length c0_) from congrArg (fun l => l[0]?) he)) with ha_ _ _; rw [ha_]; exact g0_)⟩
theorem k81_mkF (W : World) (ok : Nat → Prop) (x : S81) {A0 : Option Addr} {c0 : Nat} (l0 : x.f0.length ≤ c0) (g0 : Kd.F k105 W ok A0 x.f0.length x.f0) : Kd.FK k81 W ok x [.slice A0 x.f0.length c0, .int .i64 x.f1] := fun W2 hW => k81_mk W2 x l0 (g0 W2 hW)
def zax (xs : List S81) (i : Int) : S81 := xs.getD i.toNat z81
theorem zge {w : World} {A : Option Addr} {n : Nat} {xs : List S81} (h : Kd.C k81 w A n xs) (i : Int) (h0 : 0 ≤ i) (h1 : i < n) : ∃ ad A0 c0, A = some ad ∧ w.cell? (ad.add (i.toNat * 2)) = some (.slice A0 (zax xs i).f0.length c0) ∧ w.cell? ⟨(ad.add (i.toNat * 2)).block, (ad.add (i.toNat * 2)).off + 1, none⟩ = some (.int .i64 (zax xs i).f1) ∧ (zax xs i).f0.length ≤ c0 ∧ k105.C w A0 (zax xs i).f0.length (zax xs i).f0 := by
 obtain ⟨ad, c, e, _, hK, hc0⟩ := Kd.C_get h z81 i h0 h1
 have hc : ∀ j u, c[j]? = some u → w.cell? (ad.add (i.toNat * 2 + j)) = some u := hc0
 obtain ⟨A0, c0, rfl, l0, g0⟩ := k81_open hK
 exact ⟨ad, A0, c0, e, hc 0 _ rfl, by rw [← zcl _ _ 1 (by omega)]; exact hc 1 _ rfl, l0, g0⟩

def rd_L5 (xs : List (List S81)) (i : Int) : (List S81) := xs.getD i.toNat ([] : List S81)
theorem at_L5 {w : World} {A : Option Addr} {n : Nat} {xs : List (List S81)} (h : Kd.C (Kd.slice 81 k81) w A n xs) (i : Int) (h0 : 0 ≤ i) (h1 : i < n) : ∃ ad A0 c0, A = some ad ∧ w.cell? (ad.add i.toNat) = some (.slice A0 (rd_L5 xs i).length c0) ∧ (rd_L5 xs i).length ≤ c0 ∧ k81.C w A0 (rd_L5 xs i).length (rd_L5 xs i) := by
 obtain ⟨ad, c, e, _, hK, hc0⟩ := Kd.C_get h ([] : List S81) i h0 h1
 have hc : ∀ j u, c[j]? = some u → w.cell? (ad.add (i.toNat * 1 + j)) = some u := hc0
 obtain ⟨A0, c0, rfl, l0, g0⟩ := hK
 exact ⟨ad, A0, c0, e, by have hq := hc 0 _ rfl; rwa [Nat.mul_one, Nat.add_zero] at hq, l0, g0⟩
structure S56 where
 f0 : ByteArray
 f1 : (List S81)
def z56 : S56 := ⟨(⟨#[]⟩ : ByteArray), ([] : List S81)⟩
def k56 : Kd S56 := Kd.iso (Kd.pair Kd.string (Kd.slice 81 k81)) (fun x : S56 => (x.f0, x.f1))
theorem k56_heap : Kd.Heap k56 := Kd.heap_iso _ (Kd.heap_pair Kd.heap_string (Kd.heap_slice 81 k81_heap))
theorem k56_open {w : World} {x : S56} {cs : List Value} (h : k56.K w x cs) : ∃ A1 c1, cs = [.string x.f0, .slice A1 x.f1.length c1] ∧ x.f1.length ≤ c1 ∧ k81.C w A1 x.f1.length x.f1 := by
 obtain ⟨_, _, rfl, rfl, ⟨A1, c1, rfl, l1, g1⟩⟩ := h
 exact ⟨A1, c1, rfl, l1, g1⟩
theorem k56_mk (w : World) (x : S56) {A1 : Option Addr} {c1 : Nat} (l1 : x.f1.length ≤ c1) (g1 : k81.C w A1 x.f1.length x.f1) : k56.K w x [.string x.f0, .slice A1 x.f1.length c1] := ⟨[.string x.f0], [.slice A1 x.f1.length c1], rfl, rfl, ⟨A1, c1, rfl, l1, g1⟩⟩
theorem k56_openF {W : World} {ok : Nat → Prop} {x : S56} {cs : List Value} (h : Kd.FK k56 W ok x cs) : ∃ A1 c1, cs = [.string x.f0, .slice A1 x.f1.length c1] ∧ x.f1.length ≤ c1 ∧ Kd.F k81 W ok A1 x.f1.length x.f1 := by
 obtain ⟨A1, c1, rfl, l1, _⟩ := k56_open (Kd.zff h)
 exact ⟨A1, c1, rfl, l1, (fun W' hW => by obtain ⟨A1_, c1_, he, l1_, g1_⟩ := k56_open (h W' hW); injection (Option.some.inj (show some (Value.slice A1 x.f1.length c1) = some (Value.slice A1_ x.f1.length c1_) from congrArg (fun l => l[1]?) he)) with ha_ _ _; rw [ha_]; exact g1_)⟩
theorem k56_mkF (W : World) (ok : Nat → Prop) (x : S56) {A1 : Option Addr} {c1 : Nat} (l1 : x.f1.length ≤ c1) (g1 : Kd.F k81 W ok A1 x.f1.length x.f1) : Kd.FK k56 W ok x [.string x.f0, .slice A1 x.f1.length c1] := fun W2 hW => k56_mk W2 x l1 (g1 W2 hW)
def zbb (xs : List S56) (i : Int) : S56 := xs.getD i.toNat z56
theorem zha {w : World} {A : Option Addr} {n : Nat} {xs : List S56} (h : Kd.C k56 w A n xs) (i : Int) (h0 : 0 ≤ i) (h1 : i < n) : ∃ ad A1 c1, A = some ad ∧ w.cell? (ad.add (i.toNat * 2)) = some (.string (zbb xs i).f0) ∧ w.cell? ⟨(ad.add (i.toNat * 2)).block, (ad.add (i.toNat * 2)).off + 1, none⟩ = some (.slice A1 (zbb xs i).f1.length c1) ∧ (zbb xs i).f1.length ≤ c1 ∧ k81.C w A1 (zbb xs i).f1.length (zbb xs i).f1 := by
 obtain ⟨ad, c, e, _, hK, hc0⟩ := Kd.C_get h z56 i h0 h1
 have hc : ∀ j u, c[j]? = some u → w.cell? (ad.add (i.toNat * 2 + j)) = some u := hc0
 obtain ⟨A1, c1, rfl, l1, g1⟩ := k56_open hK
 exact ⟨ad, A1, c1, e, hc 0 _ rfl, by rw [← zcl _ _ 1 (by omega)]; exact hc 1 _ rfl, l1, g1⟩

def rd_L8 (xs : List (List S56)) (i : Int) : (List S56) := xs.getD i.toNat ([] : List S56)
def rd_L9 (xs : List (List (List S81))) (i : Int) : (List (List S81)) := xs.getD i.toNat ([] : List (List S81))
structure S41 where
 f0 : Int
 f1 : Int
 f2 : Int
 f3 : Int
 f4 : Int
 f5 : (List S56)
def z41 : S41 := ⟨(0 : Int), (0 : Int), (0 : Int), (0 : Int), (0 : Int), ([] : List S56)⟩
def k41 : Kd S41 := Kd.iso (Kd.pair (Kd.int .i64) (Kd.pair (Kd.int .i64) (Kd.pair (Kd.int .i64) (Kd.pair (Kd.int .i64) (Kd.pair (Kd.int .i64) (Kd.slice 56 k56)))))) (fun x : S41 => (x.f0, x.f1, x.f2, x.f3, x.f4, x.f5))
theorem k41_open {w : World} {x : S41} {cs : List Value} (h : k41.K w x cs) : ∃ A5 c5, cs = [.int .i64 x.f0, .int .i64 x.f1, .int .i64 x.f2, .int .i64 x.f3, .int .i64 x.f4, .slice A5 x.f5.length c5] ∧ x.f5.length ≤ c5 ∧ k56.C w A5 x.f5.length x.f5 := by
 obtain ⟨_, _, rfl, rfl, ⟨_, _, rfl, rfl, ⟨_, _, rfl, rfl, ⟨_, _, rfl, rfl, ⟨_, _, rfl, rfl, ⟨A5, c5, rfl, l5, g5⟩⟩⟩⟩⟩⟩ := h
 exact ⟨A5, c5, rfl, l5, g5⟩
theorem k41_mk (w : World) (x : S41) {A5 : Option Addr} {c5 : Nat} (l5 : x.f5.length ≤ c5) (g5 : k56.C w A5 x.f5.length x.f5) : k41.K w x [.int .i64 x.f0, .int .i64 x.f1, .int .i64 x.f2, .int .i64 x.f3, .int .i64 x.f4, .slice A5 x.f5.length c5] := ⟨[.int .i64 x.f0], [.int .i64 x.f1, .int .i64 x.f2, .int .i64 x.f3, .int .i64 x.f4, .slice A5 x.f5.length c5], rfl, rfl, ⟨[.int .i64 x.f1], [.int .i64 x.f2, .int .i64 x.f3, .int .i64 x.f4, .slice A5 x.f5.length c5], rfl, rfl, ⟨[.int .i64 x.f2], [.int .i64 x.f3, .int .i64 x.f4, .slice A5 x.f5.length c5], rfl, rfl, ⟨[.int .i64 x.f3], [.int .i64 x.f4, .slice A5 x.f5.length c5], rfl, rfl, ⟨[.int .i64 x.f4], [.slice A5 x.f5.length c5], rfl, rfl, ⟨A5, c5, rfl, l5, g5⟩⟩⟩⟩⟩⟩
theorem k41_openF {W : World} {ok : Nat → Prop} {x : S41} {cs : List Value} (h : Kd.FK k41 W ok x cs) : ∃ A5 c5, cs = [.int .i64 x.f0, .int .i64 x.f1, .int .i64 x.f2, .int .i64 x.f3, .int .i64 x.f4, .slice A5 x.f5.length c5] ∧ x.f5.length ≤ c5 ∧ Kd.F k56 W ok A5 x.f5.length x.f5 := by
 obtain ⟨A5, c5, rfl, l5, _⟩ := k41_open (Kd.zff h)
 exact ⟨A5, c5, rfl, l5, (fun W' hW => by obtain ⟨A5_, c5_, he, l5_, g5_⟩ := k41_open (h W' hW); injection (Option.some.inj (show some (Value.slice A5 x.f5.length c5) = some (Value.slice A5_ x.f5.length c5_) from congrArg (fun l => l[5]?) he)) with ha_ _ _; rw [ha_]; exact g5_)⟩
theorem k41_mkF (W : World) (ok : Nat → Prop) (x : S41) {A5 : Option Addr} {c5 : Nat} (l5 : x.f5.length ≤ c5) (g5 : Kd.F k56 W ok A5 x.f5.length x.f5) : Kd.FK k41 W ok x [.int .i64 x.f0, .int .i64 x.f1, .int .i64 x.f2, .int .i64 x.f3, .int .i64 x.f4, .slice A5 x.f5.length c5] := fun W2 hW => k41_mk W2 x l5 (g5 W2 hW)
def zac (xs : List S41) (i : Int) : S41 := xs.getD i.toNat z41
theorem ziq {w : World} {A : Option Addr} {n : Nat} {xs : List S41} (h : Kd.C k41 w A n xs) (i : Int) (h0 : 0 ≤ i) (h1 : i < n) : ∃ ad A5 c5, A = some ad ∧ w.cell? (ad.add (i.toNat * 6)) = some (.int .i64 (zac xs i).f0) ∧ w.cell? ⟨(ad.add (i.toNat * 6)).block, (ad.add (i.toNat * 6)).off + 1, none⟩ = some (.int .i64 (zac xs i).f1) ∧ w.cell? ⟨(ad.add (i.toNat * 6)).block, (ad.add (i.toNat * 6)).off + 2, none⟩ = some (.int .i64 (zac xs i).f2) ∧ w.cell? ⟨(ad.add (i.toNat * 6)).block, (ad.add (i.toNat * 6)).off + 3, none⟩ = some (.int .i64 (zac xs i).f3) ∧ w.cell? ⟨(ad.add (i.toNat * 6)).block, (ad.add (i.toNat * 6)).off + 4, none⟩ = some (.int .i64 (zac xs i).f4) ∧ w.cell? ⟨(ad.add (i.toNat * 6)).block, (ad.add (i.toNat * 6)).off + 5, none⟩ = some (.slice A5 (zac xs i).f5.length c5) ∧ (zac xs i).f5.length ≤ c5 ∧ k56.C w A5 (zac xs i).f5.length (zac xs i).f5 := by
 obtain ⟨ad, c, e, _, hK, hc0⟩ := Kd.C_get h z41 i h0 h1
 have hc : ∀ j u, c[j]? = some u → w.cell? (ad.add (i.toNat * 6 + j)) = some u := hc0
 obtain ⟨A5, c5, rfl, l5, g5⟩ := k41_open hK
 exact ⟨ad, A5, c5, e, hc 0 _ rfl, by rw [← zcl _ _ 1 (by omega)]; exact hc 1 _ rfl, by rw [← zcl _ _ 2 (by omega)]; exact hc 2 _ rfl, by rw [← zcl _ _ 3 (by omega)]; exact hc 3 _ rfl, by rw [← zcl _ _ 4 (by omega)]; exact hc 4 _ rfl, by rw [← zcl _ _ 5 (by omega)]; exact hc 5 _ rfl, l5, g5⟩

def rd_L11 (xs : List (List S41)) (i : Int) : (List S41) := xs.getD i.toNat ([] : List S41)
structure S33 where
 f0 : Int
 f1 : Int
 f2 : (List S56)
 f3 : Int
 f4 : Int
 f5 : (List S41)
def z33 : S33 := ⟨(0 : Int), (0 : Int), ([] : List S56), (0 : Int), (0 : Int), ([] : List S41)⟩
def k33 : Kd S33 := Kd.iso (Kd.pair (Kd.int .i64) (Kd.pair (Kd.int .i64) (Kd.pair (Kd.slice 56 k56) (Kd.pair (Kd.int .i64) (Kd.pair (Kd.int .i64) (Kd.slice 41 k41)))))) (fun x : S33 => (x.f0, x.f1, x.f2, x.f3, x.f4, x.f5))
def rd_T33 (xs : List S33) (i : Int) : S33 := xs.getD i.toNat z33
def rd_L13 (xs : List (List (List S56))) (i : Int) : (List (List S56)) := xs.getD i.toNat ([] : List (List S56))
def rd_L14 (xs : List (List Int)) (i : Int) : (List Int) := xs.getD i.toNat ([] : List Int)
/-! tighter words, two -/
abbrev bz (n k : Nat) : Array Bool := ⟨List.replicate k true ++ List.replicate (n - k) false⟩
abbrev sb_ (l : Array Bool) (i : Nat) : Array Bool := l.setIfInBounds i true
theorem bq_ {α : Type} [BEq α] [LawfulBEq α] {a b : α} (h : a = b) : (a == b) = true := beq_iff_eq.mpr h
theorem bq0_ {α : Type} [BEq α] [LawfulBEq α] {a b : α} (h : a = b) : (a != b) = false := bne_eq_false_iff_eq.mpr h
theorem bn_ {α : Type} [BEq α] [LawfulBEq α] {a b : α} (h : ¬ a = b) : (a == b) = false := beq_eq_false_iff_ne.mpr h
theorem bn1_ {α : Type} [BEq α] [LawfulBEq α] {a b : α} (h : ¬ a = b) : (a != b) = true := bne_iff_ne.mpr h
theorem kq_ {p : Prop} (h : p := by have := HK1.out; omega) : p := h
theorem dB_ {w : World} {g : Nat} {o : Obj} (h : zab (w.heap[g]? = some o)) : zab (w.drew.heap[g]? = some o) := ⟨blk_drew h.out⟩
theorem ak_ {p : Prop} (h : p) : zab p := ⟨h⟩
theorem bb_ {w w1 : World} {g : Nat} {o : Obj} (h : w.heap[g]? = some o) (hb : Below w.heap.size w w1) : zab (w1.heap[g]? = some o) := ⟨zfl h hb⟩
theorem bs_ {w W w2 : World} (k : Below W.heap.size W w2) (h : Below w.heap.size w W := by repeat (first | (with_reducible first | exact HB.out | apply zas | apply zbr | apply zbn | refine zcd ?_ (zab.out (by assumption))) | exact HB.out)) : zab (Below w.heap.size w w2) := ⟨below_step h k⟩
theorem ne_ {a b : Nat} (h : zab (a ≠ b)) : zab (b ≠ a) := ⟨fun e => h.out e.symm⟩
theorem cx_ {α : Type} {d : Kd α} {w W : World} {A : Option Addr} {n : Nat} {xs : List α} (h : d.C w A n xs) (hb : Below w.heap.size w W := by repeat (first | exact Below.refl _ _ | (with_reducible first | apply zas | apply zbr | apply zbn))) : d.C W A n xs := Kd.zcc h hb
section
variable {P : Program} {ops : Array Oper} {Q : Exit → Act → World → Prop} {md : Region.Mode} {S : World → Prop} {ds : List Nat}
theorem bx_ {rest : List Oper} {o : Oper} {a : Act} {W : World} (N : Tmp) (cs : Array Value) (t : TypeId)
  (h : ∀ g, g = W.heap.size → ∀ w1, w1.heap[g]? = some (.cells cs t (0, 0)) → Below W.heap.size W w1 → wpList P ops Q rest (a.put o.dst (.pointer (some ⟨g, 0, none⟩))) w1)
  (hd : o.dst = some N := by rfl) (hgd : o.guard = none := by rfl)
  (hrun : (execOp a.eval o).run P W = .ok (.value (.pointer (some ⟨W.heap.size, 0, none⟩))) (W.alloc (.cells cs t (0, 0))) := by first | (go_simp; done) | (go_simp; rfl)) : wpList P ops Q (o :: rest) a W :=
 zhw hgd hd hrun h
theorem gl_ {rest : List Oper} {oi : Oper} {a : Act} {w : World} (N : Nat) {f : FuncId} {fn : Func} {as_ : Array Operand} {ts : Array TypeId} (hf : P.funcs[f]? = some fn) (args : Array Value)
  (h : Calls P f args w fun e w' => ∃ v, e = .returned v ∧ wpList P ops Q rest (a.put (some N) v) w')
  (hd : oi.dst = some N := by rfl) (hg : oi.guard = none := by rfl) (hname : (fn.name == "runtime.NumGoroutine") = false := by kernel_rfl) (hb : fn.body.isSome = true := by rfl)
  (hop : oi.op = .call { callee := .value (.func f), args := as_, argTypes := ts } := by rfl) (hargs : as_.map a.eval = args := by exact q2_) : wpList P ops Q (oi :: rest) a w :=
 goesL_ (some N) hd hg hf hname hb args hop hargs h
theorem go1_ {oi : Oper} {N : Option Tmp} {a : Act} {w : World} {K : Act → World → Prop} {f : FuncId} {fn : Func} {as_ : Array Operand} {ts : Array TypeId} (hf : P.funcs[f]? = some fn) (args : Array Value)
  (h : Calls P f args w fun e w' => ∃ v, e = .returned v ∧ K (a.put N v) w')
  (hname : (fn.name == "runtime.NumGoroutine") = false := by kernel_rfl) (hb : fn.body.isSome = true := by rfl) (hw : Region.wanted oi (yielded ops a.tmps) = true := by rfl) (hN : oi.dst = N := by rfl)
  (hop : oi.op = .call { callee := .value (.func f), args := as_, argTypes := ts } := by rfl) (hargs : as_.map a.eval = args := by exact q2_) : if Region.wanted oi (yielded ops a.tmps) = true then Oper.wp P oi a w K Q else K (a.put N undef) w :=
 goes_ hf hname hb args hw hN hop hargs h
theorem pz_ (i N : Nat) {oi : Oper} {v : Value} {fuel : Nat} {l : Array Bool} {a : Act} {w : World} (l' : Array Bool) {a' : Act} (h : zbk P md ops Q S ds fuel l' a' w)
  (hi : ops[i]? = some oi := by rfl) (hN : oi.dst = some N := by rfl) (hc : anyB md ops l l' i = true := by exact any_of HT_.out (by kernel_rfl)) (hQ : ∀ c a w, Q (.panic c) (a.put oi.dst v) w → Q (.panic c) a w := by exact fun _ _ _ h => h)
  (hg : Region.wanted oi (yielded ops a.tmps) = true := by rfl) (hy : ∀ w', (execOp a.eval oi).run P w' = .ok (.value v) w' := by intro w'; go_simp; with_reducible rfl) (ha : a.put (some N) v = a' := by exact qa_) : zbk P md ops Q S ds (fuel + 1) l a w :=
 pure_ l' hi hN hc hQ (Or.inl ⟨hg, hy⟩) ha h
theorem oz_ (i : Nat) (N : Option Tmp) {oi : Oper} {fuel : Nat} {l : Array Bool} {a : Act} {w : World} (l' : Array Bool)
  (h : ∀ K : Act → World → Prop, Shut (∀ a' w', S w' → (S w' → zbk P md ops Q S ds fuel l' a' w') → K a' w') → if Region.wanted oi (yielded ops a.tmps) = true then Oper.wp P oi a w K Q else K (a.put N undef) w)
  (hi : ops[i]? = some oi := by rfl) (hN : oi.dst = N := by rfl) (hc : readyB md ops l l' i = true := by exact one_of HT_.out (by kernel_rfl)) (hd : i ∉ ds := by decide) : zbk P md ops Q S ds (fuel + 1) l a w := one_ l' hi hN hc hd h
end
theorem nl_ {w : World} {g g' : Nat} {o : Obj} (hg : g' = w.heap.size) (h : w.heap[g]? = some o) : zab (g ≠ g') := ⟨by rw [hg]; exact Nat.ne_of_lt (zca h)⟩
theorem hc_ {w w1 w2 : World} {a : Addr} {v : Value} (hb : Below w.heap.size w w1) (h : w.cell? a = some v) (e : w2.cell? a = w1.cell? a := by rfl) : w2.cell? a = some v := e.trans ((hb.cell (World.block_lt_of_cell? w _ h)).trans h)
theorem bt_ {w : World} {g : Nat} {t : TypeId} {cs : Array Value} {v : Value} (h : w.heap[g]? = some (.cells cs t (0, 0))) (i : Nat) (e : cs[i]? = some v := by rfl) : w.cell? ⟨g, i, none⟩ = some v := (zat h i).trans e
theorem bp_ {w : World} {g i : Nat} {t : TypeId} {cs cs' : Array Value} {u : Value} (h : w.heap[g]? = some (.cells cs t (0, 0))) (e : cs.setIfInBounds i u = cs' := by rfl) : (w.setCell ⟨g, i, none⟩ u).heap[g]? = some (.cells cs' t (0, 0)) := zbq h i u e
section
variable {P : Program} {ops : Array Oper} {Q : Exit → Act → World → Prop} {md : Region.Mode} {S : World → Prop} {ds : List Nat}
theorem gd_ {rest : List Oper} {o : Oper} {a : Act} {W : World} (N : Tmp) (_h : o.dst = some N) (h : wpList P ops Q (o :: rest) a W) : wpList P ops Q (o :: rest) a W := h
theorem gc_ {rest : List Oper} {o : Oper} {a : Act} {W : World} (f : FuncId) {as_ : Array Operand} {ts : Array TypeId} (_h : o.op = .call { callee := .value (.func f), args := as_, argTypes := ts }) (h : wpList P ops Q (o :: rest) a W) : wpList P ops Q (o :: rest) a W := h
theorem pu_ (i N : Nat) {oi : Oper} {fuel : Nat} {l : Array Bool} {a : Act} {w : World} (l' : Array Bool) {a' : Act} (h : zbk P md ops Q S ds fuel l' a' w)
  (hi : ops[i]? = some oi := by rfl) (hN : oi.dst = some N := by rfl) (hc : anyB md ops l l' i = true := by exact any_of HT_.out (by kernel_rfl)) (hQ : ∀ c a w, Q (.panic c) (a.put oi.dst undef) w → Q (.panic c) a w := by exact fun _ _ _ h => h)
  (hg : Region.wanted oi (yielded ops a.tmps) = false := by rfl) (ha : a.put (some N) undef = a' := by exact qa_) : zbk P md ops Q S ds (fuel + 1) l a w :=
 pure_ l' hi hN hc hQ (Or.inr ⟨hg, rfl⟩) ha h
theorem nz_ {fuel : Nat} {l : Array Bool} {a a' : Act} {w : World} (h : zbk P md ops Q S ds fuel l a' w) (ha : a = a' := by show Act.put _ (some _) _ = _; simp only [Act.put, List.setIfInBounds_toArray, List.set_cons_zero, List.set_cons_succ, zhm, i32_w]; rfl) : zbk P md ops Q S ds fuel l a w := norm_ ha h
end
theorem np_ {a b : Nat} (h : zab (a ≠ b)) : a ≠ b ∧ b ≠ a := ⟨h.out, fun e => h.out e.symm⟩
section
variable {α : Type} {d : Kd α} {e base g : Nat} {ok : Nat → Prop} {w w1 : World} {v : Value} {xs : List α}
theorem Nb_ (h : Kd.N d e w base ok v xs) (hb : Below w.heap.size w w1) : zab (Kd.N d e w1 base ok v xs) := ⟨Kd.zdq h hb⟩
theorem Vb_ (h : Kd.V d e w base ok v xs) (hb : Below w.heap.size w w1) : zab (Kd.V d e w1 base ok v xs) := ⟨Kd.zgc h hb⟩
theorem Rb_ (h : Kd.R d e w base ok v xs) (hb : Below w.heap.size w w1) : zab (Kd.R d e w1 base ok v xs) := ⟨Kd.R_below h hb⟩
theorem Cb_ {A : Option Addr} {n : Nat} (h : Kd.C d w A n xs) (hb : Below w.heap.size w w1) : zab (Kd.C d w1 A n xs) := ⟨Kd.zcc h hb⟩
theorem Ne_ (h : Kd.N d e w base ok v xs) (hg : g = w.heap.size) (hb : Below w.heap.size w w1) : zab (Kd.N d e w1 base (fun k => ok k ∧ k ≠ g) v xs) := ⟨Kd.zdq (Kd.N_elderB h g (Nat.le_of_eq hg.symm)) hb⟩
theorem Ve_ (h : Kd.V d e w base ok v xs) (hg : g = w.heap.size) (hb : Below w.heap.size w w1) : zab (Kd.V d e w1 base (fun k => ok k ∧ k ≠ g) v xs) := ⟨Kd.zgc (Kd.V_elderB h g (Nat.le_of_eq hg.symm)) hb⟩
theorem Nf_ {i : Nat} {u : Value} (h : Kd.N d e w base ok v xs) (hf : ∀ k, ok k → k ≠ g := by exact fun _ hk => hk.2) : Kd.N d e (w.setCell ⟨g, i, none⟩ u) base ok v xs := Kd.N_far (p := ⟨g, i, none⟩) h hf u
theorem Vf_ {i : Nat} {u : Value} (h : Kd.V d e w base ok v xs) (hf : ∀ k, ok k → k ≠ g := by exact fun _ hk => hk.2) : Kd.V d e (w.setCell ⟨g, i, none⟩ u) base ok v xs := Kd.zgj (p := ⟨g, i, none⟩) h hf u
theorem Rf_ {i : Nat} {u : Value} (h : Kd.R d e w base ok v xs) (hf : ∀ k, ok k → k ≠ g := by exact fun _ hk => hk.2) : Kd.R d e (w.setCell ⟨g, i, none⟩ u) base ok v xs := Kd.R_far (p := ⟨g, i, none⟩) h hf u
end
theorem bc2_ {w : World} {g : Nat} {t : TypeId} {c0 c1 : Value} (h : w.heap[g]? = some (.cells #[c0, c1] t (0, 0))) : w.cell? ⟨g, 0, none⟩ = some c0 ∧ w.cell? ⟨g, 1, none⟩ = some c1 ∧ w.frozen? ⟨g, 0, none⟩ = false ∧ w.frozen? ⟨g, 1, none⟩ = false := ⟨(zat h 0).trans rfl, (zat h 1).trans rfl, zag h 0, zag h 1⟩
theorem bc3_ {w : World} {g : Nat} {t : TypeId} {c0 c1 c2 : Value} (h : w.heap[g]? = some (.cells #[c0, c1, c2] t (0, 0))) : w.cell? ⟨g, 0, none⟩ = some c0 ∧ w.cell? ⟨g, 1, none⟩ = some c1 ∧ w.cell? ⟨g, 2, none⟩ = some c2 ∧ w.frozen? ⟨g, 0, none⟩ = false ∧ w.frozen? ⟨g, 1, none⟩ = false ∧ w.frozen? ⟨g, 2, none⟩ = false := ⟨(zat h 0).trans rfl, (zat h 1).trans rfl, (zat h 2).trans rfl, zag h 0, zag h 1, zag h 2⟩
theorem bc6_ {w : World} {g : Nat} {t : TypeId} {c0 c1 c2 c3 c4 c5 : Value} (h : w.heap[g]? = some (.cells #[c0, c1, c2, c3, c4, c5] t (0, 0))) : w.cell? ⟨g, 0, none⟩ = some c0 ∧ w.cell? ⟨g, 1, none⟩ = some c1 ∧ w.cell? ⟨g, 2, none⟩ = some c2 ∧ w.cell? ⟨g, 3, none⟩ = some c3 ∧ w.cell? ⟨g, 4, none⟩ = some c4 ∧ w.cell? ⟨g, 5, none⟩ = some c5 ∧ w.frozen? ⟨g, 0, none⟩ = false ∧ w.frozen? ⟨g, 1, none⟩ = false ∧ w.frozen? ⟨g, 2, none⟩ = false ∧ w.frozen? ⟨g, 3, none⟩ = false ∧ w.frozen? ⟨g, 4, none⟩ = false ∧ w.frozen? ⟨g, 5, none⟩ = false := ⟨(zat h 0).trans rfl, (zat h 1).trans rfl, (zat h 2).trans rfl, (zat h 3).trans rfl, (zat h 4).trans rfl, (zat h 5).trans rfl, zag h 0, zag h 1, zag h 2, zag h 3, zag h 4, zag h 5⟩
theorem bs2_ {w w' : World} {g : Nat} {t : TypeId} {c0 c1 : Value} (h : w.heap[g]? = some (.cells #[c0, c1] t (0, 0))) (e : w'.heap = w.heap := by rfl) : w'.cell? ⟨g, 0, none⟩ = some c0 ∧ w'.cell? ⟨g, 1, none⟩ = some c1 := ⟨(zat (e ▸ h) 0).trans rfl, (zat (e ▸ h) 1).trans rfl⟩
theorem bs6_ {w w' : World} {g : Nat} {t : TypeId} {c0 c1 c2 c3 c4 c5 : Value} (h : w.heap[g]? = some (.cells #[c0, c1, c2, c3, c4, c5] t (0, 0))) (e : w'.heap = w.heap := by rfl) : w'.cell? ⟨g, 0, none⟩ = some c0 ∧ w'.cell? ⟨g, 1, none⟩ = some c1 ∧ w'.cell? ⟨g, 2, none⟩ = some c2 ∧ w'.cell? ⟨g, 3, none⟩ = some c3 ∧ w'.cell? ⟨g, 4, none⟩ = some c4 ∧ w'.cell? ⟨g, 5, none⟩ = some c5 := ⟨(zat (e ▸ h) 0).trans rfl, (zat (e ▸ h) 1).trans rfl, (zat (e ▸ h) 2).trans rfl, (zat (e ▸ h) 3).trans rfl, (zat (e ▸ h) 4).trans rfl, (zat (e ▸ h) 5).trans rfl⟩
theorem tz2_ {P : Program} {ops : Array Oper} {Q : Exit → Act → World → Prop} {S : World → Prop} {ds : List Nat} {md : Region.Mode} (i N : Nat) {oi : Oper} {v : Value} {fuel : Nat} {l : Array Bool} {a : Act} {w : World} (l' : Array Bool) (hS : S w) {a' : Act} (h : zbk P md ops Q S ds fuel l' a' w) (hi : ops[i]? = some oi := by rfl) (hN : oi.dst = some N := by rfl) (hc : takeB md ops ds l l' i = true := by exact take_ofW HT_.out HW_.out (by kernel_rfl)) (hQ : ∀ c a w, Q (.panic c) (a.put oi.dst v) w → Q (.panic c) a w := by exact fun _ _ _ h => h) (hg : Region.wanted oi (yielded ops a.tmps) = true := by rfl) (hy : ∀ w', S w' → (execOp a.eval oi).run P w' = .ok (.value v) w' := by rintro w' ⟨s0, s1⟩; go_simp; with_reducible rfl) (ha : a.put (some N) v = a' := by exact qa_) : zbk P md ops Q S ds (fuel + 1) l a w := take_ l' hi hN hc hQ (Or.inl ⟨hg, hy⟩) hS ha h
theorem tz4_ {P : Program} {ops : Array Oper} {Q : Exit → Act → World → Prop} {S : World → Prop} {ds : List Nat} {md : Region.Mode} (i N : Nat) {oi : Oper} {v : Value} {fuel : Nat} {l : Array Bool} {a : Act} {w : World} (l' : Array Bool) (hS : S w) {a' : Act} (h : zbk P md ops Q S ds fuel l' a' w) (hi : ops[i]? = some oi := by rfl) (hN : oi.dst = some N := by rfl) (hc : takeB md ops ds l l' i = true := by exact take_ofW HT_.out HW_.out (by kernel_rfl)) (hQ : ∀ c a w, Q (.panic c) (a.put oi.dst v) w → Q (.panic c) a w := by exact fun _ _ _ h => h) (hg : Region.wanted oi (yielded ops a.tmps) = true := by rfl) (hy : ∀ w', S w' → (execOp a.eval oi).run P w' = .ok (.value v) w' := by rintro w' ⟨s0, s1, s2, s3⟩; go_simp; with_reducible rfl) (ha : a.put (some N) v = a' := by exact qa_) : zbk P md ops Q S ds (fuel + 1) l a w := take_ l' hi hN hc hQ (Or.inl ⟨hg, hy⟩) hS ha h
theorem tz6_ {P : Program} {ops : Array Oper} {Q : Exit → Act → World → Prop} {S : World → Prop} {ds : List Nat} {md : Region.Mode} (i N : Nat) {oi : Oper} {v : Value} {fuel : Nat} {l : Array Bool} {a : Act} {w : World} (l' : Array Bool) (hS : S w) {a' : Act} (h : zbk P md ops Q S ds fuel l' a' w) (hi : ops[i]? = some oi := by rfl) (hN : oi.dst = some N := by rfl) (hc : takeB md ops ds l l' i = true := by exact take_ofW HT_.out HW_.out (by kernel_rfl)) (hQ : ∀ c a w, Q (.panic c) (a.put oi.dst v) w → Q (.panic c) a w := by exact fun _ _ _ h => h) (hg : Region.wanted oi (yielded ops a.tmps) = true := by rfl) (hy : ∀ w', S w' → (execOp a.eval oi).run P w' = .ok (.value v) w' := by rintro w' ⟨s0, s1, s2, s3, s4, s5⟩; go_simp; with_reducible rfl) (ha : a.put (some N) v = a' := by exact qa_) : zbk P md ops Q S ds (fuel + 1) l a w := take_ l' hi hN hc hQ (Or.inl ⟨hg, hy⟩) hS ha h
theorem zga {P : Program} {ops : Array Oper} {Q : Exit → Act → World → Prop} {S : World → Prop} {ds : List Nat} {md : Region.Mode} (i N : Nat) {oi : Oper} {v : Value} {fuel : Nat} {l : Array Bool} {a : Act} {w : World} (l' : Array Bool) (hS : S w) {a' : Act} (h : zbk P md ops Q S ds fuel l' a' w) (hi : ops[i]? = some oi := by rfl) (hN : oi.dst = some N := by rfl) (hc : takeB md ops ds l l' i = true := by exact take_ofW HT_.out HW_.out (by kernel_rfl)) (hQ : ∀ c a w, Q (.panic c) (a.put oi.dst v) w → Q (.panic c) a w := by exact fun _ _ _ h => h) (hg : Region.wanted oi (yielded ops a.tmps) = true := by rfl) (hy : ∀ w', S w' → (execOp a.eval oi).run P w' = .ok (.value v) w' := by rintro w' ⟨s0, s1, s2, s3, s4, s5, s6, s7, s8, s9, s10, s11⟩; go_simp; with_reducible rfl) (ha : a.put (some N) v = a' := by exact qa_) : zbk P md ops Q S ds (fuel + 1) l a w := take_ l' hi hN hc hQ (Or.inl ⟨hg, hy⟩) hS ha h
theorem zhf {P : Program} {ops : Array Oper} {Q : Exit → Act → World → Prop} {S : World → Prop} {ds : List Nat} {md : Region.Mode} (i N : Nat) {oi : Oper} {v : Value} {fuel : Nat} {l : Array Bool} {a : Act} {w : World} (l' : Array Bool) (hS : S w) {a' : Act} (h : zbk P md ops Q S ds fuel l' a' w) (hi : ops[i]? = some oi := by rfl) (hN : oi.dst = some N := by rfl) (hc : takeB md ops ds l l' i = true := by exact take_ofW HT_.out HW_.out (by kernel_rfl)) (hQ : ∀ c a w, Q (.panic c) (a.put oi.dst v) w → Q (.panic c) a w := by exact fun _ _ _ h => h) (hg : Region.wanted oi (yielded ops a.tmps) = true := by rfl) (hy : ∀ w', S w' → (execOp a.eval oi).run P w' = .ok (.value v) w' := by rintro w' ⟨s0, s1, s2, s3, s4, s5, s6, s7, s8, s9, s10, s11, s12, s13, s14, s15, s16, s17⟩; go_simp; with_reducible rfl) (ha : a.put (some N) v = a' := by exact qa_) : zbk P md ops Q S ds (fuel + 1) l a w := take_ l' hi hN hc hQ (Or.inl ⟨hg, hy⟩) hS ha h
/-! tighter words, three -/
theorem bi_ {α β : Type} {x : Option α} {f : α → Option β} {b : β} (h : x.bind f = some b) : ∃ a, zab (x = some a) ∧ f a = some b := by
 obtain ⟨a, h1, h2⟩ := Option.bind_eq_some_iff.mp h
 exact ⟨a, ⟨h1⟩, h2⟩
theorem ca_ {P : Program} {f : FuncId} {args : Array Value} {w : World} {V : Value} {R : World → Prop} {K : Value → World → Prop} (h : Calls P f args w fun e w' => e = .returned V ∧ R w') (k : ∀ w', R w' → K V w') : Calls P f args w fun e w' => ∃ v, e = .returned v ∧ K v w' :=
 h.mono (by rintro e w' ⟨rfl, hr⟩; exact ⟨_, rfl, k _ hr⟩)
theorem gw_ {w W : World} {g : Nat} (hg : g = W.heap.size) (h : Below w.heap.size w W := by repeat (first | (with_reducible first | exact HB.out | apply zas | apply zbr | apply zbn | refine zcd ?_ (zab.out (by assumption))) | exact HB.out)) : zab (w.heap.size ≤ g) := ⟨by rw [hg]; exact zcb h⟩
theorem by_ {P : Program} {ops : Array Oper} {Q : Exit → Act → World → Prop} {rest : List Oper} {o : Oper} {a : Act} {W : World} (cs : Array Value) (t : TypeId)
  (h : ∀ g, g = W.heap.size → ∀ w1, zab (w1.heap[g]? = some (.cells cs t (0, 0))) → Below W.heap.size W w1 → wpList P ops Q rest (a.put o.dst (.pointer (some ⟨g, 0, none⟩))) w1)
  {N : Tmp} (hd : o.dst = some N := by rfl) (hgd : o.guard = none := by rfl)
  (hrun : (execOp a.eval o).run P W = .ok (.value (.pointer (some ⟨W.heap.size, 0, none⟩))) (W.alloc (.cells cs t (0, 0))) := by first | (go_simp; done) | (go_simp; rfl)) : wpList P ops Q (o :: rest) a W :=
 zhw hgd hd hrun (fun g hg w1 hx hb => h g hg w1 ⟨hx⟩ hb)
section
variable {α : Type} {d : Kd α} {e base : Nat} {ok : Nat → Prop} {w w1 : World} {v : Value} {xs : List α}
theorem nx_ (h : Kd.N d e w base ok v xs) (hb : Below w.heap.size w w1 := by repeat (first | exact Below.refl _ _ | (with_reducible first | apply zas | apply zbr | apply zbn))) : Kd.N d e w1 base ok v xs := Kd.zdq h hb
theorem vx_ (h : Kd.V d e w base ok v xs) (hb : Below w.heap.size w w1 := by repeat (first | exact Below.refl _ _ | (with_reducible first | apply zas | apply zbr | apply zbn))) : Kd.V d e w1 base ok v xs := Kd.zgc h hb
theorem rx_ (h : Kd.R d e w base ok v xs) (hb : Below w.heap.size w w1 := by repeat (first | exact Below.refl _ _ | (with_reducible first | apply zas | apply zbr | apply zbn))) : Kd.R d e w1 base ok v xs := Kd.R_below h hb
end
theorem ifT_ {α : Type} {a b c : α} (h : (if true = true then a else b) = c) : a = c := h
theorem ifF_ {α : Type} {a b c : α} (h : (if false = true then a else b) = c) : b = c := h
theorem q0_ {p : Prop} (h : p := by repeat (first | (with_reducible first | exact HB.out | apply zas | apply zbr | apply zbn | refine zcd ?_ (zab.out (by assumption))) | exact HB.out)) : p := h
theorem q1_ {p : Prop} (h : p := by rw [hg]; exact (zcb (by repeat (first | (with_reducible first | exact HB.out | apply zas | apply zbr | apply zbn | refine zcd ?_ (zab.out (by assumption))) | exact HB.out)))) : p := h
theorem q2_ {p : Prop} (h : p := by (try simp only [List.map_toArray, List.map_cons, List.map_nil]); first | done | rfl | (simp only [List.length_drop, List.length_take]; rfl)) : p := h
theorem q3_ {p : Prop} (h : p := by (with_reducible repeat first | apply bN_ | apply bD_ | apply bA_); refine zbq (cs := #[.int .i64 ((zac l0_5 x46_3).f0), .int .i64 ((zac l0_5 x46_3).f1), .int .i64 ((zac l0_5 x46_3).f2), .int .i64 ((zac l0_5 x46_3).f3), .int .i64 ((zac l0_5 x46_3).f4), .slice none 0 0]) ?_ 5 _ rfl; (with_reducible repeat first | apply bN_ | apply bD_ | apply bA_); refine zbq (cs := #[.int .i64 ((zac l0_5 x46_3).f0), .int .i64 ((zac l0_5 x46_3).f1), .int .i64 ((zac l0_5 x46_3).f2), .int .i64 ((zac l0_5 x46_3).f3), .int .i64 0, .slice none 0 0]) ?_ 4 _ rfl; (with_reducible repeat first | apply bN_ | apply bD_ | apply bA_); refine zbq (cs := #[.int .i64 ((zac l0_5 x46_3).f0), .int .i64 ((zac l0_5 x46_3).f1), .int .i64 ((zac l0_5 x46_3).f2), .int .i64 0, .int .i64 0, .slice none 0 0]) ?_ 3 _ rfl; (with_reducible repeat first | apply bN_ | apply bD_ | apply bA_); refine zbq (cs := #[.int .i64 ((zac l0_5 x46_3).f0), .int .i64 ((zac l0_5 x46_3).f1), .int .i64 0, .int .i64 0, .int .i64 0, .slice none 0 0]) ?_ 2 _ rfl; (with_reducible repeat first | apply bN_ | apply bD_ | apply bA_); refine zbq (cs := #[.int .i64 ((zac l0_5 x46_3).f0), .int .i64 0, .int .i64 0, .int .i64 0, .int .i64 0, .slice none 0 0]) ?_ 1 _ rfl; (with_reducible repeat first | apply bN_ | apply bD_ | apply bA_); refine zbq (cs := #[.int .i64 0, .int .i64 0, .int .i64 0, .int .i64 0, .int .i64 0, .slice none 0 0]) ?_ 0 _ rfl; (with_reducible repeat first | apply bN_ | apply bD_ | apply bA_); exact BK227.out) : p := h
theorem q4_ {p : Prop} (h : p := by first | (with_reducible assumption) | assumption) : p := h
theorem q5_ {p : Prop} (h : p := by first | rfl | (simp [zco, zcp] <;> rfl) | (simp [*, zco, zcp] <;> rfl)) : p := h
theorem q6_ {p : Prop} (h : p := by first | rfl | (simp; done) | (simp [*]; done)) : p := h
theorem q7_ {p : Prop} (h : p := by first | exact HG.out | (refine Glob.below HG.out ?_; (repeat (first | (with_reducible first | exact HB.out | apply zas | apply zbr | apply zbn) | exact HB.out))) | (repeat (first | exact HG.out | apply Glob.drewN | apply Glob.drew | apply Glob.alloc))) : p := h
theorem q8_ {p : Prop} (h : p := by (with_reducible repeat first | apply bN_ | apply bD_ | apply bA_); refine zdy ?_ NB224_227.out _; (with_reducible repeat first | apply bN_ | apply bD_ | apply bA_); refine zdy ?_ NB224_227.out _; (with_reducible repeat first | apply bN_ | apply bD_ | apply bA_); refine zdy ?_ NB224_227.out _; (with_reducible repeat first | apply bN_ | apply bD_ | apply bA_); refine zdy ?_ NB224_227.out _; (with_reducible repeat first | apply bN_ | apply bD_ | apply bA_); refine zdy ?_ NB224_227.out _; (with_reducible repeat first | apply bN_ | apply bD_ | apply bA_); refine zdy ?_ NB224_227.out _; (with_reducible repeat first | apply bN_ | apply bD_ | apply bA_); exact BK224.out) : p := h
theorem q9_ {p : Prop} (h : p := by repeat (first | exact zdo.refl _ | apply zdo.step)) : p := h
theorem q10_ {p : Prop} (h : p := by (with_reducible repeat first | apply bN_ | apply bD_ | apply bA_); refine zbq (cs := #[.int .i64 a0_0, .int .i64 a0_1, .slice A0_2 l0_2.length c0_2, .int .i64 a0_3, .int .i64 a0_4, .slice none 0 0]) ?_ 5 _ rfl; (with_reducible repeat first | apply bN_ | apply bD_ | apply bA_); refine zbq (cs := #[.int .i64 a0_0, .int .i64 a0_1, .slice A0_2 l0_2.length c0_2, .int .i64 a0_3, .int .i64 0, .slice none 0 0]) ?_ 4 _ rfl; (with_reducible repeat first | apply bN_ | apply bD_ | apply bA_); refine zbq (cs := #[.int .i64 a0_0, .int .i64 a0_1, .slice A0_2 l0_2.length c0_2, .int .i64 0, .int .i64 0, .slice none 0 0]) ?_ 3 _ rfl; (with_reducible repeat first | apply bN_ | apply bD_ | apply bA_); refine zbq (cs := #[.int .i64 a0_0, .int .i64 a0_1, .slice none 0 0, .int .i64 0, .int .i64 0, .slice none 0 0]) ?_ 2 _ rfl; (with_reducible repeat first | apply bN_ | apply bD_ | apply bA_); refine zbq (cs := #[.int .i64 a0_0, .int .i64 0, .slice none 0 0, .int .i64 0, .int .i64 0, .slice none 0 0]) ?_ 1 _ rfl; (with_reducible repeat first | apply bN_ | apply bD_ | apply bA_); refine zbq (cs := #[.int .i64 0, .int .i64 0, .slice none 0 0, .int .i64 0, .int .i64 0, .slice none 0 0]) ?_ 0 _ rfl; (with_reducible repeat first | apply bN_ | apply bD_ | apply bA_); exact BK245.out) : p := h
theorem q11_ {p : Prop} (h : p := by (with_reducible repeat first | apply bN_ | apply bD_ | apply bA_); exact BK224.out) : p := h
theorem q12_ {p : Prop} (h : p := by first | exact HG.out | (refine Glob.below HG.out ?_; (repeat (first | (with_reducible first | exact HB.out | apply zas | apply zbr | apply zbn | refine zcd ?_ GE243.out | refine zcd ?_ GE244.out | refine zcd ?_ GE245.out) | exact HB.out))) | (repeat (first | exact HG.out | apply Glob.drewN | apply Glob.drew | apply Glob.alloc))) : p := h
theorem q15_ {p : Prop} (h : p := by first | exact HG.out | (refine Glob.below HG.out ?_; (repeat (first | (with_reducible first | exact HB.out | apply zas | apply zbr | apply zbn | refine zcd ?_ GE224.out | refine zcd ?_ GE227.out) | exact HB.out))) | (repeat (first | exact HG.out | apply Glob.drewN | apply Glob.drew | apply Glob.alloc))) : p := h
theorem q16_ {p : Prop} (h : p := by (with_reducible repeat first | apply bN_ | apply bD_ | apply bA_); refine zbq (cs := #[.slice A130_0 ((zax l0 x7_1).f0).length c130_0, .int .i64 0]) ?_ 1 _ rfl; (with_reducible repeat first | apply bN_ | apply bD_ | apply bA_); refine zbq (cs := #[.slice none 0 0, .int .i64 0]) ?_ 0 _ rfl; (with_reducible repeat first | apply bN_ | apply bD_ | apply bA_); exact BK131.out) : p := h
theorem q17_ {p : Prop} (h : p := by (with_reducible repeat first | apply bN_ | apply bD_ | apply bA_); exact BK243.out) : p := h
theorem q18_ {p : Prop} (h : p := by (with_reducible repeat first | apply bN_ | apply bD_ | apply bA_); exact BK244.out) : p := h
theorem q19_ {p : Prop} (h : p := by (with_reducible repeat first | apply bN_ | apply bD_ | apply bA_); refine zbq (cs := #[.string ((zbb l0 x7_1).f0), .slice none 0 0]) ?_ 1 _ rfl; (with_reducible repeat first | apply bN_ | apply bD_ | apply bA_); refine zbq (cs := #[.string (⟨#[]⟩ : ByteArray), .slice none 0 0]) ?_ 0 _ rfl; (with_reducible repeat first | apply bN_ | apply bD_ | apply bA_); exact BK155.out) : p := h
theorem q20_ {p : Prop} (h : p := by (with_reducible repeat first | apply bN_ | apply bD_ | apply bA_); exact BK245.out) : p := h
theorem q21_ {p : Prop} (h : p := by (with_reducible repeat (first | apply Kd.zcs | apply Kd.zcm | apply Kd.zdj)); exact Kd.zcf (Kd.zgj (p := ⟨gb245, 5, none⟩) (Kd.zgj (p := ⟨gb245, 4, none⟩) (Kd.zgj (p := ⟨gb245, 3, none⟩) (Kd.zgj (p := ⟨gb245, 2, none⟩) (Kd.zgj (p := ⟨gb245, 1, none⟩) (Kd.zgj (p := ⟨gb245, 0, none⟩) (Kd.zcf HO_244005.out (fun k_ hk => (⟨hk, hk.2.2.2⟩ : _ ∧ k_ ≠ gb245))) (fun _ hk => hk.2) (.int .i64 a0_0)) (fun _ hk => hk.2) (.int .i64 a0_1)) (fun _ hk => hk.2) (.slice A0_2 l0_2.length c0_2)) (fun _ hk => hk.2) (.int .i64 a0_3)) (fun _ hk => hk.2) (.int .i64 a0_4)) (fun _ hk => hk.2) (.slice A0_5 l0_5.length c0_5)) (fun _ hk => hk.1.1)) : p := h
theorem q22_ {p : Prop} (h : p := by (with_reducible repeat (first | apply Kd.zcs | apply Kd.zcm | apply Kd.zdj)); exact Kd.zcf (Kd.zgj (p := ⟨gb245, 5, none⟩) (Kd.zgj (p := ⟨gb245, 4, none⟩) (Kd.zgj (p := ⟨gb245, 3, none⟩) (Kd.zgj (p := ⟨gb245, 2, none⟩) (Kd.zgj (p := ⟨gb245, 1, none⟩) (Kd.zgj (p := ⟨gb245, 0, none⟩) (Kd.zcf HO_244002.out (fun k_ hk => (⟨hk, hk.2.2.2⟩ : _ ∧ k_ ≠ gb245))) (fun _ hk => hk.2) (.int .i64 a0_0)) (fun _ hk => hk.2) (.int .i64 a0_1)) (fun _ hk => hk.2) (.slice A0_2 l0_2.length c0_2)) (fun _ hk => hk.2) (.int .i64 a0_3)) (fun _ hk => hk.2) (.int .i64 a0_4)) (fun _ hk => hk.2) (.slice A0_5 l0_5.length c0_5)) (fun _ hk => hk.1.1)) : p := h
theorem q23_ {p : Prop} (h : p := by first | exact HG.out | (refine Glob.below HG.out ?_; (repeat (first | (with_reducible first | exact HB.out | apply zas | apply zbr | apply zbn | refine zcd ?_ GE155.out) | exact HB.out))) | (repeat (first | exact HG.out | apply Glob.drewN | apply Glob.drew | apply Glob.alloc))) : p := h
theorem q24_ {p : Prop} (h : p := by first | exact HG.out | (refine Glob.below HG.out ?_; (repeat (first | (with_reducible first | exact HB.out | apply zas | apply zbr | apply zbn | refine zcd ?_ GE131.out) | exact HB.out))) | (repeat (first | exact HG.out | apply Glob.drewN | apply Glob.drew | apply Glob.alloc))) : p := h
theorem q25_ {p : Prop} (h : p := by exact vx_ HO0_2.out) : p := h
theorem q26_ {p : Prop} (h : p := by exact vx_ HO1_5.out) : p := h
theorem q27_ {p : Prop} (h : p := by exact vx_ HO0_5.out) : p := h
theorem q28_ {p : Prop} (h : p := by exact vx_ HO0.out) : p := h
theorem q29_ {p : Prop} (h : p := by repeat (first | (with_reducible exact HR196_0.out) | (with_reducible refine Kd.C_alloc ?_ _) | (with_reducible refine Kd.C_drewN ?_ _) | (with_reducible refine Kd.C_drew ?_) | exact HR196_0.out)) : p := h
theorem q30_ {p : Prop} (h : p := by (with_reducible repeat first | apply bN_ | apply bD_ | apply bA_); exact BK144.out) : p := h
theorem q31_ {p : Prop} (h : p := by (try simp only [List.map_toArray, List.map_cons, List.map_nil]); first | done | (simp only [hji5]; rfl) | rfl | (simp only [List.length_drop, List.length_take]; rfl)) : p := h
theorem q32_ {p : Prop} (h : p := by (with_reducible repeat first | apply bN_ | apply bD_ | apply bA_); exact BK227.out) : p := h
theorem q33_ {p : Prop} (h : p := by first | exact Kd.S_nil _ _ _ _ _ | exact Kd.zij _ _ _ _ _ | exact Kd.V_nil _ _ _ _ _ | exact Kd.Q_nil _ _ _ _ _ | exact Kd.R_nil _ _ _ _ _) : p := h
theorem q34_ {p : Prop} (h : p := by exact nx_ HO_0.out) : p := h
theorem q35_ {p : Prop} (h : p := by (with_reducible repeat first | apply bN_ | apply bD_ | apply bA_); exact BK131.out) : p := h
theorem q36_ {p : Prop} (h : p := by exact vx_ HO2.out) : p := h
theorem q37_ {p : Prop} (h : p := by repeat (first | (with_reducible exact HR191_0.out) | (with_reducible refine Kd.C_alloc ?_ _) | (with_reducible refine Kd.C_drewN ?_ _) | (with_reducible refine Kd.C_drew ?_) | exact HR191_0.out)) : p := h
theorem q38_ {p : Prop} (h : p := by (with_reducible repeat (first | apply Kd.zcs | apply Kd.zcm | apply Kd.zdj)); exact Kd.zcf HO1_5.out (fun _ hk => ⟨hk.1.1.1, ⟨hk.1.1.2, ⟨hk.1.2, hk.2⟩⟩⟩)) : p := h
theorem q39_ {p : Prop} (h : p := by (with_reducible repeat (first | apply Kd.zcs | apply Kd.zcm | apply Kd.zdj)); exact Kd.zcf HO0_5.out (fun _ hk => ⟨hk.1.1.1, ⟨hk.1.1.2, ⟨hk.1.2, hk.2⟩⟩⟩)) : p := h
theorem q40_ {p : Prop} (h : p := by (with_reducible repeat (first | apply Kd.zcs | apply Kd.zcm | apply Kd.zdj)); exact Kd.zcf HO0_2.out (fun _ hk => ⟨hk.1.1.1, ⟨hk.1.1.2, ⟨hk.1.2, hk.2⟩⟩⟩)) : p := h
theorem q41_ {p : Prop} (h : p := by exact nx_ HO_4.out) : p := h
theorem q44_ {p : Prop} (h : p := by first | rfl | (simp; done) | (simp only [← hji5] <;> (first | rfl | simp)) | (simp [*]; done)) : p := h
theorem q45_ {p : Prop} (h : p := by first | exact Kd.R_nil _ _ _ _ _ | exact Kd.zij _ _ _ _ _ | exact Kd.V_nil _ _ _ _ _ | exact Kd.Q_nil _ _ _ _ _ | exact Kd.S_nil _ _ _ _ _) : p := h
theorem q46_ {p : Prop} (h : p := by (with_reducible repeat first | apply bN_ | apply bD_ | apply bA_); exact BK195.out) : p := h
theorem q47_ {p : Prop} (h : p := by (with_reducible repeat first | apply bN_ | apply bD_ | apply bA_); exact BK171.out) : p := h
theorem q48_ {p : Prop} (h : p := by (with_reducible repeat first | apply bN_ | apply bD_ | apply bA_); exact BK155.out) : p := h
theorem q49_ {p : Prop} (h : p := by (with_reducible repeat first | apply bN_ | apply bD_ | apply bA_); exact BK114.out) : p := h
theorem q50_ {p : Prop} (h : p := by first | simpa using c3 | (simp at c3 ⊢; omega)) : p := h
theorem q51_ {p : Prop} (h : p := by rw [Mem.zdi]; exact Nat.lt_succ_self _) : p := h
theorem q52_ {p : Prop} (h : p := by exact vx_ HO_245005.out) : p := h
theorem q53_ {p : Prop} (h : p := by exact vx_ HO_244005.out) : p := h
theorem q54_ {p : Prop} (h : p := by exact vx_ HO_244002.out) : p := h

end Go.Proofs.YtchpbnabbjdfgaaDoor.P
