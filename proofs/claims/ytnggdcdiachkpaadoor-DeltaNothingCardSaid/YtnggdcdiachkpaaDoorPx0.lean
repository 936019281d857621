-- HALVED
import Derived.Test.YtnggdcdiachkpaaDoorProg
import Derived.Below
import Derived.Deep.Draws
import Derived.Deep.AppendLies
import Derived.Maps.AppendAt
import Derived.OwnWalk
import Derived.Laws.BytesArg
import Derived.Laws.MakeOwn
import Derived.Laws.OwnMore
import Derived.Deep.OwnRows
import Derived.Tactics
import Derived.Lib.ConvBytes
import Derived.Laws.Slices
import Derived.WalkKit
import Derived.KernelRfl
import Derived.RowKit3
import Derived.Deep.LoopGhost
import Derived.Deep.QuietTactic
import Derived.BigQuiet
import Derived.WideLaws
import Derived.Deep.DeepCutAuto
import Derived.Deep.CutBlock
import Derived.Deep.RegionHeld3
import Derived.Laws.Rows
import Derived.Lib.AppendStr
import Derived.ArgAppend
import Derived.Laws.IdiomCopy
import Derived.OrdersHeld
import Derived.Laws.BitsLemmas
import Derived.RowKit
import Derived.Shelf.Unicode.ValidAny
import Derived.Lib.ValidU
import Derived.Test.YtnggdcdiachkpaaDoorShelf
import Derived.Test.YtnggdcdiachkpaaDoorStE
import Derived.Test.YtnggdcdiachkpaaDoorStES
import Derived.Test.YtnggdcdiachkpaaDoorWAll
namespace Go.Proofs.YtnggdcdiachkpaaDoor.P
open Go.RowKit Go.Proofs.YtnggdcdiachkpaaDoorW.PrintWords Go.Proofs.YtnggdcdiachkpaaDoorW.PrintLast Go.Proofs.YtnggdcdiachkpaaDoorW.PrintMore
attribute [local go_sem] zdl min2_int zee zed zdc zdb zdn zdk   -- for this text's walks alone
set_option linter.unusedVariables false
set_option linter.unusedSimpArgs false

def errW : Option Int → Value
 | none => .nilIface
 | some c => .iface 0 (.int .i64 c)
theorem zeb : errW none = .nilIface := rfl
theorem zdy (c : Int) : errW (some c) = .iface 0 (.int .i64 c) := rfl
section
variable {P : Program} {ops : Array Oper} {Q : Exit → Act → World → Prop}
def Ext (P : Program) (f : FuncId) (args : Array Value) (w : World) (R : Ending → World → Prop) : Prop :=
 ∃ v, (callFunc f args).run P w = .ok (.value v) w ∧ R (.returned v) w
theorem Ext.mono {f : FuncId} {args : Array Value} {w : World} {R R' : Ending → World → Prop} (h : Ext P f args w R) (hr : ∀ e w', R e w' → R' e w') : Ext P f args w R' := by
 obtain ⟨v, h1, h2⟩ := h
 exact ⟨v, h1, hr _ _ h2⟩
theorem zej {rest : List Oper} {o : Oper} {a : Act} {W : World} {t : Tmp} {as_ : Array Operand} {ts : Array TypeId} (_ho : o.op = .call { callee := .value (.tmp t), args := as_, argTypes := ts }) (h : wpList P ops Q (o :: rest) a W) : wpList P ops Q (o :: rest) a W := h
theorem ziz {rest : List Oper} {oi : Oper} {a : Act} {w : World} (N : Option Tmp) (hd : oi.dst = N) (hg : oi.guard = none) {f : FuncId} {fn : Func} {c : Operand} {as_ : Array Operand} {ts : Array TypeId} (hf : P.funcs[f]? = some fn) (hname : (fn.name == "runtime.NumGoroutine") = false) (hb : fn.body.isSome = true) (args : Array Value)
  (hop : oi.op = .call { callee := .value c, args := as_, argTypes := ts }) (hc : a.eval c = .func (.func f) #[] #[]) (hargs : as_.map a.eval = args)
  (h : Calls P f args w fun e w' => ∃ v, e = .returned v ∧ wpList P ops Q rest (a.put N v) w') : wpList P ops Q (oi :: rest) a w := by
 refine wpList_plain hg fun K hK => ?_
 have he := enters_ hf hname hb args w
 have hrun : (execOp a.eval oi).run P w = .ok (.enter f args) w := by
  unfold execOp
  simp [hop, resolve, hc, Deferred.ofValue, invoke, hargs, he]
 unfold Oper.wp
 rw [hrun, Oper.upon_enter]
 refine h.mono fun e w'' hh => ?_
 obtain ⟨v, rfl, hk⟩ := hh
 subst hd
 exact hK _ _ hk
theorem goesT_ {oi : Oper} {N : Option Tmp} {a : Act} {w : World} {K : Act → World → Prop} {f : FuncId} {fn : Func} {c : Operand} {as_ : Array Operand} {ts : Array TypeId} (hf : P.funcs[f]? = some fn) (hname : (fn.name == "runtime.NumGoroutine") = false) (hb : fn.body.isSome = true) (args : Array Value)
  (hw : Region.wanted oi (yielded ops a.tmps) = true) (hN : oi.dst = N) (hop : oi.op = .call { callee := .value c, args := as_, argTypes := ts }) (hc : a.eval c = .func (.func f) #[] #[]) (hargs : as_.map a.eval = args)
  (h : Calls P f args w fun e w' => ∃ v, e = .returned v ∧ K (a.put N v) w') : if Region.wanted oi (yielded ops a.tmps) = true then Oper.wp P oi a w K Q else K (a.put N undef) w := by
 refine call_ f args hw hN ?_ h
 have he := enters_ hf hname hb args w
 unfold execOp
 simp [hop, resolve, hc, Deferred.ofValue, invoke, hargs, he]
end
theorem zgn : ∀ (x y : List UInt8), (!(Op.bytesLess x y || x == y)) = Op.bytesLess y x
 | [], [] => rfl
 | [], b :: y => rfl
 | a :: x, [] => rfl
 | a :: x, b :: y => by
  have ih := zgn x y
  simp only [Op.bytesLess]
  by_cases h : a = b
  ·subst h
   have h1 : decide (a < a) = false := by simp
   simp only [h1, Bool.false_or, beq_self_eq_true, Bool.true_and]
   rw [← ih]; simp
  ·have h2 : (a == b) = false := by simpa using h
   have h3 : (b == a) = false := by simpa using (Ne.symm h)
   have h4 : (a :: x == b :: y) = false := by simp [h]
   rw [h2, h3, h4]
   simp only [Bool.false_and, Bool.or_false]
   have : a < b ∨ b < a := by
    rcases UInt8.lt_or_lt_of_ne h with h | h
    ·exact .inl h
    ·exact .inr h
   by_cases hl : a < b
   ·have : ¬ b < a := UInt8.lt_asymm hl
    simp [hl, this]
   ·have : b < a := by rcases this with h | h; exact absurd h hl; exact h
    simp [hl, this]
@[go_sem] theorem xbinOp_string_gtr (t : TypeId) (a b : ByteArray) : binOp .gtr t (.string a) (.string b) = pure (.bool (Op.bytesLess b.toList a.toList)) := by rw [← zgn]; simp [binOp, Op.stringOp]
abbrev bN_ := @blk_drewN
abbrev bD_ := @blk_drew
abbrev bA_ := @zig
theorem qa_ {p : Prop} (h : p := by simp only [Act.put, List.setIfInBounds_toArray, List.set_cons_zero, List.set_cons_succ, zef, zen]; rfl) : p := h
def Glob (w : World) : Prop := Go.Lib.Utf8Tabs (Tryd.laysValid_ren.g 3) (Tryd.laysValid_ren.g 4) w
theorem Glob.below {w w' : World} (h : Glob w) (hb : Below w.heap.size w w') : Glob w' := Utf8Tabs_below h hb
theorem Glob.drewN {w : World} (h : Glob w) (n : Nat) : Glob (w.drewN n) := h
theorem Glob.drew {w : World} (h : Glob w) : Glob w.drew := h
theorem Glob.alloc {w : World} (h : Glob w) (o : Obj) : Glob (w.alloc o) := h.below (zbx (Below.refl _ _) o)
theorem Glob.u8 {w : World} (h : Glob w) : Go.Lib.Utf8Tabs (Tryd.laysValid_ren.g 3) (Tryd.laysValid_ren.g 4) w := h
theorem zeh (k k' : IntKind) (x y : Int) : Builtin.min2 (.int k x) (.int k' y) = pure (.int k (mn x y)) := by simp only [Builtin.min2]; rfl

theorem info48 : (Tryd.prog.info? 48).map (fun i => (i.zero, i.size, i.bytes)) = some (some (.agg #[(.int .i64 0), (.int .i64 0), (.string ⟨#[]⟩)]), 3, 32) := by kernel_rfl
theorem info54 : (Tryd.prog.info? 54).map (fun i => (i.zero, i.size, i.bytes)) = some (some (.agg #[(.slice none 0 0), (.int .i64 0)]), 2, 32) := by kernel_rfl
theorem info80 : (Tryd.prog.info? 80).map (fun i => (i.zero, i.size, i.bytes)) = some (some (.agg #[(.int .i64 0), (.int .i64 0), (.string ⟨#[]⟩), (.slice none 0 0), (.int .i64 0)]), 5, 64) := by kernel_rfl
structure S48 where
 f0 : Int
 f1 : Int
 f2 : ByteArray
def z48 : S48 := ⟨(0 : Int), (0 : Int), (⟨#[]⟩ : ByteArray)⟩
def k48 : Kd S48 := Kd.iso (Kd.pair (Kd.int .i64) (Kd.pair (Kd.int .i64) Kd.string)) (fun x : S48 => (x.f0, x.f1, x.f2))
theorem k48_heap : Kd.Heap k48 := Kd.heap_iso _ (Kd.heap_pair (Kd.heap_int .i64) (Kd.heap_pair (Kd.heap_int .i64) Kd.heap_string))
theorem k48_open {w : World} {x : S48} {cs : List Value} (h : k48.K w x cs) : cs = [.int .i64 x.f0, .int .i64 x.f1, .string x.f2] := by
 obtain ⟨_, _, rfl, rfl, ⟨_, _, rfl, rfl, rfl⟩⟩ := h
 exact rfl
theorem k48_mk (w : World) (x : S48)  : k48.K w x [.int .i64 x.f0, .int .i64 x.f1, .string x.f2] := ⟨[.int .i64 x.f0], [.int .i64 x.f1, .string x.f2], rfl, rfl, ⟨[.int .i64 x.f1], [.string x.f2], rfl, rfl, rfl⟩⟩
theorem zit (w : World) (base : Nat) (ok : Nat → Prop) (x : S48)  : k48.M w base ok x [.int .i64 x.f0, .int .i64 x.f1, .string x.f2] := ⟨[.int .i64 x.f0], [.int .i64 x.f1, .string x.f2], rfl, rfl, ⟨[.int .i64 x.f1], [.string x.f2], rfl, rfl, rfl⟩⟩
theorem k48_mkF (W : World) (ok : Nat → Prop) (x : S48) : Kd.FK k48 W ok x [.int .i64 x.f0, .int .i64 x.f1, .string x.f2] := fun W2 _ => k48_mk W2 x
def zak (xs : List S48) (i : Int) : S48 := xs.getD i.toNat z48
theorem zhz {w : World} {A : Option Addr} {n : Nat} {xs : List S48} (h : Kd.C k48 w A n xs) (i : Int) (h0 : 0 ≤ i) (h1 : i < n) : ∃ ad , A = some ad ∧ w.cell? (ad.add (i.toNat * 3)) = some (.int .i64 (zak xs i).f0) ∧ w.cell? ⟨(ad.add (i.toNat * 3)).block, (ad.add (i.toNat * 3)).off + 1, none⟩ = some (.int .i64 (zak xs i).f1) ∧ w.cell? ⟨(ad.add (i.toNat * 3)).block, (ad.add (i.toNat * 3)).off + 2, none⟩ = some (.string (zak xs i).f2) := by
 obtain ⟨ad, c, e, _, hK, hc0⟩ := Kd.C_get h z48 i h0 h1
 have hc : ∀ j u, c[j]? = some u → w.cell? (ad.add (i.toNat * 3 + j)) = some u := hc0
 obtain rfl := k48_open hK
 exact ⟨ad, e, hc 0 _ rfl, by rw [← zek _ _ 1 (by omega)]; exact hc 1 _ rfl, by rw [← zek _ _ 2 (by omega)]; exact hc 2 _ rfl⟩

def rd_L3 (xs : List (List S48)) (i : Int) : (List S48) := xs.getD i.toNat ([] : List S48)
structure S54 where
 f0 : (List S48)
 f1 : Int
def z54 : S54 := ⟨([] : List S48), (0 : Int)⟩
def k54 : Kd S54 := Kd.iso (Kd.pair (Kd.slice 48 k48) (Kd.int .i64)) (fun x : S54 => (x.f0, x.f1))
theorem zgm : Kd.Heap k54 := Kd.heap_iso _ (Kd.heap_pair (Kd.heap_slice 48 k48_heap) (Kd.heap_int .i64))
theorem zhw {w : World} {x : S54} {cs : List Value} (h : k54.K w x cs) : ∃ A0 c0, cs = [.slice A0 x.f0.length c0, .int .i64 x.f1] ∧ x.f0.length ≤ c0 ∧ k48.C w A0 x.f0.length x.f0 := by
 obtain ⟨_, _, rfl, ⟨A0, c0, rfl, l0, g0⟩, rfl⟩ := h
 exact ⟨A0, c0, rfl, l0, g0⟩
theorem k54_mk (w : World) (x : S54) {A0 : Option Addr} {c0 : Nat} (l0 : x.f0.length ≤ c0) (g0 : k48.C w A0 x.f0.length x.f0) : k54.K w x [.slice A0 x.f0.length c0, .int .i64 x.f1] := ⟨[.slice A0 x.f0.length c0], [.int .i64 x.f1], rfl, ⟨A0, c0, rfl, l0, g0⟩, rfl⟩
theorem k54_mkM (w : World) (base : Nat) (ok : Nat → Prop) (x : S54) {v0 : Value} (g0 : k48.R 48 w base ok v0 x.f0) : k54.M w base ok x [v0, .int .i64 x.f1] := ⟨[v0], [.int .i64 x.f1], rfl, ⟨v0, rfl, g0⟩, rfl⟩
theorem zhs {W : World} {ok : Nat → Prop} {x : S54} {cs : List Value} (h : Kd.FK k54 W ok x cs) : ∃ A0 c0, cs = [.slice A0 x.f0.length c0, .int .i64 x.f1] ∧ x.f0.length ≤ c0 ∧ Kd.F k48 W ok A0 x.f0.length x.f0 := by
 obtain ⟨A0, c0, rfl, l0, _⟩ := zhw (Kd.zgw h)
 exact ⟨A0, c0, rfl, l0, (fun W' hW => by obtain ⟨A0_, c0_, he, l0_, g0_⟩ := zhw (h W' hW); injection (Option.some.inj (show some (Value.slice A0 x.f0.length c0) = some (Value.slice A0_ x.f0.length c0_) from congrArg (fun l => l[0]?) he)) with ha_ _ _; rw [ha_]; exact g0_)⟩
theorem ziu (W : World) (ok : Nat → Prop) (x : S54) {A0 : Option Addr} {c0 : Nat} (l0 : x.f0.length ≤ c0) (g0 : Kd.F k48 W ok A0 x.f0.length x.f0) : Kd.FK k54 W ok x [.slice A0 x.f0.length c0, .int .i64 x.f1] := fun W2 hW => k54_mk W2 x l0 (g0 W2 hW)
def zah (xs : List S54) (i : Int) : S54 := xs.getD i.toNat z54
theorem zfw {w : World} {A : Option Addr} {n : Nat} {xs : List S54} (h : Kd.C k54 w A n xs) (i : Int) (h0 : 0 ≤ i) (h1 : i < n) : ∃ ad A0 c0, A = some ad ∧ w.cell? (ad.add (i.toNat * 2)) = some (.slice A0 (zah xs i).f0.length c0) ∧ w.cell? ⟨(ad.add (i.toNat * 2)).block, (ad.add (i.toNat * 2)).off + 1, none⟩ = some (.int .i64 (zah xs i).f1) ∧ (zah xs i).f0.length ≤ c0 ∧ k48.C w A0 (zah xs i).f0.length (zah xs i).f0 := by
 obtain ⟨ad, c, e, _, hK, hc0⟩ := Kd.C_get h z54 i h0 h1
 have hc : ∀ j u, c[j]? = some u → w.cell? (ad.add (i.toNat * 2 + j)) = some u := hc0
 obtain ⟨A0, c0, rfl, l0, g0⟩ := zhw hK
 exact ⟨ad, A0, c0, e, hc 0 _ rfl, by rw [← zek _ _ 1 (by omega)]; exact hc 1 _ rfl, l0, g0⟩
structure S50 where
 f0 : Int
 f1 : Int
 f2 : S48
def z50 : S50 := ⟨(0 : Int), (0 : Int), z48⟩
def k50 : Kd S50 := Kd.iso (Kd.pair (Kd.int .i64) (Kd.pair (Kd.int .i64) k48)) (fun x : S50 => (x.f0, x.f1, x.f2))
theorem k50_open {w : World} {x : S50} {cs : List Value} (h : k50.K w x cs) : cs = [.int .i64 x.f0, .int .i64 x.f1, .int .i64 x.f2.f0, .int .i64 x.f2.f1, .string x.f2.f2] := by
 obtain ⟨_, _, rfl, rfl, ⟨_, _, rfl, rfl, s2⟩⟩ := h
 obtain rfl := k48_open s2
 exact rfl
theorem k50_mkM (w : World) (base : Nat) (ok : Nat → Prop) (x : S50)  : k50.M w base ok x [.int .i64 x.f0, .int .i64 x.f1, .int .i64 x.f2.f0, .int .i64 x.f2.f1, .string x.f2.f2] := ⟨[.int .i64 x.f0], [.int .i64 x.f1, .int .i64 x.f2.f0, .int .i64 x.f2.f1, .string x.f2.f2], rfl, rfl, ⟨[.int .i64 x.f1], [.int .i64 x.f2.f0, .int .i64 x.f2.f1, .string x.f2.f2], rfl, rfl, (zit w base ok x.f2 )⟩⟩
def zan (xs : List S50) (i : Int) : S50 := xs.getD i.toNat z50
theorem at_T50 {w : World} {A : Option Addr} {n : Nat} {xs : List S50} (h : Kd.C k50 w A n xs) (i : Int) (h0 : 0 ≤ i) (h1 : i < n) : ∃ ad , A = some ad ∧ w.cell? (ad.add (i.toNat * 5)) = some (.int .i64 (zan xs i).f0) ∧ w.cell? ⟨(ad.add (i.toNat * 5)).block, (ad.add (i.toNat * 5)).off + 1, none⟩ = some (.int .i64 (zan xs i).f1) ∧ w.cell? ⟨(ad.add (i.toNat * 5)).block, (ad.add (i.toNat * 5)).off + 2, none⟩ = some (.int .i64 (zan xs i).f2.f0) ∧ w.cell? ⟨(ad.add (i.toNat * 5)).block, (ad.add (i.toNat * 5)).off + 3, none⟩ = some (.int .i64 (zan xs i).f2.f1) ∧ w.cell? ⟨(ad.add (i.toNat * 5)).block, (ad.add (i.toNat * 5)).off + 4, none⟩ = some (.string (zan xs i).f2.f2) := by
 obtain ⟨ad, c, e, _, hK, hc0⟩ := Kd.C_get h z50 i h0 h1
 have hc : ∀ j u, c[j]? = some u → w.cell? (ad.add (i.toNat * 5 + j)) = some u := hc0
 obtain rfl := k50_open hK
 exact ⟨ad, e, hc 0 _ rfl, by rw [← zek _ _ 1 (by omega)]; exact hc 1 _ rfl, by rw [← zek _ _ 2 (by omega)]; exact hc 2 _ rfl, by rw [← zek _ _ 3 (by omega)]; exact hc 3 _ rfl, by rw [← zek _ _ 4 (by omega)]; exact hc 4 _ rfl⟩

def zje (xs : List (List S50)) (i : Int) : (List S50) := xs.getD i.toNat ([] : List S50)
theorem at_L6 {w : World} {A : Option Addr} {n : Nat} {xs : List (List S50)} (h : Kd.C (Kd.slice 50 k50) w A n xs) (i : Int) (h0 : 0 ≤ i) (h1 : i < n) : ∃ ad A0 c0, A = some ad ∧ w.cell? (ad.add i.toNat) = some (.slice A0 (zje xs i).length c0) ∧ (zje xs i).length ≤ c0 ∧ k50.C w A0 (zje xs i).length (zje xs i) := by
 obtain ⟨ad, c, e, _, hK, hc0⟩ := Kd.C_get h ([] : List S50) i h0 h1
 have hc : ∀ j u, c[j]? = some u → w.cell? (ad.add (i.toNat * 1 + j)) = some u := hc0
 obtain ⟨A0, c0, rfl, l0, g0⟩ := hK
 exact ⟨ad, A0, c0, e, by have hq := hc 0 _ rfl; rwa [Nat.mul_one, Nat.add_zero] at hq, l0, g0⟩

def zie (xs : List (List S54)) (i : Int) : (List S54) := xs.getD i.toNat ([] : List S54)
theorem at_L7 {w : World} {A : Option Addr} {n : Nat} {xs : List (List S54)} (h : Kd.C (Kd.slice 54 k54) w A n xs) (i : Int) (h0 : 0 ≤ i) (h1 : i < n) : ∃ ad A0 c0, A = some ad ∧ w.cell? (ad.add i.toNat) = some (.slice A0 (zie xs i).length c0) ∧ (zie xs i).length ≤ c0 ∧ k54.C w A0 (zie xs i).length (zie xs i) := by
 obtain ⟨ad, c, e, _, hK, hc0⟩ := Kd.C_get h ([] : List S54) i h0 h1
 have hc : ∀ j u, c[j]? = some u → w.cell? (ad.add (i.toNat * 1 + j)) = some u := hc0
 obtain ⟨A0, c0, rfl, l0, g0⟩ := hK
 exact ⟨ad, A0, c0, e, by have hq := hc 0 _ rfl; rwa [Nat.mul_one, Nat.add_zero] at hq, l0, g0⟩
structure S150 where
 f0 : Int
 f1 : Int
def z150 : S150 := ⟨(0 : Int), (0 : Int)⟩
def k150 : Kd S150 := Kd.iso (Kd.pair (Kd.int .i64) (Kd.int .i64)) (fun x : S150 => (x.f0, x.f1))
def rd_T150 (xs : List S150) (i : Int) : S150 := xs.getD i.toNat z150
structure S80 where
 f0 : S48
 f1 : S54
def z80 : S80 := ⟨z48, z54⟩
def k80 : Kd S80 := Kd.iso (Kd.pair k48 k54) (fun x : S80 => (x.f0, x.f1))
theorem k80_open {w : World} {x : S80} {cs : List Value} (h : k80.K w x cs) : ∃ A3 c3, cs = [.int .i64 x.f0.f0, .int .i64 x.f0.f1, .string x.f0.f2, .slice A3 x.f1.f0.length c3, .int .i64 x.f1.f1] ∧ x.f1.f0.length ≤ c3 ∧ k48.C w A3 x.f1.f0.length x.f1.f0 := by
 obtain ⟨_, _, rfl, s0, s3⟩ := h
 obtain rfl := k48_open s0
 obtain ⟨A3, c3, rfl, l3, g3⟩ := zhw s3
 exact ⟨A3, c3, rfl, l3, g3⟩
theorem k80_mk (w : World) (x : S80) {A3 : Option Addr} {c3 : Nat} (l3 : x.f1.f0.length ≤ c3) (g3 : k48.C w A3 x.f1.f0.length x.f1.f0) : k80.K w x [.int .i64 x.f0.f0, .int .i64 x.f0.f1, .string x.f0.f2, .slice A3 x.f1.f0.length c3, .int .i64 x.f1.f1] := ⟨[.int .i64 x.f0.f0, .int .i64 x.f0.f1, .string x.f0.f2], [.slice A3 x.f1.f0.length c3, .int .i64 x.f1.f1], rfl, (k48_mk w x.f0 ), (k54_mk w x.f1 l3 g3)⟩
theorem k80_openF {W : World} {ok : Nat → Prop} {x : S80} {cs : List Value} (h : Kd.FK k80 W ok x cs) : ∃ A3 c3, cs = [.int .i64 x.f0.f0, .int .i64 x.f0.f1, .string x.f0.f2, .slice A3 x.f1.f0.length c3, .int .i64 x.f1.f1] ∧ x.f1.f0.length ≤ c3 ∧ Kd.F k48 W ok A3 x.f1.f0.length x.f1.f0 := by
 obtain ⟨A3, c3, rfl, l3, _⟩ := k80_open (Kd.zgw h)
 exact ⟨A3, c3, rfl, l3, (fun W' hW => by obtain ⟨A3_, c3_, he, l3_, g3_⟩ := k80_open (h W' hW); injection (Option.some.inj (show some (Value.slice A3 x.f1.f0.length c3) = some (Value.slice A3_ x.f1.f0.length c3_) from congrArg (fun l => l[3]?) he)) with ha_ _ _; rw [ha_]; exact g3_)⟩
theorem k80_mkF (W : World) (ok : Nat → Prop) (x : S80) {A3 : Option Addr} {c3 : Nat} (l3 : x.f1.f0.length ≤ c3) (g3 : Kd.F k48 W ok A3 x.f1.f0.length x.f1.f0) : Kd.FK k80 W ok x [.int .i64 x.f0.f0, .int .i64 x.f0.f1, .string x.f0.f2, .slice A3 x.f1.f0.length c3, .int .i64 x.f1.f1] := fun W2 hW => k80_mk W2 x l3 (g3 W2 hW)
def zat (xs : List S80) (i : Int) : S80 := xs.getD i.toNat z80
theorem at_T80 {w : World} {A : Option Addr} {n : Nat} {xs : List S80} (h : Kd.C k80 w A n xs) (i : Int) (h0 : 0 ≤ i) (h1 : i < n) : ∃ ad A3 c3, A = some ad ∧ w.cell? (ad.add (i.toNat * 5)) = some (.int .i64 (zat xs i).f0.f0) ∧ w.cell? ⟨(ad.add (i.toNat * 5)).block, (ad.add (i.toNat * 5)).off + 1, none⟩ = some (.int .i64 (zat xs i).f0.f1) ∧ w.cell? ⟨(ad.add (i.toNat * 5)).block, (ad.add (i.toNat * 5)).off + 2, none⟩ = some (.string (zat xs i).f0.f2) ∧ w.cell? ⟨(ad.add (i.toNat * 5)).block, (ad.add (i.toNat * 5)).off + 3, none⟩ = some (.slice A3 (zat xs i).f1.f0.length c3) ∧ w.cell? ⟨(ad.add (i.toNat * 5)).block, (ad.add (i.toNat * 5)).off + 4, none⟩ = some (.int .i64 (zat xs i).f1.f1) ∧ (zat xs i).f1.f0.length ≤ c3 ∧ k48.C w A3 (zat xs i).f1.f0.length (zat xs i).f1.f0 := by
 obtain ⟨ad, c, e, _, hK, hc0⟩ := Kd.C_get h z80 i h0 h1
 have hc : ∀ j u, c[j]? = some u → w.cell? (ad.add (i.toNat * 5 + j)) = some u := hc0
 obtain ⟨A3, c3, rfl, l3, g3⟩ := k80_open hK
 exact ⟨ad, A3, c3, e, hc 0 _ rfl, by rw [← zek _ _ 1 (by omega)]; exact hc 1 _ rfl, by rw [← zek _ _ 2 (by omega)]; exact hc 2 _ rfl, by rw [← zek _ _ 3 (by omega)]; exact hc 3 _ rfl, by rw [← zek _ _ 4 (by omega)]; exact hc 4 _ rfl, l3, g3⟩

def rd_L11 (xs : List (List S80)) (i : Int) : (List S80) := xs.getD i.toNat ([] : List S80)
def rd_L12 (xs : List (List (List S48))) (i : Int) : (List (List S48)) := xs.getD i.toNat ([] : List (List S48))
def rd_L13 (xs : List (List (List S54))) (i : Int) : (List (List S54)) := xs.getD i.toNat ([] : List (List S54))
def rd_L14 (xs : List (List Int)) (i : Int) : (List Int) := xs.getD i.toNat ([] : List Int)
def rd_L15 (xs : List (List (List S50))) (i : Int) : (List (List S50)) := xs.getD i.toNat ([] : List (List S50))
def rd_L16 (xs : List (List S150)) (i : Int) : (List S150) := xs.getD i.toNat ([] : List S150)
structure S27 where
 f0 : ByteArray
 f1 : ByteArray
 f2 : (List Int)
 f3 : (List S50)
 f4 : (List (List S50))
 f5 : (List Int)
 f6 : (List S150)
def z27 : S27 := ⟨(⟨#[]⟩ : ByteArray), (⟨#[]⟩ : ByteArray), ([] : List Int), ([] : List S50), ([] : List (List S50)), ([] : List Int), ([] : List S150)⟩
def k27 : Kd S27 := Kd.iso (Kd.pair Kd.string (Kd.pair Kd.string (Kd.pair (Kd.slice 3 (Kd.int .i64)) (Kd.pair (Kd.slice 50 k50) (Kd.pair (Kd.slice 23 (Kd.slice 50 k50)) (Kd.pair (Kd.slice 3 (Kd.int .i64)) (Kd.slice 150 k150))))))) (fun x : S27 => (x.f0, x.f1, x.f2, x.f3, x.f4, x.f5, x.f6))
theorem k27_open {w : World} {x : S27} {cs : List Value} (h : k27.K w x cs) : ∃ A2 c2 A3 c3 A4 c4 A5 c5 A6 c6, cs = [.string x.f0, .string x.f1, .slice A2 x.f2.length c2, .slice A3 x.f3.length c3, .slice A4 x.f4.length c4, .slice A5 x.f5.length c5, .slice A6 x.f6.length c6] ∧ x.f2.length ≤ c2 ∧ (Kd.int .i64).C w A2 x.f2.length x.f2 ∧ x.f3.length ≤ c3 ∧ k50.C w A3 x.f3.length x.f3 ∧ x.f4.length ≤ c4 ∧ (Kd.slice 50 k50).C w A4 x.f4.length x.f4 ∧ x.f5.length ≤ c5 ∧ (Kd.int .i64).C w A5 x.f5.length x.f5 ∧ x.f6.length ≤ c6 ∧ k150.C w A6 x.f6.length x.f6 := by
 obtain ⟨_, _, rfl, rfl, ⟨_, _, rfl, rfl, ⟨_, _, rfl, ⟨A2, c2, rfl, l2, g2⟩, ⟨_, _, rfl, ⟨A3, c3, rfl, l3, g3⟩, ⟨_, _, rfl, ⟨A4, c4, rfl, l4, g4⟩, ⟨_, _, rfl, ⟨A5, c5, rfl, l5, g5⟩, ⟨A6, c6, rfl, l6, g6⟩⟩⟩⟩⟩⟩⟩ := h
 exact ⟨A2, c2, A3, c3, A4, c4, A5, c5, A6, c6, rfl, l2, g2, l3, g3, l4, g4, l5, g5, l6, g6⟩
def rd_T27 (xs : List S27) (i : Int) : S27 := xs.getD i.toNat z27
/-! tighter words, two -/
abbrev bz (n k : Nat) : Array Bool := ⟨List.replicate k true ++ List.replicate (n - k) false⟩
abbrev sb_ (l : Array Bool) (i : Nat) : Array Bool := l.setIfInBounds i true
theorem bq_ {a b : Int} (h : a = b) : (a == b) = true := beq_iff_eq.mpr h
theorem bq0_ {a b : Int} (h : a = b) : (a != b) = false := bne_eq_false_iff_eq.mpr h
theorem bn_ {a b : Int} (h : ¬ a = b) : (a == b) = false := beq_eq_false_iff_ne.mpr h
theorem bn1_ {a b : Int} (h : ¬ a = b) : (a != b) = true := bne_iff_ne.mpr h
theorem kq_ {p : Prop} (h : p := by have := HK1.out; omega) : p := h
theorem dB_ {w : World} {g : Nat} {o : Obj} (h : zag (w.heap[g]? = some o)) : zag (w.drew.heap[g]? = some o) := ⟨blk_drew h.out⟩
theorem ak_ {p : Prop} (h : p) : zag p := ⟨h⟩
theorem bb_ {w w1 : World} {g : Nat} {o : Obj} (h : w.heap[g]? = some o) (hb : Below w.heap.size w w1) : zag (w1.heap[g]? = some o) := ⟨zdj h hb⟩
theorem bs_ {w W w2 : World} (k : Below W.heap.size W w2) (h : Below w.heap.size w W := by repeat (first | (with_reducible first | exact HB.out | apply zbx | apply zbr | apply zbh | refine zcj ?_ (zag.out (by assumption))) | exact HB.out)) : zag (Below w.heap.size w w2) := ⟨below_step h k⟩
theorem ba_ {w w1 : World} {m g : Nat} {o : Obj} (hq : w.drewN m = w1) (h : w.heap[g]? = some o) : zag (w1.heap[g]? = some o) := ⟨by subst hq; exact h⟩
theorem ne_ {a b : Nat} (h : zag (a ≠ b)) : zag (b ≠ a) := ⟨fun e => h.out e.symm⟩
theorem cx_ {α : Type} {d : Kd α} {w W : World} {A : Option Addr} {n : Nat} {xs : List α} (h : d.C w A n xs) (hb : Below w.heap.size w W := by repeat (first | exact Below.refl _ _ | (with_reducible first | apply zbx | apply zbr | apply zbh))) : d.C W A n xs := Kd.zam h hb
section
variable {P : Program} {ops : Array Oper} {Q : Exit → Act → World → Prop} {md : Region.Mode} {S : World → Prop} {ds : List Nat}
theorem bx_ {rest : List Oper} {o : Oper} {a : Act} {W : World} (N : Tmp) (cs : Array Value) (t : TypeId)
  (h : ∀ g, g = W.heap.size → ∀ w1, w1.heap[g]? = some (.cells cs t (0, 0)) → Below W.heap.size W w1 → wpList P ops Q rest (a.put o.dst (.pointer (some ⟨g, 0, none⟩))) w1)
  (hd : o.dst = some N := by rfl) (hgd : o.guard = none := by rfl)
  (hrun : (execOp a.eval o).run P W = .ok (.value (.pointer (some ⟨W.heap.size, 0, none⟩))) (W.alloc (.cells cs t (0, 0))) := by first | (go_simp; done) | (go_simp; rfl)) : wpList P ops Q (o :: rest) a W :=
 box_event hgd hd hrun h
theorem gl_ {rest : List Oper} {oi : Oper} {a : Act} {w : World} (N : Nat) {f : FuncId} {fn : Func} {as_ : Array Operand} {ts : Array TypeId} (hf : P.funcs[f]? = some fn) (args : Array Value)
  (h : Calls P f args w fun e w' => ∃ v, e = .returned v ∧ wpList P ops Q rest (a.put (some N) v) w')
  (hd : oi.dst = some N := by rfl) (hg : oi.guard = none := by rfl) (hname : (fn.name == "runtime.NumGoroutine") = false := by kernel_rfl) (hb : fn.body.isSome = true := by rfl)
  (hop : oi.op = .call { callee := .value (.func f), args := as_, argTypes := ts } := by rfl) (hargs : as_.map a.eval = args := by exact q2_) : wpList P ops Q (oi :: rest) a w :=
 goesL_ (some N) hd hg hf hname hb args hop hargs h
theorem go1_ {oi : Oper} {N : Option Tmp} {a : Act} {w : World} {K : Act → World → Prop} {f : FuncId} {fn : Func} {as_ : Array Operand} {ts : Array TypeId} (hf : P.funcs[f]? = some fn) (args : Array Value)
  (h : Calls P f args w fun e w' => ∃ v, e = .returned v ∧ K (a.put N v) w')
  (hname : (fn.name == "runtime.NumGoroutine") = false := by kernel_rfl) (hb : fn.body.isSome = true := by rfl) (hw : Region.wanted oi (yielded ops a.tmps) = true := by rfl) (hN : oi.dst = N := by rfl)
  (hop : oi.op = .call { callee := .value (.func f), args := as_, argTypes := ts } := by rfl) (hargs : as_.map a.eval = args := by exact q2_) : if Region.wanted oi (yielded ops a.tmps) = true then Oper.wp P oi a w K Q else K (a.put N undef) w :=
 goes_ hf hname hb args hw hN hop hargs h
theorem pz_ (i N : Nat) {oi : Oper} {v : Value} {fuel : Nat} {l : Array Bool} {a : Act} {w : World} (l' : Array Bool) {a' : Act} (h : zbq P md ops Q S ds fuel l' a' w)
  (hi : ops[i]? = some oi := by rfl) (hN : oi.dst = some N := by rfl) (hc : anyB md ops l l' i = true := by exact any_of HT_.out (by kernel_rfl)) (hQ : ∀ c a w, Q (.panic c) (a.put oi.dst v) w → Q (.panic c) a w := by exact fun _ _ _ h => h)
  (hg : Region.wanted oi (yielded ops a.tmps) = true := by rfl) (hy : ∀ w', (execOp a.eval oi).run P w' = .ok (.value v) w' := by intro w'; go_simp; with_reducible rfl) (ha : a.put (some N) v = a' := by exact qa_) : zbq P md ops Q S ds (fuel + 1) l a w :=
 pure_ l' hi hN hc hQ (Or.inl ⟨hg, hy⟩) ha h
theorem oz_ (i : Nat) (N : Option Tmp) {oi : Oper} {fuel : Nat} {l : Array Bool} {a : Act} {w : World} (l' : Array Bool)
  (h : ∀ K : Act → World → Prop, Shut (∀ a' w', S w' → (S w' → zbq P md ops Q S ds fuel l' a' w') → K a' w') → if Region.wanted oi (yielded ops a.tmps) = true then Oper.wp P oi a w K Q else K (a.put N undef) w)
  (hi : ops[i]? = some oi := by rfl) (hN : oi.dst = N := by rfl) (hc : readyB md ops l l' i = true := by exact one_of HT_.out (by kernel_rfl)) (hd : i ∉ ds := by decide) : zbq P md ops Q S ds (fuel + 1) l a w := one_ l' hi hN hc hd h
end
theorem nl_ {w : World} {g g' : Nat} {o : Obj} (hg : g' = w.heap.size) (h : w.heap[g]? = some o) : zag (g ≠ g') := ⟨by rw [hg]; exact Nat.ne_of_lt (blk_lt h)⟩
theorem hc_ {w w1 w2 : World} {a : Addr} {v : Value} (hb : Below w.heap.size w w1) (h : w.cell? a = some v) (e : w2.cell? a = w1.cell? a := by rfl) : w2.cell? a = some v := e.trans ((hb.cell (World.block_lt_of_cell? w _ h)).trans h)
theorem bt_ {w : World} {g : Nat} {t : TypeId} {cs : Array Value} {v : Value} (h : w.heap[g]? = some (.cells cs t (0, 0))) (i : Nat) (e : cs[i]? = some v := by rfl) : w.cell? ⟨g, i, none⟩ = some v := (zco h i).trans e
theorem bp_ {w : World} {g i : Nat} {t : TypeId} {cs cs' : Array Value} {u : Value} (h : w.heap[g]? = some (.cells cs t (0, 0))) (e : cs.setIfInBounds i u = cs' := by rfl) : (w.setCell ⟨g, i, none⟩ u).heap[g]? = some (.cells cs' t (0, 0)) := zcm h i u e
section
variable {P : Program} {ops : Array Oper} {Q : Exit → Act → World → Prop} {md : Region.Mode} {S : World → Prop} {ds : List Nat}
theorem gd_ {rest : List Oper} {o : Oper} {a : Act} {W : World} (N : Tmp) (_h : o.dst = some N) (h : wpList P ops Q (o :: rest) a W) : wpList P ops Q (o :: rest) a W := h
theorem gc_ {rest : List Oper} {o : Oper} {a : Act} {W : World} (f : FuncId) {as_ : Array Operand} {ts : Array TypeId} (_h : o.op = .call { callee := .value (.func f), args := as_, argTypes := ts }) (h : wpList P ops Q (o :: rest) a W) : wpList P ops Q (o :: rest) a W := h
theorem pu_ (i N : Nat) {oi : Oper} {fuel : Nat} {l : Array Bool} {a : Act} {w : World} (l' : Array Bool) {a' : Act} (h : zbq P md ops Q S ds fuel l' a' w)
  (hi : ops[i]? = some oi := by rfl) (hN : oi.dst = some N := by rfl) (hc : anyB md ops l l' i = true := by exact any_of HT_.out (by kernel_rfl)) (hQ : ∀ c a w, Q (.panic c) (a.put oi.dst undef) w → Q (.panic c) a w := by exact fun _ _ _ h => h)
  (hg : Region.wanted oi (yielded ops a.tmps) = false := by rfl) (ha : a.put (some N) undef = a' := by exact qa_) : zbq P md ops Q S ds (fuel + 1) l a w :=
 pure_ l' hi hN hc hQ (Or.inr ⟨hg, rfl⟩) ha h
theorem nz_ {fuel : Nat} {l : Array Bool} {a a' : Act} {w : World} (h : zbq P md ops Q S ds fuel l a' w) (ha : a = a' := by show Act.put _ (some _) _ = _; simp only [Act.put, List.setIfInBounds_toArray, List.set_cons_zero, List.set_cons_succ, zef, zen]; rfl) : zbq P md ops Q S ds fuel l a w := norm_ ha h
end
theorem np_ {a b : Nat} (h : zag (a ≠ b)) : a ≠ b ∧ b ≠ a := ⟨h.out, fun e => h.out e.symm⟩
section
variable {α : Type} {d : Kd α} {e base g : Nat} {ok : Nat → Prop} {w w1 : World} {v : Value} {xs : List α}
theorem Nb_ (h : Kd.N d e w base ok v xs) (hb : Below w.heap.size w w1) : zag (Kd.N d e w1 base ok v xs) := ⟨Kd.zka h hb⟩
theorem Vb_ (h : Kd.V d e w base ok v xs) (hb : Below w.heap.size w w1) : zag (Kd.V d e w1 base ok v xs) := ⟨Kd.V_below h hb⟩
theorem Rb_ (h : Kd.R d e w base ok v xs) (hb : Below w.heap.size w w1) : zag (Kd.R d e w1 base ok v xs) := ⟨Kd.R_below h hb⟩
theorem Cb_ {A : Option Addr} {n : Nat} (h : Kd.C d w A n xs) (hb : Below w.heap.size w w1) : zag (Kd.C d w1 A n xs) := ⟨Kd.zam h hb⟩
theorem Ne_ (h : Kd.N d e w base ok v xs) (hg : g = w.heap.size) (hb : Below w.heap.size w w1) : zag (Kd.N d e w1 base (fun k => ok k ∧ k ≠ g) v xs) := ⟨Kd.zka (Kd.N_elderB h g (Nat.le_of_eq hg.symm)) hb⟩
theorem Ve_ (h : Kd.V d e w base ok v xs) (hg : g = w.heap.size) (hb : Below w.heap.size w w1) : zag (Kd.V d e w1 base (fun k => ok k ∧ k ≠ g) v xs) := ⟨Kd.V_below (Kd.V_elderB h g (Nat.le_of_eq hg.symm)) hb⟩
theorem Re_ (h : Kd.R d e w base ok v xs) (hg : g = w.heap.size) (hb : Below w.heap.size w w1) : zag (Kd.R d e w1 base (fun k => ok k ∧ k ≠ g) v xs) := ⟨Kd.R_below (Kd.R_elderB h g (Nat.le_of_eq hg.symm)) hb⟩
theorem Nf_ {i : Nat} {u : Value} (h : Kd.N d e w base ok v xs) (hf : ∀ k, ok k → k ≠ g := by exact fun _ hk => hk.2) : Kd.N d e (w.setCell ⟨g, i, none⟩ u) base ok v xs := Kd.N_far (p := ⟨g, i, none⟩) h hf u
theorem Vf_ {i : Nat} {u : Value} (h : Kd.V d e w base ok v xs) (hf : ∀ k, ok k → k ≠ g := by exact fun _ hk => hk.2) : Kd.V d e (w.setCell ⟨g, i, none⟩ u) base ok v xs := Kd.V_far (p := ⟨g, i, none⟩) h hf u
theorem Rf_ {i : Nat} {u : Value} (h : Kd.R d e w base ok v xs) (hf : ∀ k, ok k → k ≠ g := by exact fun _ hk => hk.2) : Kd.R d e (w.setCell ⟨g, i, none⟩ u) base ok v xs := Kd.R_far (p := ⟨g, i, none⟩) h hf u
end
theorem bc2_ {w : World} {g : Nat} {t : TypeId} {c0 c1 : Value} (h : w.heap[g]? = some (.cells #[c0, c1] t (0, 0))) : w.cell? ⟨g, 0, none⟩ = some c0 ∧ w.cell? ⟨g, 1, none⟩ = some c1 ∧ w.frozen? ⟨g, 0, none⟩ = false ∧ w.frozen? ⟨g, 1, none⟩ = false := ⟨(zco h 0).trans rfl, (zco h 1).trans rfl, zaq h 0, zaq h 1⟩
theorem bc3_ {w : World} {g : Nat} {t : TypeId} {c0 c1 c2 : Value} (h : w.heap[g]? = some (.cells #[c0, c1, c2] t (0, 0))) : w.cell? ⟨g, 0, none⟩ = some c0 ∧ w.cell? ⟨g, 1, none⟩ = some c1 ∧ w.cell? ⟨g, 2, none⟩ = some c2 ∧ w.frozen? ⟨g, 0, none⟩ = false ∧ w.frozen? ⟨g, 1, none⟩ = false ∧ w.frozen? ⟨g, 2, none⟩ = false := ⟨(zco h 0).trans rfl, (zco h 1).trans rfl, (zco h 2).trans rfl, zaq h 0, zaq h 1, zaq h 2⟩
theorem bc5_ {w : World} {g : Nat} {t : TypeId} {c0 c1 c2 c3 c4 : Value} (h : w.heap[g]? = some (.cells #[c0, c1, c2, c3, c4] t (0, 0))) : w.cell? ⟨g, 0, none⟩ = some c0 ∧ w.cell? ⟨g, 1, none⟩ = some c1 ∧ w.cell? ⟨g, 2, none⟩ = some c2 ∧ w.cell? ⟨g, 3, none⟩ = some c3 ∧ w.cell? ⟨g, 4, none⟩ = some c4 ∧ w.frozen? ⟨g, 0, none⟩ = false ∧ w.frozen? ⟨g, 1, none⟩ = false ∧ w.frozen? ⟨g, 2, none⟩ = false ∧ w.frozen? ⟨g, 3, none⟩ = false ∧ w.frozen? ⟨g, 4, none⟩ = false := ⟨(zco h 0).trans rfl, (zco h 1).trans rfl, (zco h 2).trans rfl, (zco h 3).trans rfl, (zco h 4).trans rfl, zaq h 0, zaq h 1, zaq h 2, zaq h 3, zaq h 4⟩
theorem bc7_ {w : World} {g : Nat} {t : TypeId} {c0 c1 c2 c3 c4 c5 c6 : Value} (h : w.heap[g]? = some (.cells #[c0, c1, c2, c3, c4, c5, c6] t (0, 0))) : w.cell? ⟨g, 0, none⟩ = some c0 ∧ w.cell? ⟨g, 1, none⟩ = some c1 ∧ w.cell? ⟨g, 2, none⟩ = some c2 ∧ w.cell? ⟨g, 3, none⟩ = some c3 ∧ w.cell? ⟨g, 4, none⟩ = some c4 ∧ w.cell? ⟨g, 5, none⟩ = some c5 ∧ w.cell? ⟨g, 6, none⟩ = some c6 ∧ w.frozen? ⟨g, 0, none⟩ = false ∧ w.frozen? ⟨g, 1, none⟩ = false ∧ w.frozen? ⟨g, 2, none⟩ = false ∧ w.frozen? ⟨g, 3, none⟩ = false ∧ w.frozen? ⟨g, 4, none⟩ = false ∧ w.frozen? ⟨g, 5, none⟩ = false ∧ w.frozen? ⟨g, 6, none⟩ = false := ⟨(zco h 0).trans rfl, (zco h 1).trans rfl, (zco h 2).trans rfl, (zco h 3).trans rfl, (zco h 4).trans rfl, (zco h 5).trans rfl, (zco h 6).trans rfl, zaq h 0, zaq h 1, zaq h 2, zaq h 3, zaq h 4, zaq h 5, zaq h 6⟩
theorem bs2_ {w w' : World} {g : Nat} {t : TypeId} {c0 c1 : Value} (h : w.heap[g]? = some (.cells #[c0, c1] t (0, 0))) (e : w'.heap = w.heap := by rfl) : w'.cell? ⟨g, 0, none⟩ = some c0 ∧ w'.cell? ⟨g, 1, none⟩ = some c1 := ⟨(zco (e ▸ h) 0).trans rfl, (zco (e ▸ h) 1).trans rfl⟩
theorem bs3_ {w w' : World} {g : Nat} {t : TypeId} {c0 c1 c2 : Value} (h : w.heap[g]? = some (.cells #[c0, c1, c2] t (0, 0))) (e : w'.heap = w.heap := by rfl) : w'.cell? ⟨g, 0, none⟩ = some c0 ∧ w'.cell? ⟨g, 1, none⟩ = some c1 ∧ w'.cell? ⟨g, 2, none⟩ = some c2 := ⟨(zco (e ▸ h) 0).trans rfl, (zco (e ▸ h) 1).trans rfl, (zco (e ▸ h) 2).trans rfl⟩
theorem bs7_ {w w' : World} {g : Nat} {t : TypeId} {c0 c1 c2 c3 c4 c5 c6 : Value} (h : w.heap[g]? = some (.cells #[c0, c1, c2, c3, c4, c5, c6] t (0, 0))) (e : w'.heap = w.heap := by rfl) : w'.cell? ⟨g, 0, none⟩ = some c0 ∧ w'.cell? ⟨g, 1, none⟩ = some c1 ∧ w'.cell? ⟨g, 2, none⟩ = some c2 ∧ w'.cell? ⟨g, 3, none⟩ = some c3 ∧ w'.cell? ⟨g, 4, none⟩ = some c4 ∧ w'.cell? ⟨g, 5, none⟩ = some c5 ∧ w'.cell? ⟨g, 6, none⟩ = some c6 := ⟨(zco (e ▸ h) 0).trans rfl, (zco (e ▸ h) 1).trans rfl, (zco (e ▸ h) 2).trans rfl, (zco (e ▸ h) 3).trans rfl, (zco (e ▸ h) 4).trans rfl, (zco (e ▸ h) 5).trans rfl, (zco (e ▸ h) 6).trans rfl⟩
theorem tz2_ {P : Program} {ops : Array Oper} {Q : Exit → Act → World → Prop} {S : World → Prop} {ds : List Nat} {md : Region.Mode} (i N : Nat) {oi : Oper} {v : Value} {fuel : Nat} {l : Array Bool} {a : Act} {w : World} (l' : Array Bool) (hS : S w) {a' : Act} (h : zbq P md ops Q S ds fuel l' a' w) (hi : ops[i]? = some oi := by rfl) (hN : oi.dst = some N := by rfl) (hc : takeB md ops ds l l' i = true := by exact zhb HT_.out HW_.out (by kernel_rfl)) (hQ : ∀ c a w, Q (.panic c) (a.put oi.dst v) w → Q (.panic c) a w := by exact fun _ _ _ h => h) (hg : Region.wanted oi (yielded ops a.tmps) = true := by rfl) (hy : ∀ w', S w' → (execOp a.eval oi).run P w' = .ok (.value v) w' := by rintro w' ⟨s0, s1⟩; go_simp; with_reducible rfl) (ha : a.put (some N) v = a' := by exact qa_) : zbq P md ops Q S ds (fuel + 1) l a w := zir l' hi hN hc hQ (Or.inl ⟨hg, hy⟩) hS ha h
theorem tz4_ {P : Program} {ops : Array Oper} {Q : Exit → Act → World → Prop} {S : World → Prop} {ds : List Nat} {md : Region.Mode} (i N : Nat) {oi : Oper} {v : Value} {fuel : Nat} {l : Array Bool} {a : Act} {w : World} (l' : Array Bool) (hS : S w) {a' : Act} (h : zbq P md ops Q S ds fuel l' a' w) (hi : ops[i]? = some oi := by rfl) (hN : oi.dst = some N := by rfl) (hc : takeB md ops ds l l' i = true := by exact zhb HT_.out HW_.out (by kernel_rfl)) (hQ : ∀ c a w, Q (.panic c) (a.put oi.dst v) w → Q (.panic c) a w := by exact fun _ _ _ h => h) (hg : Region.wanted oi (yielded ops a.tmps) = true := by rfl) (hy : ∀ w', S w' → (execOp a.eval oi).run P w' = .ok (.value v) w' := by rintro w' ⟨s0, s1, s2, s3⟩; go_simp; with_reducible rfl) (ha : a.put (some N) v = a' := by exact qa_) : zbq P md ops Q S ds (fuel + 1) l a w := zir l' hi hN hc hQ (Or.inl ⟨hg, hy⟩) hS ha h
theorem tz5_ {P : Program} {ops : Array Oper} {Q : Exit → Act → World → Prop} {S : World → Prop} {ds : List Nat} {md : Region.Mode} (i N : Nat) {oi : Oper} {v : Value} {fuel : Nat} {l : Array Bool} {a : Act} {w : World} (l' : Array Bool) (hS : S w) {a' : Act} (h : zbq P md ops Q S ds fuel l' a' w) (hi : ops[i]? = some oi := by rfl) (hN : oi.dst = some N := by rfl) (hc : takeB md ops ds l l' i = true := by exact zhb HT_.out HW_.out (by kernel_rfl)) (hQ : ∀ c a w, Q (.panic c) (a.put oi.dst v) w → Q (.panic c) a w := by exact fun _ _ _ h => h) (hg : Region.wanted oi (yielded ops a.tmps) = true := by rfl) (hy : ∀ w', S w' → (execOp a.eval oi).run P w' = .ok (.value v) w' := by rintro w' ⟨s0, s1, s2, s3, s4⟩; go_simp; with_reducible rfl) (ha : a.put (some N) v = a' := by exact qa_) : zbq P md ops Q S ds (fuel + 1) l a w := zir l' hi hN hc hQ (Or.inl ⟨hg, hy⟩) hS ha h
theorem tz6_ {P : Program} {ops : Array Oper} {Q : Exit → Act → World → Prop} {S : World → Prop} {ds : List Nat} {md : Region.Mode} (i N : Nat) {oi : Oper} {v : Value} {fuel : Nat} {l : Array Bool} {a : Act} {w : World} (l' : Array Bool) (hS : S w) {a' : Act} (h : zbq P md ops Q S ds fuel l' a' w) (hi : ops[i]? = some oi := by rfl) (hN : oi.dst = some N := by rfl) (hc : takeB md ops ds l l' i = true := by exact zhb HT_.out HW_.out (by kernel_rfl)) (hQ : ∀ c a w, Q (.panic c) (a.put oi.dst v) w → Q (.panic c) a w := by exact fun _ _ _ h => h) (hg : Region.wanted oi (yielded ops a.tmps) = true := by rfl) (hy : ∀ w', S w' → (execOp a.eval oi).run P w' = .ok (.value v) w' := by rintro w' ⟨s0, s1, s2, s3, s4, s5⟩; go_simp; with_reducible rfl) (ha : a.put (some N) v = a' := by exact qa_) : zbq P md ops Q S ds (fuel + 1) l a w := zir l' hi hN hc hQ (Or.inl ⟨hg, hy⟩) hS ha h
theorem tz7_ {P : Program} {ops : Array Oper} {Q : Exit → Act → World → Prop} {S : World → Prop} {ds : List Nat} {md : Region.Mode} (i N : Nat) {oi : Oper} {v : Value} {fuel : Nat} {l : Array Bool} {a : Act} {w : World} (l' : Array Bool) (hS : S w) {a' : Act} (h : zbq P md ops Q S ds fuel l' a' w) (hi : ops[i]? = some oi := by rfl) (hN : oi.dst = some N := by rfl) (hc : takeB md ops ds l l' i = true := by exact zhb HT_.out HW_.out (by kernel_rfl)) (hQ : ∀ c a w, Q (.panic c) (a.put oi.dst v) w → Q (.panic c) a w := by exact fun _ _ _ h => h) (hg : Region.wanted oi (yielded ops a.tmps) = true := by rfl) (hy : ∀ w', S w' → (execOp a.eval oi).run P w' = .ok (.value v) w' := by rintro w' ⟨s0, s1, s2, s3, s4, s5, s6⟩; go_simp; with_reducible rfl) (ha : a.put (some N) v = a' := by exact qa_) : zbq P md ops Q S ds (fuel + 1) l a w := zir l' hi hN hc hQ (Or.inl ⟨hg, hy⟩) hS ha h
theorem tz8_ {P : Program} {ops : Array Oper} {Q : Exit → Act → World → Prop} {S : World → Prop} {ds : List Nat} {md : Region.Mode} (i N : Nat) {oi : Oper} {v : Value} {fuel : Nat} {l : Array Bool} {a : Act} {w : World} (l' : Array Bool) (hS : S w) {a' : Act} (h : zbq P md ops Q S ds fuel l' a' w) (hi : ops[i]? = some oi := by rfl) (hN : oi.dst = some N := by rfl) (hc : takeB md ops ds l l' i = true := by exact zhb HT_.out HW_.out (by kernel_rfl)) (hQ : ∀ c a w, Q (.panic c) (a.put oi.dst v) w → Q (.panic c) a w := by exact fun _ _ _ h => h) (hg : Region.wanted oi (yielded ops a.tmps) = true := by rfl) (hy : ∀ w', S w' → (execOp a.eval oi).run P w' = .ok (.value v) w' := by rintro w' ⟨s0, s1, s2, s3, s4, s5, s6, s7⟩; go_simp; with_reducible rfl) (ha : a.put (some N) v = a' := by exact qa_) : zbq P md ops Q S ds (fuel + 1) l a w := zir l' hi hN hc hQ (Or.inl ⟨hg, hy⟩) hS ha h
theorem tz9_ {P : Program} {ops : Array Oper} {Q : Exit → Act → World → Prop} {S : World → Prop} {ds : List Nat} {md : Region.Mode} (i N : Nat) {oi : Oper} {v : Value} {fuel : Nat} {l : Array Bool} {a : Act} {w : World} (l' : Array Bool) (hS : S w) {a' : Act} (h : zbq P md ops Q S ds fuel l' a' w) (hi : ops[i]? = some oi := by rfl) (hN : oi.dst = some N := by rfl) (hc : takeB md ops ds l l' i = true := by exact zhb HT_.out HW_.out (by kernel_rfl)) (hQ : ∀ c a w, Q (.panic c) (a.put oi.dst v) w → Q (.panic c) a w := by exact fun _ _ _ h => h) (hg : Region.wanted oi (yielded ops a.tmps) = true := by rfl) (hy : ∀ w', S w' → (execOp a.eval oi).run P w' = .ok (.value v) w' := by rintro w' ⟨s0, s1, s2, s3, s4, s5, s6, s7, s8⟩; go_simp; with_reducible rfl) (ha : a.put (some N) v = a' := by exact qa_) : zbq P md ops Q S ds (fuel + 1) l a w := zir l' hi hN hc hQ (Or.inl ⟨hg, hy⟩) hS ha h
theorem tz10_ {P : Program} {ops : Array Oper} {Q : Exit → Act → World → Prop} {S : World → Prop} {ds : List Nat} {md : Region.Mode} (i N : Nat) {oi : Oper} {v : Value} {fuel : Nat} {l : Array Bool} {a : Act} {w : World} (l' : Array Bool) (hS : S w) {a' : Act} (h : zbq P md ops Q S ds fuel l' a' w) (hi : ops[i]? = some oi := by rfl) (hN : oi.dst = some N := by rfl) (hc : takeB md ops ds l l' i = true := by exact zhb HT_.out HW_.out (by kernel_rfl)) (hQ : ∀ c a w, Q (.panic c) (a.put oi.dst v) w → Q (.panic c) a w := by exact fun _ _ _ h => h) (hg : Region.wanted oi (yielded ops a.tmps) = true := by rfl) (hy : ∀ w', S w' → (execOp a.eval oi).run P w' = .ok (.value v) w' := by rintro w' ⟨s0, s1, s2, s3, s4, s5, s6, s7, s8, s9⟩; go_simp; with_reducible rfl) (ha : a.put (some N) v = a' := by exact qa_) : zbq P md ops Q S ds (fuel + 1) l a w := zir l' hi hN hc hQ (Or.inl ⟨hg, hy⟩) hS ha h
theorem tz14_ {P : Program} {ops : Array Oper} {Q : Exit → Act → World → Prop} {S : World → Prop} {ds : List Nat} {md : Region.Mode} (i N : Nat) {oi : Oper} {v : Value} {fuel : Nat} {l : Array Bool} {a : Act} {w : World} (l' : Array Bool) (hS : S w) {a' : Act} (h : zbq P md ops Q S ds fuel l' a' w) (hi : ops[i]? = some oi := by rfl) (hN : oi.dst = some N := by rfl) (hc : takeB md ops ds l l' i = true := by exact zhb HT_.out HW_.out (by kernel_rfl)) (hQ : ∀ c a w, Q (.panic c) (a.put oi.dst v) w → Q (.panic c) a w := by exact fun _ _ _ h => h) (hg : Region.wanted oi (yielded ops a.tmps) = true := by rfl) (hy : ∀ w', S w' → (execOp a.eval oi).run P w' = .ok (.value v) w' := by rintro w' ⟨s0, s1, s2, s3, s4, s5, s6, s7, s8, s9, s10, s11, s12, s13⟩; go_simp; with_reducible rfl) (ha : a.put (some N) v = a' := by exact qa_) : zbq P md ops Q S ds (fuel + 1) l a w := zir l' hi hN hc hQ (Or.inl ⟨hg, hy⟩) hS ha h
/-! tighter words, three -/
theorem bi_ {α β : Type} {x : Option α} {f : α → Option β} {b : β} (h : x.bind f = some b) : ∃ a, zag (x = some a) ∧ f a = some b := by
 obtain ⟨a, h1, h2⟩ := Option.bind_eq_some_iff.mp h
 exact ⟨a, ⟨h1⟩, h2⟩
theorem ca_ {P : Program} {f : FuncId} {args : Array Value} {w : World} {V : Value} {R : World → Prop} {K : Value → World → Prop} (h : Calls P f args w fun e w' => e = .returned V ∧ R w') (k : ∀ w', R w' → K V w') : Calls P f args w fun e w' => ∃ v, e = .returned v ∧ K v w' :=
 h.mono (by rintro e w' ⟨rfl, hr⟩; exact ⟨_, rfl, k _ hr⟩)
theorem gw_ {w W : World} {g : Nat} (hg : g = W.heap.size) (h : Below w.heap.size w W := by repeat (first | (with_reducible first | exact HB.out | apply zbx | apply zbr | apply zbh | refine zcj ?_ (zag.out (by assumption))) | exact HB.out)) : zag (w.heap.size ≤ g) := ⟨by rw [hg]; exact zai h⟩
theorem by_ {P : Program} {ops : Array Oper} {Q : Exit → Act → World → Prop} {rest : List Oper} {o : Oper} {a : Act} {W : World} (cs : Array Value) (t : TypeId)
  (h : ∀ g, g = W.heap.size → ∀ w1, zag (w1.heap[g]? = some (.cells cs t (0, 0))) → Below W.heap.size W w1 → wpList P ops Q rest (a.put o.dst (.pointer (some ⟨g, 0, none⟩))) w1)
  {N : Tmp} (hd : o.dst = some N := by rfl) (hgd : o.guard = none := by rfl)
  (hrun : (execOp a.eval o).run P W = .ok (.value (.pointer (some ⟨W.heap.size, 0, none⟩))) (W.alloc (.cells cs t (0, 0))) := by first | (go_simp; done) | (go_simp; rfl)) : wpList P ops Q (o :: rest) a W :=
 box_event hgd hd hrun (fun g hg w1 hx hb => h g hg w1 ⟨hx⟩ hb)
section
variable {α : Type} {d : Kd α} {e base : Nat} {ok : Nat → Prop} {w w1 : World} {v : Value} {xs : List α}
theorem nx_ (h : Kd.N d e w base ok v xs) (hb : Below w.heap.size w w1 := by repeat (first | exact Below.refl _ _ | (with_reducible first | apply zbx | apply zbr | apply zbh))) : Kd.N d e w1 base ok v xs := Kd.zka h hb
theorem vx_ (h : Kd.V d e w base ok v xs) (hb : Below w.heap.size w w1 := by repeat (first | exact Below.refl _ _ | (with_reducible first | apply zbx | apply zbr | apply zbh))) : Kd.V d e w1 base ok v xs := Kd.V_below h hb
theorem rx_ (h : Kd.R d e w base ok v xs) (hb : Below w.heap.size w w1 := by repeat (first | exact Below.refl _ _ | (with_reducible first | apply zbx | apply zbr | apply zbh))) : Kd.R d e w1 base ok v xs := Kd.R_below h hb
end
theorem ifT_ {α : Type} {a b c : α} (h : (if true = true then a else b) = c) : a = c := h
theorem ifF_ {α : Type} {a b c : α} (h : (if false = true then a else b) = c) : b = c := h
theorem q0_ {p : Prop} (h : p := by repeat (first | (with_reducible first | exact HB.out | apply zbx | apply zbr | apply zbh | refine zcj ?_ (zag.out (by assumption))) | exact HB.out)) : p := h
theorem q1_ {p : Prop} (h : p := by rw [hg]; exact (zai (by repeat (first | (with_reducible first | exact HB.out | apply zbx | apply zbr | apply zbh | refine zcj ?_ (zag.out (by assumption))) | exact HB.out)))) : p := h
theorem q2_ {p : Prop} (h : p := by (try simp only [List.map_toArray, List.map_cons, List.map_nil]); first | done | rfl | (simp only [List.length_drop, List.length_take]; rfl)) : p := h
theorem q3_ {p : Prop} (h : p := by first | rfl | (simp [zeb, zdy] <;> rfl) | (simp [*, zeb, zdy] <;> rfl)) : p := h
theorem q4_ {p : Prop} (h : p := by (with_reducible repeat first | apply bN_ | apply bD_ | apply bA_); refine zcm (cs := #[.int .i64 ((zan l0 x11_1).f0), .int .i64 ((zan l0 x11_1).f1), .int .i64 ((zan l0 x11_1).f2.f0), .int .i64 ((zan l0 x11_1).f2.f1), .string (⟨#[]⟩ : ByteArray)]) ?_ 4 _ rfl; (with_reducible repeat first | apply bN_ | apply bD_ | apply bA_); refine zcm (cs := #[.int .i64 ((zan l0 x11_1).f0), .int .i64 ((zan l0 x11_1).f1), .int .i64 ((zan l0 x11_1).f2.f0), .int .i64 0, .string (⟨#[]⟩ : ByteArray)]) ?_ 3 _ rfl; (with_reducible repeat first | apply bN_ | apply bD_ | apply bA_); refine zcm (cs := #[.int .i64 ((zan l0 x11_1).f0), .int .i64 ((zan l0 x11_1).f1), .int .i64 0, .int .i64 0, .string (⟨#[]⟩ : ByteArray)]) ?_ 2 _ rfl; (with_reducible repeat first | apply bN_ | apply bD_ | apply bA_); refine zcm (cs := #[.int .i64 ((zan l0 x11_1).f0), .int .i64 0, .int .i64 0, .int .i64 0, .string (⟨#[]⟩ : ByteArray)]) ?_ 1 _ rfl; (with_reducible repeat first | apply bN_ | apply bD_ | apply bA_); refine zcm (cs := #[.int .i64 0, .int .i64 0, .int .i64 0, .int .i64 0, .string (⟨#[]⟩ : ByteArray)]) ?_ 0 _ rfl; (with_reducible repeat first | apply bN_ | apply bD_ | apply bA_); exact BK223.out) : p := h
theorem q5_ {p : Prop} (h : p := by first | (with_reducible assumption) | assumption) : p := h
theorem q6_ {p : Prop} (h : p := by first | rfl | (simp; done) | (simp [*]; done)) : p := h
theorem q7_ {p : Prop} (h : p := by exact vx_ HO3.out) : p := h
theorem q8_ {p : Prop} (h : p := by exact vx_ HO2.out) : p := h
theorem q9_ {p : Prop} (h : p := by first | exact Kd.zip (Kd.zha HO_6.out (fun _ hk => hk.2.2)) | (rw [add_block]; exact Kd.zip (Kd.zha HO_6.out (fun _ hk => hk.2.2))) | (show (Addr.add _ _).block ≠ _; rw [add_block]; exact Kd.zip (Kd.zha HO_6.out (fun _ hk => hk.2.2))) | (dsimp only; exact Kd.zip (Kd.zha HO_6.out (fun _ hk => hk.2.2)))) : p := h
theorem q10_ {p : Prop} (h : p := by first | exact Kd.zip (Kd.zha HO_6.out (fun _ hk => hk.2.1)) | (rw [add_block]; exact Kd.zip (Kd.zha HO_6.out (fun _ hk => hk.2.1))) | (show (Addr.add _ _).block ≠ _; rw [add_block]; exact Kd.zip (Kd.zha HO_6.out (fun _ hk => hk.2.1))) | (dsimp only; exact Kd.zip (Kd.zha HO_6.out (fun _ hk => hk.2.1)))) : p := h
theorem q11_ {p : Prop} (h : p := by first | exact HG.out | (refine Glob.below HG.out ?_; (repeat (first | (with_reducible first | exact HB.out | apply zbx | apply zbr | apply zbh) | exact HB.out))) | (repeat (first | exact HG.out | apply Glob.drewN | apply Glob.drew | apply Glob.alloc))) : p := h
theorem q12_ {p : Prop} (h : p := by first | exact HG.out | (refine Glob.below HG.out ?_; (repeat (first | (with_reducible first | exact HB.out | apply zbx | apply zbr | apply zbh | refine zcj ?_ GE851.out) | exact HB.out))) | (repeat (first | exact HG.out | apply Glob.drewN | apply Glob.drew | apply Glob.alloc))) : p := h
theorem q13_ {p : Prop} (h : p := by (with_reducible repeat first | apply bN_ | apply bD_ | apply bA_); exact BK851.out) : p := h
theorem q14_ {p : Prop} (h : p := by exact vx_ HO4.out) : p := h
theorem q15_ {p : Prop} (h : p := by (with_reducible repeat (first | apply Kd.zfm | apply Kd.zfj | apply Kd.zfe)); exact (Kd.zax (Kd.V_far (p := ⟨gb421, 1, none⟩) (Kd.V_far (p := ⟨gb421, 0, none⟩) (Kd.zax HL420_0.out (fun k_ hk => (⟨hk, hk.2⟩ : _ ∧ k_ ≠ gb421))) (fun _ hk => hk.2) (.slice A420_0 ((zah t412 x35_1).f0).length c420_0)) (fun _ hk => hk.2) (.int .i64 ((zah t412 x35_1).f1))) (fun _ h_ => h_.1))) : p := h
theorem q16_ {p : Prop} (h : p := by exact nx_ HO483.out) : p := h
theorem q17_ {p : Prop} (h : p := by (with_reducible repeat first | apply bN_ | apply bD_ | apply bA_); exact BK799.out) : p := h
theorem q18_ {p : Prop} (h : p := by repeat (first | exact zeo.refl _ | apply zeo.step)) : p := h
theorem q19_ {p : Prop} (h : p := by (with_reducible repeat first | apply bN_ | apply bD_ | apply bA_); exact BK297.out) : p := h
theorem q20_ {p : Prop} (h : p := by first | exact HG.out | (refine Glob.below HG.out ?_; (repeat (first | (with_reducible first | exact HB.out | apply zbx | apply zbr | apply zbh | refine zcj ?_ GE799.out) | exact HB.out))) | (repeat (first | exact HG.out | apply Glob.drewN | apply Glob.drew | apply Glob.alloc))) : p := h
theorem q21_ {p : Prop} (h : p := by first | exact HG.out | (refine Glob.below HG.out ?_; (repeat (first | (with_reducible first | exact HB.out | apply zbx | apply zbr | apply zbh | refine zcj ?_ GE755.out) | exact HB.out))) | (repeat (first | exact HG.out | apply Glob.drewN | apply Glob.drew | apply Glob.alloc))) : p := h
theorem q22_ {p : Prop} (h : p := by (with_reducible repeat first | apply bN_ | apply bD_ | apply bA_); exact BK755.out) : p := h
theorem q23_ {p : Prop} (h : p := by first | exact HG.out | (refine Glob.below HG.out ?_; (repeat (first | (with_reducible first | exact HB.out | apply zbx | apply zbr | apply zbh | refine zcj ?_ GE453.out) | exact HB.out))) | (repeat (first | exact HG.out | apply Glob.drewN | apply Glob.drew | apply Glob.alloc))) : p := h
theorem q24_ {p : Prop} (h : p := by (with_reducible repeat first | apply bN_ | apply bD_ | apply bA_); exact BK484.out) : p := h
theorem q25_ {p : Prop} (h : p := by (with_reducible repeat first | apply bN_ | apply bD_ | apply bA_); exact BK411.out) : p := h
theorem q26_ {p : Prop} (h : p := by (with_reducible repeat first | apply bN_ | apply bD_ | apply bA_); exact BK335.out) : p := h
theorem q27_ {p : Prop} (h : p := by exact vx_ HO5.out) : p := h
theorem q28_ {p : Prop} (h : p := by first | exact Kd.S_nil _ _ _ _ _ | exact Kd.N_nil _ _ _ _ _ | exact Kd.V_nil _ _ _ _ _ | exact Kd.Q_nil _ _ _ _ _ | exact Kd.R_nil _ _ _ _ _) : p := h
theorem q29_ {p : Prop} (h : p := by (with_reducible repeat first | apply bN_ | apply bD_ | apply bA_); exact BK188.out) : p := h
theorem q30_ {p : Prop} (h : p := by (with_reducible repeat first | apply bN_ | apply bD_ | apply bA_); refine zcm (cs := #[.int .i64 ((zan l0 x26_3).f0), .int .i64 ((zan l0 x26_3).f1), .int .i64 ((zan l0 x26_3).f2.f0), .int .i64 ((zan l0 x26_3).f2.f1), .string (⟨#[]⟩ : ByteArray)]) ?_ 4 _ rfl; (with_reducible repeat first | apply bN_ | apply bD_ | apply bA_); refine zcm (cs := #[.int .i64 ((zan l0 x26_3).f0), .int .i64 ((zan l0 x26_3).f1), .int .i64 ((zan l0 x26_3).f2.f0), .int .i64 0, .string (⟨#[]⟩ : ByteArray)]) ?_ 3 _ rfl; (with_reducible repeat first | apply bN_ | apply bD_ | apply bA_); refine zcm (cs := #[.int .i64 ((zan l0 x26_3).f0), .int .i64 ((zan l0 x26_3).f1), .int .i64 0, .int .i64 0, .string (⟨#[]⟩ : ByteArray)]) ?_ 2 _ rfl; (with_reducible repeat first | apply bN_ | apply bD_ | apply bA_); refine zcm (cs := #[.int .i64 ((zan l0 x26_3).f0), .int .i64 0, .int .i64 0, .int .i64 0, .string (⟨#[]⟩ : ByteArray)]) ?_ 1 _ rfl; (with_reducible repeat first | apply bN_ | apply bD_ | apply bA_); refine zcm (cs := #[.int .i64 0, .int .i64 0, .int .i64 0, .int .i64 0, .string (⟨#[]⟩ : ByteArray)]) ?_ 0 _ rfl; (with_reducible repeat first | apply bN_ | apply bD_ | apply bA_); exact BK340.out) : p := h
theorem q31_ {p : Prop} (h : p := by exact vx_ HO_3.out) : p := h
theorem q32_ {p : Prop} (h : p := by exact vx_ HO_2.out) : p := h
theorem q33_ {p : Prop} (h : p := by (with_reducible repeat first | apply bN_ | apply bD_ | apply bA_); exact BK189.out) : p := h
theorem q34_ {p : Prop} (h : p := by (with_reducible repeat first | apply bN_ | apply bD_ | apply bA_); refine zbz ?_ NB335_340.out _; (with_reducible repeat first | apply bN_ | apply bD_ | apply bA_); refine zbz ?_ NB335_340.out _; (with_reducible repeat first | apply bN_ | apply bD_ | apply bA_); refine zbz ?_ NB335_340.out _; (with_reducible repeat first | apply bN_ | apply bD_ | apply bA_); refine zbz ?_ NB335_340.out _; (with_reducible repeat first | apply bN_ | apply bD_ | apply bA_); refine zbz ?_ NB335_340.out _; (with_reducible repeat first | apply bN_ | apply bD_ | apply bA_); exact BK335.out) : p := h
theorem q35_ {p : Prop} (h : p := by (with_reducible repeat first | apply bN_ | apply bD_ | apply bA_); exact BK298.out) : p := h
theorem q36_ {p : Prop} (h : p := by exact vx_ HO_4.out) : p := h
theorem q37_ {p : Prop} (h : p := by exact nx_ HO_12.out) : p := h
theorem q38_ {p : Prop} (h : p := by (with_reducible repeat first | apply bN_ | apply bD_ | apply bA_); refine zcm (cs := #[.slice A134_0 ((zah l0 x7_1).f0).length c134_0, .int .i64 0]) ?_ 1 _ rfl; (with_reducible repeat first | apply bN_ | apply bD_ | apply bA_); refine zcm (cs := #[.slice none 0 0, .int .i64 0]) ?_ 0 _ rfl; (with_reducible repeat first | apply bN_ | apply bD_ | apply bA_); exact BK135.out) : p := h
theorem q41_ {p : Prop} (h : p := by (with_reducible repeat first | apply bN_ | apply bD_ | apply bA_); exact BK453.out) : p := h
theorem q42_ {p : Prop} (h : p := by (with_reducible repeat first | apply bN_ | apply bD_ | apply bA_); exact BK340.out) : p := h
theorem q43_ {p : Prop} (h : p := by exact nx_ HO_21.out) : p := h
theorem q44_ {p : Prop} (h : p := by (with_reducible repeat first | apply bN_ | apply bD_ | apply bA_); exact BK247.out) : p := h
theorem q45_ {p : Prop} (h : p := by (with_reducible repeat first | apply bN_ | apply bD_ | apply bA_); exact BK234.out) : p := h
theorem q46_ {p : Prop} (h : p := by (with_reducible repeat first | apply bN_ | apply bD_ | apply bA_); exact BK260.out) : p := h
theorem q49_ {p : Prop} (h : p := by (with_reducible repeat (first | apply Kd.zfm | apply Kd.zfj | apply Kd.zfe)); exact Kd.zax HO4.out (fun _ hk => ⟨hk.1.1, hk.1.2⟩)) : p := h
theorem q50_ {p : Prop} (h : p := by (with_reducible repeat (first | apply Kd.zfm | apply Kd.zfj | apply Kd.zfe)); exact Kd.zax HO3.out (fun _ hk => ⟨hk.1.1, hk.1.2⟩)) : p := h
theorem q51_ {p : Prop} (h : p := by (with_reducible repeat (first | apply Kd.zfm | apply Kd.zfj | apply Kd.zfe)); exact Kd.zax HO2.out (fun _ hk => ⟨hk.1.1, hk.1.2⟩)) : p := h
theorem q52_ {p : Prop} (h : p := by exact vx_ HO_5.out) : p := h
theorem q53_ {p : Prop} (h : p := by first | exact HG.out | (refine Glob.below HG.out ?_; (repeat (first | (with_reducible first | exact HB.out | apply zbx | apply zbr | apply zbh | refine zcj ?_ GE188.out | refine zcj ?_ GE189.out) | exact HB.out))) | (repeat (first | exact HG.out | apply Glob.drewN | apply Glob.drew | apply Glob.alloc))) : p := h
theorem q56_ {p : Prop} (h : p := by (with_reducible repeat first | apply bN_ | apply bD_ | apply bA_); exact BK421.out) : p := h
theorem q57_ {p : Prop} (h : p := by (with_reducible repeat (first | apply Kd.zio | apply Kd.zik | apply Kd.zhx)); exact Kd.zds (Kd.R_far (p := ⟨gb340, 4, none⟩) (Kd.R_far (p := ⟨gb340, 3, none⟩) (Kd.R_far (p := ⟨gb340, 2, none⟩) (Kd.R_far (p := ⟨gb340, 1, none⟩) (Kd.R_far (p := ⟨gb340, 0, none⟩) (Kd.zer HO_6.out BK340.out (by decide)) (fun _ hk => hk.2) (.int .i64 ((zan l0 x26_3).f0))) (fun _ hk => hk.2) (.int .i64 ((zan l0 x26_3).f1))) (fun _ hk => hk.2) (.int .i64 ((zan l0 x26_3).f2.f0))) (fun _ hk => hk.2) (.int .i64 ((zan l0 x26_3).f2.f1))) (fun _ hk => hk.2) (.string ((zan l0 x26_3).f2.f2))) (fun _ hk => hk.1)) : p := h
theorem q58_ {p : Prop} (h : p := by first | exact HG.out | (refine Glob.below HG.out ?_; (repeat (first | (with_reducible first | exact HB.out | apply zbx | apply zbr | apply zbh | refine zcj ?_ GE484.out) | exact HB.out))) | (repeat (first | exact HG.out | apply Glob.drewN | apply Glob.drew | apply Glob.alloc))) : p := h
theorem q59_ {p : Prop} (h : p := by (with_reducible repeat (first | apply Kd.zfm | apply Kd.zfj | apply Kd.zfe)); exact (Kd.zax (Kd.V_far (p := ⟨gb421, 1, none⟩) (Kd.V_far (p := ⟨gb421, 0, none⟩) (Kd.zax HO_33.out (fun k_ hk => (⟨hk, hk.2⟩ : _ ∧ k_ ≠ gb421))) (fun _ hk => hk.2) (.slice A420_0 ((zah t412 x35_1).f0).length c420_0)) (fun _ hk => hk.2) (.int .i64 ((zah t412 x35_1).f1))) (fun _ h_ => h_.1))) : p := h
theorem q60_ {p : Prop} (h : p := by (with_reducible repeat (first | apply Kd.zdt | apply Kd.zdv | apply Kd.zcy)); exact (Kd.zbe (Kd.N_far (p := ⟨gb421, 1, none⟩) (Kd.N_far (p := ⟨gb421, 0, none⟩) (Kd.zbe HO_12.out (fun k_ hk => (⟨hk, hk.2⟩ : _ ∧ k_ ≠ gb421))) (fun _ hk => hk.2) (.slice A420_0 ((zah t412 x35_1).f0).length c420_0)) (fun _ hk => hk.2) (.int .i64 ((zah t412 x35_1).f1))) (fun _ h_ => h_.1))) : p := h
theorem q61_ {p : Prop} (h : p := by (with_reducible repeat first | apply bN_ | apply bD_ | apply bA_); exact BK261.out) : p := h
theorem q62_ {p : Prop} (h : p := by repeat (first | (with_reducible exact HR502_0.out) | (with_reducible refine Kd.zju ?_ _) | (with_reducible refine Kd.zjs ?_ _) | (with_reducible refine Kd.C_drew ?_) | exact HR502_0.out)) : p := h
theorem q63_ {p : Prop} (h : p := by repeat (first | (with_reducible exact HR420_0.out) | (with_reducible refine Kd.zju ?_ _) | (with_reducible refine Kd.zjs ?_ _) | (with_reducible refine Kd.C_drew ?_) | exact HR420_0.out)) : p := h
theorem q64_ {p : Prop} (h : p := by (with_reducible repeat first | apply bN_ | apply bD_ | apply bA_); refine zcm (cs := #[.slice A420_0 ((zah t412 x35_1).f0).length c420_0, .int .i64 0]) ?_ 1 _ rfl; (with_reducible repeat first | apply bN_ | apply bD_ | apply bA_); refine zcm (cs := #[.slice none 0 0, .int .i64 0]) ?_ 0 _ rfl; (with_reducible repeat first | apply bN_ | apply bD_ | apply bA_); exact BK421.out) : p := h
theorem q65_ {p : Prop} (h : p := by (with_reducible repeat first | apply bN_ | apply bD_ | apply bA_); exact BK352.out) : p := h
theorem q66_ {p : Prop} (h : p := by (with_reducible repeat first | apply bN_ | apply bD_ | apply bA_); exact BK351.out) : p := h
theorem q67_ {p : Prop} (h : p := by exact vx_ HO_33.out) : p := h
theorem q68_ {p : Prop} (h : p := by exact nx_ HO854.out) : p := h
theorem q69_ {p : Prop} (h : p := by first | exact HG.out | (refine Glob.below HG.out ?_; (repeat (first | (with_reducible first | exact HB.out | apply zbx | apply zbr | apply zbh | refine zcj ?_ GE297.out | refine zcj ?_ GE298.out | refine zcj ?_ GE299.out) | exact HB.out))) | (repeat (first | exact HG.out | apply Glob.drewN | apply Glob.drew | apply Glob.alloc))) : p := h
theorem q70_ {p : Prop} (h : p := by (with_reducible repeat first | apply bN_ | apply bD_ | apply bA_); exact BK299.out) : p := h
theorem q71_ {p : Prop} (h : p := by (with_reducible repeat first | apply bN_ | apply bD_ | apply bA_); exact BK248.out) : p := h
theorem q72_ {p : Prop} (h : p := by (with_reducible repeat first | apply bN_ | apply bD_ | apply bA_); exact BK235.out) : p := h
theorem q77_ {p : Prop} (h : p := by first | exact HG.out | (refine Glob.below HG.out ?_; (repeat (first | (with_reducible first | exact HB.out | apply zbx | apply zbr | apply zbh | refine zcj ?_ GE411.out | refine zcj ?_ GE421.out) | exact HB.out))) | (repeat (first | exact HG.out | apply Glob.drewN | apply Glob.drew | apply Glob.alloc))) : p := h
theorem q78_ {p : Prop} (h : p := by exact rx_ HO_6.out) : p := h
theorem q79_ {p : Prop} (h : p := by first | exact HG.out | (refine Glob.below HG.out ?_; (repeat (first | (with_reducible first | exact HB.out | apply zbx | apply zbr | apply zbh | refine zcj ?_ GE223.out) | exact HB.out))) | (repeat (first | exact HG.out | apply Glob.drewN | apply Glob.drew | apply Glob.alloc))) : p := h
theorem q80_ {p : Prop} (h : p := by first | exact HG.out | (refine Glob.below HG.out ?_; (repeat (first | (with_reducible first | exact HB.out | apply zbx | apply zbr | apply zbh | refine zcj ?_ GE135.out) | exact HB.out))) | (repeat (first | exact HG.out | apply Glob.drewN | apply Glob.drew | apply Glob.alloc))) : p := h
theorem q81_ {p : Prop} (h : p := by exact nx_ HO807.out) : p := h
theorem q82_ {p : Prop} (h : p := by exact nx_ HO763.out) : p := h
theorem q83_ {p : Prop} (h : p := by exact nx_ HO460.out) : p := h
theorem q86_ {p : Prop} (h : p := by (with_reducible repeat first | apply bN_ | apply bD_ | apply bA_); refine zbz ?_ NB411_421.out _; (with_reducible repeat first | apply bN_ | apply bD_ | apply bA_); refine zbz ?_ NB411_421.out _; (with_reducible repeat first | apply bN_ | apply bD_ | apply bA_); exact BK411.out) : p := h
theorem q89_ {p : Prop} (h : p := by exact nx_ HO810.out) : p := h
theorem q90_ {p : Prop} (h : p := by exact nx_ HO496.out) : p := h
theorem q91_ {p : Prop} (h : p := by (with_reducible repeat first | apply bN_ | apply bD_ | apply bA_); exact BK287.out) : p := h
theorem q92_ {p : Prop} (h : p := by (with_reducible repeat first | apply bN_ | apply bD_ | apply bA_); exact BK102.out) : p := h
theorem q93_ {p : Prop} (h : p := by (with_reducible repeat (first | apply Kd.zdt | apply Kd.zdv | apply Kd.zcy)); exact Kd.zbe HO829.out (fun _ hk => ⟨hk.1, ⟨hk.2.2.2.1, ⟨hk.2.2.2.2.1, hk.2.2.2.2.2⟩⟩⟩)) : p := h
theorem q94_ {p : Prop} (h : p := by first | exact HG.out | (refine Glob.below HG.out ?_; (repeat (first | (with_reducible first | exact HB.out | apply zbx | apply zbr | apply zbh | refine zcj ?_ GE247.out | refine zcj ?_ GE248.out | refine zcj ?_ GE249.out) | exact HB.out))) | (repeat (first | exact HG.out | apply Glob.drewN | apply Glob.drew | apply Glob.alloc))) : p := h
theorem q95_ {p : Prop} (h : p := by first | exact HG.out | (refine Glob.below HG.out ?_; (repeat (first | (with_reducible first | exact HB.out | apply zbx | apply zbr | apply zbh | refine zcj ?_ GE234.out | refine zcj ?_ GE235.out | refine zcj ?_ GE236.out) | exact HB.out))) | (repeat (first | exact HG.out | apply Glob.drewN | apply Glob.drew | apply Glob.alloc))) : p := h
theorem q96_ {p : Prop} (h : p := by (with_reducible repeat (first | apply Kd.zdt | apply Kd.zdv | apply Kd.zcy)); exact Kd.zbe HO825.out (fun _ hk => ⟨hk.1.1, ⟨hk.1.2.2.2.1, ⟨hk.2, hk.1.2.2.2.2⟩⟩⟩)) : p := h
theorem q97_ {p : Prop} (h : p := by (with_reducible repeat (first | apply Kd.zdt | apply Kd.zdv | apply Kd.zcy)); exact Kd.zbe HO821.out (fun _ hk => ⟨hk.1.1.1, ⟨hk.1.2, ⟨hk.2, hk.1.1.2.2.2.2.2⟩⟩⟩)) : p := h
theorem q98_ {p : Prop} (h : p := by (with_reducible repeat (first | apply Kd.zfm | apply Kd.zfj | apply Kd.zfe)); exact Kd.zax HO5.out (fun _ hk => ⟨hk.1.1, hk.1.2⟩)) : p := h
theorem q99_ {p : Prop} (h : p := by (with_reducible repeat first | apply bN_ | apply bD_ | apply bA_); exact BK428.out) : p := h
theorem q100_ {p : Prop} (h : p := by (with_reducible repeat first | apply bN_ | apply bD_ | apply bA_); exact BK262.out) : p := h
theorem q101_ {p : Prop} (h : p := by (with_reducible repeat first | apply bN_ | apply bD_ | apply bA_); exact BK229.out) : p := h
theorem q102_ {p : Prop} (h : p := by (with_reducible repeat first | apply bN_ | apply bD_ | apply bA_); exact BK205.out) : p := h
theorem q103_ {p : Prop} (h : p := by exact vx_ HO_15.out) : p := h
theorem q104_ {p : Prop} (h : p := by exact nx_ HO_69.out) : p := h
theorem q105_ {p : Prop} (h : p := by exact nx_ HO_19.out) : p := h
theorem q106_ {p : Prop} (h : p := by exact nx_ HO_13.out) : p := h
theorem q107_ {p : Prop} (h : p := by exact nx_ HO767.out) : p := h
theorem q108_ {p : Prop} (h : p := by (with_reducible repeat (first | apply Kd.zfm | apply Kd.zfj | apply Kd.zfe)); exact (Kd.zax (Kd.V_far (p := ⟨gb205, 4, none⟩) (Kd.V_far (p := ⟨gb205, 3, none⟩) (Kd.V_far (p := ⟨gb205, 2, none⟩) (Kd.V_far (p := ⟨gb205, 1, none⟩) (Kd.V_far (p := ⟨gb205, 0, none⟩) (Kd.zax HL204_3.out (fun k_ hk => (⟨hk, hk.2⟩ : _ ∧ k_ ≠ gb205))) (fun _ hk => hk.2) (.int .i64 ((zat t194 x71_3).f0.f0))) (fun _ hk => hk.2) (.int .i64 ((zat t194 x71_3).f0.f1))) (fun _ hk => hk.2) (.string ((zat t194 x71_3).f0.f2))) (fun _ hk => hk.2) (.slice A204_3 ((zat t194 x71_3).f1.f0).length c204_3)) (fun _ hk => hk.2) (.int .i64 ((zat t194 x71_3).f1.f1))) (fun _ h_ => h_.1))) : p := h
theorem q109_ {p : Prop} (h : p := by (with_reducible repeat (first | apply Kd.zdt | apply Kd.zdv | apply Kd.zcy)); exact (Kd.zbe (Kd.N_far (p := ⟨gb205, 4, none⟩) (Kd.N_far (p := ⟨gb205, 3, none⟩) (Kd.N_far (p := ⟨gb205, 2, none⟩) (Kd.N_far (p := ⟨gb205, 1, none⟩) (Kd.N_far (p := ⟨gb205, 0, none⟩) (Kd.zbe HO_12.out (fun k_ hk => (⟨hk, hk.2⟩ : _ ∧ k_ ≠ gb205))) (fun _ hk => hk.2) (.int .i64 ((zat t194 x71_3).f0.f0))) (fun _ hk => hk.2) (.int .i64 ((zat t194 x71_3).f0.f1))) (fun _ hk => hk.2) (.string ((zat t194 x71_3).f0.f2))) (fun _ hk => hk.2) (.slice A204_3 ((zat t194 x71_3).f1.f0).length c204_3)) (fun _ hk => hk.2) (.int .i64 ((zat t194 x71_3).f1.f1))) (fun _ h_ => h_.1))) : p := h
theorem q110_ {p : Prop} (h : p := by first | exact HG.out | (refine Glob.below HG.out ?_; (repeat (first | (with_reducible first | exact HB.out | apply zbx | apply zbr | apply zbh | refine zcj ?_ GE229.out | refine zcj ?_ GE230.out) | exact HB.out))) | (repeat (first | exact HG.out | apply Glob.drewN | apply Glob.drew | apply Glob.alloc))) : p := h
theorem q111_ {p : Prop} (h : p := by exact vx_ HL420_0.out) : p := h
theorem q112_ {p : Prop} (h : p := by exact vx_ HL156_0.out) : p := h
theorem q115_ {p : Prop} (h : p := by first | exact HG.out | (refine Glob.below HG.out ?_; (repeat (first | (with_reducible first | exact HB.out | apply zbx | apply zbr | apply zbh | refine zcj ?_ GE411.out) | exact HB.out))) | (repeat (first | exact HG.out | apply Glob.drewN | apply Glob.drew | apply Glob.alloc))) : p := h
theorem q116_ {p : Prop} (h : p := by first | exact HG.out | (refine Glob.below HG.out ?_; (repeat (first | (with_reducible first | exact HB.out | apply zbx | apply zbr | apply zbh | refine zcj ?_ GE335.out) | exact HB.out))) | (repeat (first | exact HG.out | apply Glob.drewN | apply Glob.drew | apply Glob.alloc))) : p := h
theorem q117_ {p : Prop} (h : p := by exact nx_ HO_17.out) : p := h
theorem q118_ {p : Prop} (h : p := by exact nx_ HO_14.out) : p := h
theorem q119_ {p : Prop} (h : p := by exact vx_ HO0.out) : p := h
theorem q120_ {p : Prop} (h : p := by repeat (first | (with_reducible exact HR501_0.out) | (with_reducible refine Kd.zju ?_ _) | (with_reducible refine Kd.zjs ?_ _) | (with_reducible refine Kd.C_drew ?_) | exact HR501_0.out)) : p := h
theorem q121_ {p : Prop} (h : p := by repeat (first | (with_reducible exact HR404_0.out) | (with_reducible refine Kd.zju ?_ _) | (with_reducible refine Kd.zjs ?_ _) | (with_reducible refine Kd.C_drew ?_) | exact HR404_0.out)) : p := h
theorem q122_ {p : Prop} (h : p := by repeat (first | (with_reducible exact HR156_0.out) | (with_reducible refine Kd.zju ?_ _) | (with_reducible refine Kd.zjs ?_ _) | (with_reducible refine Kd.C_drew ?_) | exact HR156_0.out)) : p := h
theorem q123_ {p : Prop} (h : p := by (with_reducible repeat first | apply bN_ | apply bD_ | apply bA_); refine zcm (cs := #[.int .i64 t433, .int .i64 t434, .string (⟨#[]⟩ : ByteArray)]) ?_ 2 _ rfl; (with_reducible repeat first | apply bN_ | apply bD_ | apply bA_); refine zcm (cs := #[.int .i64 t433, .int .i64 0, .string (⟨#[]⟩ : ByteArray)]) ?_ 1 _ rfl; (with_reducible repeat first | apply bN_ | apply bD_ | apply bA_); refine zcm (cs := #[.int .i64 0, .int .i64 0, .string (⟨#[]⟩ : ByteArray)]) ?_ 0 _ rfl; (with_reducible repeat first | apply bN_ | apply bD_ | apply bA_); exact BK437.out) : p := h
theorem q124_ {p : Prop} (h : p := by (with_reducible repeat first | apply bN_ | apply bD_ | apply bA_); refine zcm (cs := #[.int .i64 t290, .int .i64 t291, .string (⟨#[]⟩ : ByteArray)]) ?_ 2 _ rfl; (with_reducible repeat first | apply bN_ | apply bD_ | apply bA_); refine zcm (cs := #[.int .i64 t290, .int .i64 0, .string (⟨#[]⟩ : ByteArray)]) ?_ 1 _ rfl; (with_reducible repeat first | apply bN_ | apply bD_ | apply bA_); refine zcm (cs := #[.int .i64 0, .int .i64 0, .string (⟨#[]⟩ : ByteArray)]) ?_ 0 _ rfl; (with_reducible repeat first | apply bN_ | apply bD_ | apply bA_); exact BK293.out) : p := h
theorem q125_ {p : Prop} (h : p := by (with_reducible repeat (first | apply Kd.zdt | apply Kd.zdv | apply Kd.zcy)); exact Kd.zbe HO763.out (fun _ hk => ⟨hk.1.1.1.1.1.1, ⟨hk.1.1.2, ⟨hk.2, hk.1.1.1.1.1.2⟩⟩⟩)) : p := h
theorem q126_ {p : Prop} (h : p := by (with_reducible repeat first | apply bN_ | apply bD_ | apply bA_); refine zcm (cs := #[.int .i64 0, .int .i64 0, .string (⟨#[]⟩ : ByteArray)]) ?_ 2 _ rfl; (with_reducible repeat first | apply bN_ | apply bD_ | apply bA_); refine zcm (cs := #[.int .i64 0, .int .i64 0, .string (⟨#[]⟩ : ByteArray)]) ?_ 1 _ rfl; (with_reducible repeat first | apply bN_ | apply bD_ | apply bA_); refine zcm (cs := #[.int .i64 0, .int .i64 0, .string (⟨#[]⟩ : ByteArray)]) ?_ 0 _ rfl; (with_reducible repeat first | apply bN_ | apply bD_ | apply bA_); exact BK289.out) : p := h
theorem q127_ {p : Prop} (h : p := by (with_reducible repeat (first | apply Kd.zdt | apply Kd.zdv | apply Kd.zcy)); exact Kd.zbe HO767.out (fun _ hk => ⟨hk.1.1.1.1.1, ⟨hk.1.1.2, ⟨hk.2, hk.1.1.1.1.2.2⟩⟩⟩)) : p := h
theorem q128_ {p : Prop} (h : p := by (with_reducible repeat first | apply bN_ | apply bD_ | apply bA_); exact BK288.out) : p := h
theorem q129_ {p : Prop} (h : p := by (with_reducible repeat (first | apply Kd.zdt | apply Kd.zdv | apply Kd.zcy)); exact Kd.zbe HO781.out (fun _ hk => ⟨hk.1, ⟨hk.2.2.2.2.1, hk.2.2.2.2.2⟩⟩)) : p := h
theorem q130_ {p : Prop} (h : p := by exact nx_ HO_15.out) : p := h
theorem q131_ {p : Prop} (h : p := by exact nx_ HO814.out) : p := h
theorem q132_ {p : Prop} (h : p := by exact nx_ HO_6.out) : p := h
theorem q135_ {p : Prop} (h : p := by (with_reducible repeat (first | apply Kd.zdt | apply Kd.zdv | apply Kd.zcy)); exact Kd.zbe HO774.out (fun _ hk => ⟨hk.1.1.1, ⟨hk.2, hk.1.1.2.2.2⟩⟩)) : p := h
theorem q136_ {p : Prop} (h : p := by (with_reducible repeat first | apply bN_ | apply bD_ | apply bA_); exact BK230.out) : p := h
theorem q137_ {p : Prop} (h : p := by rw [hw]; exact (by (with_reducible repeat (first | apply Kd.zfm | apply Kd.zfj | apply Kd.zfe)); exact Kd.zax (Kd.V_far (p := ⟨gb157, 1, none⟩) (Kd.V_far (p := ⟨gb157, 0, none⟩) (Kd.zax HL156_0.out (fun k_ hk => (⟨hk, hk.2⟩ : _ ∧ k_ ≠ gb157))) (fun _ hk => hk.2) (.slice A156_0 ((zah l0 x11_1).f0).length c156_0)) (fun _ hk => hk.2) (.int .i64 ((zah l0 x11_1).f1))) (fun _ hk => ⟨hk.1.1.1, ⟨hk.1.1.2, hk.1.2⟩⟩))) : p := h
theorem q138_ {p : Prop} (h : p := by rw [hw]; exact (by (with_reducible repeat (first | apply Kd.zfm | apply Kd.zfj | apply Kd.zfe)); exact Kd.zax (Kd.V_far (p := ⟨gb157, 1, none⟩) (Kd.V_far (p := ⟨gb157, 0, none⟩) (Kd.zax HO_9.out (fun k_ hk => (⟨hk, hk.2⟩ : _ ∧ k_ ≠ gb157))) (fun _ hk => hk.2) (.slice A156_0 ((zah l0 x11_1).f0).length c156_0)) (fun _ hk => hk.2) (.int .i64 ((zah l0 x11_1).f1))) (fun _ hk => ⟨hk.1.1.1, ⟨hk.1.1.2, hk.1.2⟩⟩))) : p := h
theorem q140_ {p : Prop} (h : p := by rw [hw]; exact (by (with_reducible repeat (first | apply Kd.zdt | apply Kd.zdv | apply Kd.zcy)); exact Kd.zbe (Kd.N_far (p := ⟨gb157, 1, none⟩) (Kd.N_far (p := ⟨gb157, 0, none⟩) (Kd.zbe HO_6.out (fun k_ hk => (⟨hk, hk.2⟩ : _ ∧ k_ ≠ gb157))) (fun _ hk => hk.2) (.slice A156_0 ((zah l0 x11_1).f0).length c156_0)) (fun _ hk => hk.2) (.int .i64 ((zah l0 x11_1).f1))) (fun _ hk => ⟨hk.1.1, hk.1.2⟩))) : p := h
theorem q141_ {p : Prop} (h : p := by first | exact q501 | exact of_decide_eq_true (by first | (with_reducible assumption) | assumption) | (have e_ := (Kd.zbi HO499.out).1; omega)) : p := h
theorem q142_ {p : Prop} (h : p := by first | exact q420 | exact of_decide_eq_true (by first | (with_reducible assumption) | assumption) | (have e_ := (Kd.zaw HO_33.out).1; omega)) : p := h
theorem q144_ {p : Prop} (h : p := by first | exact q156 | exact of_decide_eq_true (by first | (with_reducible assumption) | assumption) | (have e_ := (Kd.zaw HO_9.out).1; omega)) : p := h
theorem q145_ {p : Prop} (h : p := by exact vx_ HO_206003.out) : p := h
theorem q153_ {p : Prop} (h : p := by rw [← hq_]; exact (by repeat (first | (with_reducible first | exact HB.out | apply zbx | apply zbr | apply zbh | refine zcj ?_ (zag.out (by assumption))) | exact HB.out))) : p := h
theorem q154_ {p : Prop} (h : p := by exact nx_ HO834.out) : p := h
theorem q155_ {p : Prop} (h : p := by exact nx_ HO817.out) : p := h
theorem q156_ {p : Prop} (h : p := by exact nx_ HO771.out) : p := h
theorem q157_ {p : Prop} (h : p := by have := HK1.out; first | omega | exact Nat.le_refl _) : p := h
theorem q158_ {p : Prop} (h : p := by have := HJ6.out; first | omega | exact Nat.le_refl _) : p := h
theorem q159_ {p : Prop} (h : p := by exact nx_ HO_0.out) : p := h
theorem q160_ {p : Prop} (h : p := by first | exact HG.out | (refine Glob.below HG.out ?_; (repeat (first | (with_reducible first | exact HB.out | apply zbx | apply zbr | apply zbh | refine zcj ?_ GE335.out | refine zcj ?_ GE340.out | refine zcj ?_ GE351.out | refine zcj ?_ GE352.out) | exact HB.out))) | (repeat (first | exact HG.out | apply Glob.drewN | apply Glob.drew | apply Glob.alloc))) : p := h
theorem q161_ {p : Prop} (h : p := by (with_reducible repeat first | apply bN_ | apply bD_ | apply bA_); exact BK168.out) : p := h
theorem q162_ {p : Prop} (h : p := by (with_reducible repeat first | apply bN_ | apply bD_ | apply bA_); exact BK135.out) : p := h
theorem q163_ {p : Prop} (h : p := by rw [hw]; exact (by (with_reducible repeat first | apply bN_ | apply bD_ | apply bA_); refine zcm (cs := #[.slice A156_0 ((zah l0 x11_1).f0).length c156_0, .int .i64 0]) ?_ 1 _ rfl; (with_reducible repeat first | apply bN_ | apply bD_ | apply bA_); refine zcm (cs := #[.slice none 0 0, .int .i64 0]) ?_ 0 _ rfl; (with_reducible repeat first | apply bN_ | apply bD_ | apply bA_); exact BK157.out)) : p := h
theorem q164_ {p : Prop} (h : p := by (with_reducible repeat first | apply bN_ | apply bD_ | apply bA_); refine zbz ?_ NB289_293.out _; (with_reducible repeat first | apply bN_ | apply bD_ | apply bA_); refine zbz ?_ NB289_293.out _; (with_reducible repeat first | apply bN_ | apply bD_ | apply bA_); refine zbz ?_ NB289_293.out _; (with_reducible repeat first | apply bN_ | apply bD_ | apply bA_); exact BK289.out) : p := h
theorem q165_ {p : Prop} (h : p := by (with_reducible repeat first | apply bN_ | apply bD_ | apply bA_); refine zbz ?_ NB288_293.out _; (with_reducible repeat first | apply bN_ | apply bD_ | apply bA_); refine zbz ?_ NB288_293.out _; (with_reducible repeat first | apply bN_ | apply bD_ | apply bA_); refine zbz ?_ NB288_293.out _; (with_reducible repeat first | apply bN_ | apply bD_ | apply bA_); exact BK288.out) : p := h
theorem q166_ {p : Prop} (h : p := by (with_reducible repeat first | apply bN_ | apply bD_ | apply bA_); refine zbz ?_ NB287_293.out _; (with_reducible repeat first | apply bN_ | apply bD_ | apply bA_); refine zbz ?_ NB287_293.out _; (with_reducible repeat first | apply bN_ | apply bD_ | apply bA_); refine zbz ?_ NB287_293.out _; (with_reducible repeat first | apply bN_ | apply bD_ | apply bA_); exact BK287.out) : p := h
theorem q167_ {p : Prop} (h : p := by repeat (first | (with_reducible exact HR399_0.out) | (with_reducible refine Kd.zju ?_ _) | (with_reducible refine Kd.zjs ?_ _) | (with_reducible refine Kd.C_drew ?_) | exact HR399_0.out)) : p := h
theorem q168_ {p : Prop} (h : p := by repeat (first | (with_reducible exact HR209_3.out) | (with_reducible refine Kd.zju ?_ _) | (with_reducible refine Kd.zjs ?_ _) | (with_reducible refine Kd.C_drew ?_) | exact HR209_3.out)) : p := h
theorem q170_ {p : Prop} (h : p := by first | exact HG.out | (refine Glob.below HG.out ?_; (repeat (first | (with_reducible first | exact HB.out | apply zbx | apply zbr | apply zbh | refine zcj ?_ GE411.out | refine zcj ?_ GE421.out | refine zcj ?_ GE428.out) | exact HB.out))) | (repeat (first | exact HG.out | apply Glob.drewN | apply Glob.drew | apply Glob.alloc))) : p := h
theorem q171_ {p : Prop} (h : p := by first | exact HG.out | (refine Glob.below HG.out ?_; (repeat (first | (with_reducible first | exact HB.out | apply zbx | apply zbr | apply zbh | refine zcj ?_ GE260.out | refine zcj ?_ GE261.out | refine zcj ?_ GE262.out) | exact HB.out))) | (repeat (first | exact HG.out | apply Glob.drewN | apply Glob.drew | apply Glob.alloc))) : p := h
theorem q172_ {p : Prop} (h : p := by have := World.block_lt_of_cell? _ _ hx341_0; first | rwa [add_block] at this | exact this) : p := h
theorem q175_ {p : Prop} (h : p := by (try simp only [List.map_toArray, List.map_cons, List.map_nil]); first | done | (simp only [hji38, hji41]; rfl) | rfl | (simp only [List.length_drop, List.length_take]; rfl)) : p := h
theorem q176_ {p : Prop} (h : p := by (with_reducible repeat first | apply bN_ | apply bD_ | apply bA_); exact BK289.out) : p := h
theorem q177_ {p : Prop} (h : p := by (with_reducible repeat first | apply bN_ | apply bD_ | apply bA_); exact BK249.out) : p := h
theorem q178_ {p : Prop} (h : p := by (with_reducible repeat first | apply bN_ | apply bD_ | apply bA_); exact BK236.out) : p := h
theorem q179_ {p : Prop} (h : p := by exact vx_ HO_422000.out) : p := h
theorem q180_ {p : Prop} (h : p := by exact rx_ HO_429000.out) : p := h
theorem q181_ {p : Prop} (h : p := by (with_reducible repeat (first | apply Kd.zfm | apply Kd.zfj | apply Kd.zfe)); exact Kd.zax HO3.out (fun _ hk => ⟨hk.1.1, ⟨hk.1.2, hk.2⟩⟩)) : p := h
theorem q182_ {p : Prop} (h : p := by (with_reducible repeat (first | apply Kd.zfm | apply Kd.zfj | apply Kd.zfe)); exact Kd.zax HO2.out (fun _ hk => ⟨hk.1.1, ⟨hk.1.2, hk.2⟩⟩)) : p := h
theorem q183_ {p : Prop} (h : p := by exact vx_ HL502_0.out) : p := h
theorem q184_ {p : Prop} (h : p := by exact vx_ HL501_0.out) : p := h
theorem q185_ {p : Prop} (h : p := by exact vx_ HO_13.out) : p := h
theorem q186_ {p : Prop} (h : p := by exact nx_ HO_22.out) : p := h
theorem q187_ {p : Prop} (h : p := by exact nx_ HO888.out) : p := h
theorem q188_ {p : Prop} (h : p := by exact nx_ HO821.out) : p := h
theorem q189_ {p : Prop} (h : p := by exact nx_ HO786.out) : p := h
theorem q190_ {p : Prop} (h : p := by exact nx_ HO774.out) : p := h
theorem q191_ {p : Prop} (h : p := by exact nx_ HO499.out) : p := h
theorem q192_ {p : Prop} (h : p := by exact nx_ HO464.out) : p := h
theorem q193_ {p : Prop} (h : p := by exact vx_ HO_9.out) : p := h
theorem q194_ {p : Prop} (h : p := by exact nx_ HO_4.out) : p := h
theorem q195_ {p : Prop} (h : p := by first | exact q502 | exact of_decide_eq_true (by first | (with_reducible assumption) | assumption) | (have e_ := (Kd.zbi HO499.out).1; omega)) : p := h
theorem q200_ {p : Prop} (h : p := by (with_reducible repeat first | apply bN_ | apply bD_ | apply bA_); exact BK403.out) : p := h
theorem q201_ {p : Prop} (h : p := by (with_reducible repeat first | apply bN_ | apply bD_ | apply bA_); exact BK379.out) : p := h
theorem q202_ {p : Prop} (h : p := by (with_reducible repeat first | apply bN_ | apply bD_ | apply bA_); exact BK281.out) : p := h
theorem q203_ {p : Prop} (h : p := by (with_reducible repeat first | apply bN_ | apply bD_ | apply bA_); exact BK223.out) : p := h
theorem q204_ {p : Prop} (h : p := by (with_reducible repeat first | apply bN_ | apply bD_ | apply bA_); exact BK173.out) : p := h
theorem q205_ {p : Prop} (h : p := by (with_reducible repeat first | apply bN_ | apply bD_ | apply bA_); exact BK165.out) : p := h
theorem q206_ {p : Prop} (h : p := by (with_reducible repeat first | apply bN_ | apply bD_ | apply bA_); exact BK140.out) : p := h
theorem q207_ {p : Prop} (h : p := by (with_reducible repeat first | apply bN_ | apply bD_ | apply bA_); exact BK118.out) : p := h
theorem q208_ {p : Prop} (h : p := by first | (rw [add_block]; exact hn341_4) | (show (Addr.add _ _).block ≠ _; rw [add_block]; exact hn341_4) | exact hn341_4) : p := h
theorem q209_ {p : Prop} (h : p := by first | (rw [add_block]; exact hn341_3) | (show (Addr.add _ _).block ≠ _; rw [add_block]; exact hn341_3) | exact hn341_3) : p := h
theorem q210_ {p : Prop} (h : p := by first | (rw [add_block]; exact hn341_2) | (show (Addr.add _ _).block ≠ _; rw [add_block]; exact hn341_2) | exact hn341_2) : p := h
theorem q211_ {p : Prop} (h : p := by first | (rw [add_block]; exact hn341_1) | (show (Addr.add _ _).block ≠ _; rw [add_block]; exact hn341_1) | exact hn341_1) : p := h
theorem q212_ {p : Prop} (h : p := by first | (rw [add_block]; exact hn341_0) | (show (Addr.add _ _).block ≠ _; rw [add_block]; exact hn341_0) | exact hn341_0) : p := h
theorem q221_ {p : Prop} (h : p := by exact nx_ HO802.out) : p := h
theorem q222_ {p : Prop} (h : p := by exact nx_ HO758.out) : p := h

end Go.Proofs.YtnggdcdiachkpaaDoor.P
