-- Written by our own program (wip/xprint) over the seat's translation. Lean checks it.
import Derived.Test.YtiamgfpeffjcjaaDoorProg
import Derived.Below
import Derived.Deep.Draws
import Derived.Deep.AppendLies
import Derived.Maps.AppendAt
import Derived.OwnWalk
import Derived.Laws.BytesArg
import Derived.Laws.MakeOwn
import Derived.Laws.OwnMore
import Derived.Deep.OwnRows
import Derived.Tactics
import Derived.Lib.ConvBytes
import Derived.Laws.Slices
import Derived.WalkKit
import Derived.KernelRfl
import Derived.RowKit3
import Derived.Deep.LoopGhost
import Derived.Deep.QuietTactic
import Derived.BigQuiet
import Derived.WideLaws
import Derived.Deep.DeepCutAuto
import Derived.Deep.CutBlock
import Derived.Deep.RegionHeld3
import Derived.Laws.Rows
import Derived.Lib.AppendStr
import Derived.ArgAppend
import Derived.Laws.IdiomCopy
import Derived.OrdersHeld
import Derived.Laws.BitsLemmas
import Derived.RowKit
import Derived.Shelf.Unicode.ValidAny
import Derived.Lib.ValidU
import Derived.Test.YtiamgfpeffjcjaaDoorShelf
import Derived.Test.YtiamgfpeffjcjaaDoorWWords
import Derived.Test.YtiamgfpeffjcjaaDoorWLast
import Derived.Test.YtiamgfpeffjcjaaDoorWTab
import Derived.Test.YtiamgfpeffjcjaaDoorWFour
import Derived.Test.YtiamgfpeffjcjaaDoorWQPut
import Derived.Test.YtiamgfpeffjcjaaDoorWApart
import Derived.Test.YtiamgfpeffjcjaaDoorWArr
import Derived.Test.YtiamgfpeffjcjaaDoorWZeros
import Derived.Test.YtiamgfpeffjcjaaDoorWFoot
import Derived.Test.YtiamgfpeffjcjaaDoorWKept
import Derived.Test.YtiamgfpeffjcjaaDoorWShare
import Derived.Test.YtiamgfpeffjcjaaDoorWN
import Derived.Test.YtiamgfpeffjcjaaDoorWFootNe
import Derived.Test.YtiamgfpeffjcjaaDoorWAt
import Derived.Test.YtiamgfpeffjcjaaDoorWEqStruct
import Derived.Test.YtiamgfpeffjcjaaDoorWRepsOne
import Derived.Test.YtiamgfpeffjcjaaDoorWInv
import Derived.Test.YtiamgfpeffjcjaaDoorWInvWords
import Derived.Test.YtiamgfpeffjcjaaDoorWGuard
import Derived.Test.YtiamgfpeffjcjaaDoorWNEv
import Derived.Test.YtiamgfpeffjcjaaDoorWMore
namespace Go.Proofs.YtiamgfpeffjcjaaDoor.P
open Go.RowKit Go.Proofs.YtiamgfpeffjcjaaDoorW.PrintWords Go.Proofs.YtiamgfpeffjcjaaDoorW.PrintLast Go.Proofs.YtiamgfpeffjcjaaDoorW.PrintMore
attribute [local go_sem] max2_int min2_int max_two min_two max_three min_three max_four min_four   -- for this text's walks alone
set_option linter.unusedVariables false
set_option linter.unusedSimpArgs false



def errW : Option Int → Value
  | none => .nilIface
  | some c => .iface 0 (.int .i64 c)
theorem errW_none : errW none = .nilIface := rfl
theorem errW_some (c : Int) : errW (some c) = .iface 0 (.int .i64 c) := rfl

/-! ### our own words: calls of body-less functions, calls of a known function value -/
section
variable {P : Program} {ops : Array Oper} {Q : Exit → Act → World → Prop}
/-- What a function without a body comes to (the model stands in for it): it yields at once and leaves the world alone. -/
def Ext (P : Program) (f : FuncId) (args : Array Value) (w : World) (R : Ending → World → Prop) : Prop :=
  ∃ v, (callFunc f args).run P w = .ok (.value v) w ∧ R (.returned v) w
theorem Ext.mono {f : FuncId} {args : Array Value} {w : World} {R R' : Ending → World → Prop} (h : Ext P f args w R) (hr : ∀ e w', R e w' → R' e w') : Ext P f args w R' := by
  obtain ⟨v, h1, h2⟩ := h
  exact ⟨v, h1, hr _ _ h2⟩
theorem goesXL_ {rest : List Oper} {oi : Oper} {a : Act} {w : World} (N : Option Tmp) (hd : oi.dst = N) (hg : oi.guard = none) {f : FuncId} {as_ : Array Operand} {ts : Array TypeId} (args : Array Value)
    (hop : oi.op = .call { callee := .value (.func f), args := as_, argTypes := ts }) (hargs : as_.map a.eval = args)
    (h : Ext P f args w fun e w' => ∃ v, e = .returned v ∧ wpList P ops Q rest (a.put N v) w') : wpList P ops Q (oi :: rest) a w := by
  refine wpList_plain hg fun K hK => ?_
  obtain ⟨v, he, v', hv, hk⟩ := h
  obtain rfl : v = v' := by injection hv
  have hrun : (execOp a.eval oi).run P w = .ok (.value v) w := by
    unfold execOp
    simp [hop, resolve, Deferred.ofValue, invoke, Act.eval, hargs, he]
  unfold Oper.wp
  rw [hrun]
  subst hd
  exact hK _ _ hk
theorem goesX_ {oi : Oper} {N : Option Tmp} {a : Act} {w : World} {K : Act → World → Prop} {f : FuncId} {as_ : Array Operand} {ts : Array TypeId} (args : Array Value)
    (hw : Region.wanted oi (yielded ops a.tmps) = true) (hN : oi.dst = N) (hop : oi.op = .call { callee := .value (.func f), args := as_, argTypes := ts }) (hargs : as_.map a.eval = args)
    (h : Ext P f args w fun e w' => ∃ v, e = .returned v ∧ K (a.put N v) w') : if Region.wanted oi (yielded ops a.tmps) = true then Oper.wp P oi a w K Q else K (a.put N undef) w := by
  obtain ⟨v, he, v', hv, hk⟩ := h
  obtain rfl : v = v' := by injection hv
  refine value_ hw hN ?_ hk
  unfold execOp
  simp [hop, resolve, Deferred.ofValue, invoke, Act.eval, hargs, he]
theorem gate_calleeT {rest : List Oper} {o : Oper} {a : Act} {W : World} {t : Tmp} {as_ : Array Operand} {ts : Array TypeId} (_ho : o.op = .call { callee := .value (.tmp t), args := as_, argTypes := ts }) (h : wpList P ops Q (o :: rest) a W) : wpList P ops Q (o :: rest) a W := h
theorem goesTL_ {rest : List Oper} {oi : Oper} {a : Act} {w : World} (N : Option Tmp) (hd : oi.dst = N) (hg : oi.guard = none) {f : FuncId} {fn : Func} {c : Operand} {as_ : Array Operand} {ts : Array TypeId} (hf : P.funcs[f]? = some fn) (hname : (fn.name == "runtime.NumGoroutine") = false) (hb : fn.body.isSome = true) (args : Array Value)
    (hop : oi.op = .call { callee := .value c, args := as_, argTypes := ts }) (hc : a.eval c = .func (.func f) #[] #[]) (hargs : as_.map a.eval = args)
    (h : Calls P f args w fun e w' => ∃ v, e = .returned v ∧ wpList P ops Q rest (a.put N v) w') : wpList P ops Q (oi :: rest) a w := by
  refine wpList_plain hg fun K hK => ?_
  have he := enters_ hf hname hb args w
  have hrun : (execOp a.eval oi).run P w = .ok (.enter f args) w := by
    unfold execOp
    simp [hop, resolve, hc, Deferred.ofValue, invoke, hargs, he]
  unfold Oper.wp
  rw [hrun, Oper.upon_enter]
  refine h.mono fun e w'' hh => ?_
  obtain ⟨v, rfl, hk⟩ := hh
  subst hd
  exact hK _ _ hk
theorem goesT_ {oi : Oper} {N : Option Tmp} {a : Act} {w : World} {K : Act → World → Prop} {f : FuncId} {fn : Func} {c : Operand} {as_ : Array Operand} {ts : Array TypeId} (hf : P.funcs[f]? = some fn) (hname : (fn.name == "runtime.NumGoroutine") = false) (hb : fn.body.isSome = true) (args : Array Value)
    (hw : Region.wanted oi (yielded ops a.tmps) = true) (hN : oi.dst = N) (hop : oi.op = .call { callee := .value c, args := as_, argTypes := ts }) (hc : a.eval c = .func (.func f) #[] #[]) (hargs : as_.map a.eval = args)
    (h : Calls P f args w fun e w' => ∃ v, e = .returned v ∧ K (a.put N v) w') : if Region.wanted oi (yielded ops a.tmps) = true then Oper.wp P oi a w K Q else K (a.put N undef) w := by
  refine call_ f args hw hN ?_ h
  have he := enters_ hf hname hb args w
  unfold execOp
  simp [hop, resolve, hc, Deferred.ofValue, invoke, hargs, he]
end
/-! strings that stand one after the other -/
theorem xBytesLess_gt : ∀ (x y : List UInt8), (!(Op.bytesLess x y || x == y)) = Op.bytesLess y x
  | [], [] => rfl
  | [], b :: y => rfl
  | a :: x, [] => rfl
  | a :: x, b :: y => by
    have ih := xBytesLess_gt x y
    simp only [Op.bytesLess]
    by_cases h : a = b
    · subst h
      have h1 : decide (a < a) = false := by simp
      simp only [h1, Bool.false_or, beq_self_eq_true, Bool.true_and]
      rw [← ih]; simp
    · have h2 : (a == b) = false := by simpa using h
      have h3 : (b == a) = false := by simpa using (Ne.symm h)
      have h4 : (a :: x == b :: y) = false := by simp [h]
      rw [h2, h3, h4]
      simp only [Bool.false_and, Bool.or_false]
      have : a < b ∨ b < a := by
        rcases UInt8.lt_or_lt_of_ne h with h | h
        · exact .inl h
        · exact .inr h
      by_cases hl : a < b
      · have : ¬ b < a := UInt8.lt_asymm hl
        simp [hl, this]
      · have : b < a := by rcases this with h | h; exact absurd h hl; exact h
        simp [hl, this]
@[go_sem] theorem xbinOp_string_gtr (t : TypeId) (a b : ByteArray) : binOp .gtr t (.string a) (.string b) = pure (.bool (Op.bytesLess b.toList a.toList)) := by rw [← xBytesLess_gt]; simp [binOp, Op.stringOp]
@[go_sem] theorem xbinOp_string_leq (t : TypeId) (a b : ByteArray) : binOp .leq t (.string a) (.string b) = pure (.bool (!(Op.bytesLess b.toList a.toList))) := by rw [← xBytesLess_gt, Bool.not_not]; simp [binOp, Op.stringOp]
@[go_sem] theorem xbinOp_string_geq (t : TypeId) (a b : ByteArray) : binOp .geq t (.string a) (.string b) = pure (.bool (!(Op.bytesLess a.toList b.toList))) := by simp [binOp, Op.stringOp]
/-! short names -/
abbrev bN_ := @blk_drewN
abbrev bD_ := @blk_drew
abbrev bA_ := @blk_alloc

/-- What the library's two tables of UTF-8 hold, as the program's text lays them. -/
def Glob (w : World) : Prop := Go.Lib.Utf8Tabs (Tryd.laysValid_ren.g 3) (Tryd.laysValid_ren.g 4) w
theorem Glob.below {w w' : World} (h : Glob w) (hb : Below w.heap.size w w') : Glob w' := Utf8Tabs_below h hb
theorem Glob.drewN {w : World} (h : Glob w) (n : Nat) : Glob (w.drewN n) := h
theorem Glob.drew {w : World} (h : Glob w) : Glob w.drew := h
theorem Glob.alloc {w : World} (h : Glob w) (o : Obj) : Glob (w.alloc o) := h.below (below_alloc (Below.refl _ _) o)

theorem info3 : (Tryd.prog.info? 3).map (fun i => (i.zero, i.size, i.bytes)) = some (some (.int .i64 0), 1, 8) := by kernel_rfl
theorem info31 : (Tryd.prog.info? 31).map (fun i => (i.zero, i.size, i.bytes)) = some (some (.agg #[(.int .i64 0), (.int .i64 0), (.string ⟨#[]⟩)]), 3, 32) := by kernel_rfl
theorem info36 : (Tryd.prog.info? 36).map (fun i => (i.zero, i.size, i.bytes)) = some (some (.agg #[(.int .i64 0), (.int .i64 0)]), 2, 16) := by kernel_rfl
theorem info39 : (Tryd.prog.info? 39).map (fun i => (i.zero, i.size, i.bytes)) = some (some (.agg #[(.int .i64 0), (.int .i64 0), (.int .i64 0), (.int .i64 0), (.string ⟨#[]⟩)]), 5, 48) := by kernel_rfl
-- the values' own types
/-! #### struct type 31 -/
structure S31 where
  f0 : Int
  f1 : Int
  f2 : ByteArray
def z31 : S31 := ⟨(0 : Int), (0 : Int), (⟨#[]⟩ : ByteArray)⟩
def k31 : Kd S31 := Kd.iso (Kd.pair (Kd.int .i64) (Kd.pair (Kd.int .i64) Kd.string)) (fun x : S31 => (x.f0, x.f1, x.f2))
theorem k31_open {w : World} {x : S31} {cs : List Value} (h : k31.K w x cs) : cs = [.int .i64 x.f0, .int .i64 x.f1, .string x.f2] := by
  obtain ⟨_, _, rfl, rfl, ⟨_, _, rfl, rfl, rfl⟩⟩ := h
  exact rfl
theorem k31_openM {w : World} {base : Nat} {ok : Nat → Prop} {x : S31} {cs : List Value} (h : k31.M w base ok x cs) : cs = [.int .i64 x.f0, .int .i64 x.f1, .string x.f2] := by
  obtain ⟨_, _, rfl, rfl, ⟨_, _, rfl, rfl, rfl⟩⟩ := h
  exact rfl
theorem k31_mk (w : World) (x : S31)  : k31.K w x [.int .i64 x.f0, .int .i64 x.f1, .string x.f2] := ⟨[.int .i64 x.f0], [.int .i64 x.f1, .string x.f2], rfl, rfl, ⟨[.int .i64 x.f1], [.string x.f2], rfl, rfl, rfl⟩⟩
theorem k31_mkM (w : World) (base : Nat) (ok : Nat → Prop) (x : S31)  : k31.M w base ok x [.int .i64 x.f0, .int .i64 x.f1, .string x.f2] := ⟨[.int .i64 x.f0], [.int .i64 x.f1, .string x.f2], rfl, rfl, ⟨[.int .i64 x.f1], [.string x.f2], rfl, rfl, rfl⟩⟩
def rd_T31 (xs : List S31) (i : Int) : S31 := xs.getD i.toNat z31
theorem at_T31 {w : World} {A : Option Addr} {n : Nat} {xs : List S31} (h : Kd.C k31 w A n xs) (i : Int) (h0 : 0 ≤ i) (h1 : i < n) : ∃ ad , A = some ad ∧ w.cell? (ad.add (i.toNat * 3)) = some (.int .i64 (rd_T31 xs i).f0) ∧ w.cell? ⟨(ad.add (i.toNat * 3)).block, (ad.add (i.toNat * 3)).off + 1, none⟩ = some (.int .i64 (rd_T31 xs i).f1) ∧ w.cell? ⟨(ad.add (i.toNat * 3)).block, (ad.add (i.toNat * 3)).off + 2, none⟩ = some (.string (rd_T31 xs i).f2) := by
  obtain ⟨ad, c, e, _, hK, hc0⟩ := Kd.C_get h z31 i h0 h1
  have hc : ∀ j u, c[j]? = some u → w.cell? (ad.add (i.toNat * 3 + j)) = some u := hc0
  obtain rfl := k31_open hK
  exact ⟨ad, e, hc 0 _ rfl, by rw [← add_field _ _ 1 (by omega)]; exact hc 1 _ rfl, by rw [← add_field _ _ 2 (by omega)]; exact hc 2 _ rfl⟩

/-! #### struct type 39 -/
structure S39 where
  f0 : Int
  f1 : Int
  f2 : S31
def z39 : S39 := ⟨(0 : Int), (0 : Int), z31⟩
def k39 : Kd S39 := Kd.iso (Kd.pair (Kd.int .i64) (Kd.pair (Kd.int .i64) k31)) (fun x : S39 => (x.f0, x.f1, x.f2))
theorem k39_open {w : World} {x : S39} {cs : List Value} (h : k39.K w x cs) : cs = [.int .i64 x.f0, .int .i64 x.f1, .int .i64 x.f2.f0, .int .i64 x.f2.f1, .string x.f2.f2] := by
  obtain ⟨_, _, rfl, rfl, ⟨_, _, rfl, rfl, s2⟩⟩ := h
  obtain rfl := k31_open s2
  exact rfl
theorem k39_openM {w : World} {base : Nat} {ok : Nat → Prop} {x : S39} {cs : List Value} (h : k39.M w base ok x cs) : cs = [.int .i64 x.f0, .int .i64 x.f1, .int .i64 x.f2.f0, .int .i64 x.f2.f1, .string x.f2.f2] := by
  obtain ⟨_, _, rfl, rfl, ⟨_, _, rfl, rfl, s2⟩⟩ := h
  obtain rfl := k31_openM s2
  exact rfl
theorem k39_mk (w : World) (x : S39)  : k39.K w x [.int .i64 x.f0, .int .i64 x.f1, .int .i64 x.f2.f0, .int .i64 x.f2.f1, .string x.f2.f2] := ⟨[.int .i64 x.f0], [.int .i64 x.f1, .int .i64 x.f2.f0, .int .i64 x.f2.f1, .string x.f2.f2], rfl, rfl, ⟨[.int .i64 x.f1], [.int .i64 x.f2.f0, .int .i64 x.f2.f1, .string x.f2.f2], rfl, rfl, (k31_mk w x.f2 )⟩⟩
theorem k39_mkM (w : World) (base : Nat) (ok : Nat → Prop) (x : S39)  : k39.M w base ok x [.int .i64 x.f0, .int .i64 x.f1, .int .i64 x.f2.f0, .int .i64 x.f2.f1, .string x.f2.f2] := ⟨[.int .i64 x.f0], [.int .i64 x.f1, .int .i64 x.f2.f0, .int .i64 x.f2.f1, .string x.f2.f2], rfl, rfl, ⟨[.int .i64 x.f1], [.int .i64 x.f2.f0, .int .i64 x.f2.f1, .string x.f2.f2], rfl, rfl, (k31_mkM w base ok x.f2 )⟩⟩
def rd_T39 (xs : List S39) (i : Int) : S39 := xs.getD i.toNat z39
theorem at_T39 {w : World} {A : Option Addr} {n : Nat} {xs : List S39} (h : Kd.C k39 w A n xs) (i : Int) (h0 : 0 ≤ i) (h1 : i < n) : ∃ ad , A = some ad ∧ w.cell? (ad.add (i.toNat * 5)) = some (.int .i64 (rd_T39 xs i).f0) ∧ w.cell? ⟨(ad.add (i.toNat * 5)).block, (ad.add (i.toNat * 5)).off + 1, none⟩ = some (.int .i64 (rd_T39 xs i).f1) ∧ w.cell? ⟨(ad.add (i.toNat * 5)).block, (ad.add (i.toNat * 5)).off + 2, none⟩ = some (.int .i64 (rd_T39 xs i).f2.f0) ∧ w.cell? ⟨(ad.add (i.toNat * 5)).block, (ad.add (i.toNat * 5)).off + 3, none⟩ = some (.int .i64 (rd_T39 xs i).f2.f1) ∧ w.cell? ⟨(ad.add (i.toNat * 5)).block, (ad.add (i.toNat * 5)).off + 4, none⟩ = some (.string (rd_T39 xs i).f2.f2) := by
  obtain ⟨ad, c, e, _, hK, hc0⟩ := Kd.C_get h z39 i h0 h1
  have hc : ∀ j u, c[j]? = some u → w.cell? (ad.add (i.toNat * 5 + j)) = some u := hc0
  obtain rfl := k39_open hK
  exact ⟨ad, e, hc 0 _ rfl, by rw [← add_field _ _ 1 (by omega)]; exact hc 1 _ rfl, by rw [← add_field _ _ 2 (by omega)]; exact hc 2 _ rfl, by rw [← add_field _ _ 3 (by omega)]; exact hc 3 _ rfl, by rw [← add_field _ _ 4 (by omega)]; exact hc 4 _ rfl⟩

/-! #### struct type 36 -/
structure S36 where
  f0 : Int
  f1 : Int
def z36 : S36 := ⟨(0 : Int), (0 : Int)⟩
def k36 : Kd S36 := Kd.iso (Kd.pair (Kd.int .i64) (Kd.int .i64)) (fun x : S36 => (x.f0, x.f1))
theorem k36_open {w : World} {x : S36} {cs : List Value} (h : k36.K w x cs) : cs = [.int .i64 x.f0, .int .i64 x.f1] := by
  obtain ⟨_, _, rfl, rfl, rfl⟩ := h
  exact rfl
theorem k36_openM {w : World} {base : Nat} {ok : Nat → Prop} {x : S36} {cs : List Value} (h : k36.M w base ok x cs) : cs = [.int .i64 x.f0, .int .i64 x.f1] := by
  obtain ⟨_, _, rfl, rfl, rfl⟩ := h
  exact rfl
theorem k36_mk (w : World) (x : S36)  : k36.K w x [.int .i64 x.f0, .int .i64 x.f1] := ⟨[.int .i64 x.f0], [.int .i64 x.f1], rfl, rfl, rfl⟩
theorem k36_mkM (w : World) (base : Nat) (ok : Nat → Prop) (x : S36)  : k36.M w base ok x [.int .i64 x.f0, .int .i64 x.f1] := ⟨[.int .i64 x.f0], [.int .i64 x.f1], rfl, rfl, rfl⟩
def rd_T36 (xs : List S36) (i : Int) : S36 := xs.getD i.toNat z36
theorem at_T36 {w : World} {A : Option Addr} {n : Nat} {xs : List S36} (h : Kd.C k36 w A n xs) (i : Int) (h0 : 0 ≤ i) (h1 : i < n) : ∃ ad , A = some ad ∧ w.cell? (ad.add (i.toNat * 2)) = some (.int .i64 (rd_T36 xs i).f0) ∧ w.cell? ⟨(ad.add (i.toNat * 2)).block, (ad.add (i.toNat * 2)).off + 1, none⟩ = some (.int .i64 (rd_T36 xs i).f1) := by
  obtain ⟨ad, c, e, _, hK, hc0⟩ := Kd.C_get h z36 i h0 h1
  have hc : ∀ j u, c[j]? = some u → w.cell? (ad.add (i.toNat * 2 + j)) = some u := hc0
  obtain rfl := k36_open hK
  exact ⟨ad, e, hc 0 _ rfl, by rw [← add_field _ _ 1 (by omega)]; exact hc 1 _ rfl⟩

def rd_L6 (xs : List (List S39)) (i : Int) : (List S39) := xs.getD i.toNat ([] : List S39)
theorem at_L6 {w : World} {A : Option Addr} {n : Nat} {xs : List (List S39)} (h : Kd.C (Kd.slice 39 k39) w A n xs) (i : Int) (h0 : 0 ≤ i) (h1 : i < n) : ∃ ad A0 c0, A = some ad ∧ w.cell? (ad.add i.toNat) = some (.slice A0 (rd_L6 xs i).length c0) ∧ (rd_L6 xs i).length ≤ c0 ∧ k39.C w A0 (rd_L6 xs i).length (rd_L6 xs i) := by
  obtain ⟨ad, c, e, _, hK, hc0⟩ := Kd.C_get h ([] : List S39) i h0 h1
  have hc : ∀ j u, c[j]? = some u → w.cell? (ad.add (i.toNat * 1 + j)) = some u := hc0
  obtain ⟨A0, c0, rfl, l0, g0⟩ := hK
  exact ⟨ad, A0, c0, e, by have hq := hc 0 _ rfl; rwa [Nat.mul_one, Nat.add_zero] at hq, l0, g0⟩

def rd_L7 (xs : List (List Int)) (i : Int) : (List Int) := xs.getD i.toNat ([] : List Int)
theorem at_L7 {w : World} {A : Option Addr} {n : Nat} {xs : List (List Int)} (h : Kd.C (Kd.slice 3 (Kd.int .i64)) w A n xs) (i : Int) (h0 : 0 ≤ i) (h1 : i < n) : ∃ ad A0 c0, A = some ad ∧ w.cell? (ad.add i.toNat) = some (.slice A0 (rd_L7 xs i).length c0) ∧ (rd_L7 xs i).length ≤ c0 ∧ (Kd.int .i64).C w A0 (rd_L7 xs i).length (rd_L7 xs i) := by
  obtain ⟨ad, c, e, _, hK, hc0⟩ := Kd.C_get h ([] : List Int) i h0 h1
  have hc : ∀ j u, c[j]? = some u → w.cell? (ad.add (i.toNat * 1 + j)) = some u := hc0
  obtain ⟨A0, c0, rfl, l0, g0⟩ := hK
  exact ⟨ad, A0, c0, e, by have hq := hc 0 _ rfl; rwa [Nat.mul_one, Nat.add_zero] at hq, l0, g0⟩

def rd_L8 (xs : List (List S31)) (i : Int) : (List S31) := xs.getD i.toNat ([] : List S31)
theorem at_L8 {w : World} {A : Option Addr} {n : Nat} {xs : List (List S31)} (h : Kd.C (Kd.slice 31 k31) w A n xs) (i : Int) (h0 : 0 ≤ i) (h1 : i < n) : ∃ ad A0 c0, A = some ad ∧ w.cell? (ad.add i.toNat) = some (.slice A0 (rd_L8 xs i).length c0) ∧ (rd_L8 xs i).length ≤ c0 ∧ k31.C w A0 (rd_L8 xs i).length (rd_L8 xs i) := by
  obtain ⟨ad, c, e, _, hK, hc0⟩ := Kd.C_get h ([] : List S31) i h0 h1
  have hc : ∀ j u, c[j]? = some u → w.cell? (ad.add (i.toNat * 1 + j)) = some u := hc0
  obtain ⟨A0, c0, rfl, l0, g0⟩ := hK
  exact ⟨ad, A0, c0, e, by have hq := hc 0 _ rfl; rwa [Nat.mul_one, Nat.add_zero] at hq, l0, g0⟩

/-! phrases that come often -/
theorem ifT_ {α : Type} {a b c : α} (h : (if true = true then a else b) = c) : a = c := h
theorem ifF_ {α : Type} {a b c : α} (h : (if false = true then a else b) = c) : b = c := h
theorem q0_ {p : Prop} (h : p := by repeat (first | (with_reducible first | exact HB.out | apply below_alloc | apply pw_below_drewN | apply below_drew1 | refine below_set ?_ (Aside0.out (by assumption))) | exact HB.out)) : p := h
theorem q1_ {p : Prop} (h : p := by rw [hg]; exact (below_size (by repeat (first | (with_reducible first | exact HB.out | apply below_alloc | apply pw_below_drewN | apply below_drew1 | refine below_set ?_ (Aside0.out (by assumption))) | exact HB.out)))) : p := h
theorem q2_ {p : Prop} (h : p := by (try simp only [List.map_toArray, List.map_cons, List.map_nil]); first | done | rfl | (simp only [List.length_drop, List.length_take]; rfl)) : p := h
theorem q3_ {p : Prop} (h : p := by first | exact HG.out | (refine Glob.below HG.out ?_; (repeat (first | (with_reducible first | exact HB.out | apply below_alloc | apply pw_below_drewN | apply below_drew1) | exact HB.out))) | (repeat (first | exact HG.out | apply Glob.drewN | apply Glob.drew | apply Glob.alloc))) : p := h
theorem q4_ {p : Prop} (h : p := by first | rfl | (simp [errW_none, errW_some] <;> rfl) | (simp [*, errW_none, errW_some] <;> rfl)) : p := h
theorem q5_ {p : Prop} (h : p := by (with_reducible repeat first | apply bN_ | apply bD_ | apply bA_); refine blk_put (cs := #[.int .i64 ((rd_T39 l0 x23_2).f0), .int .i64 ((rd_T39 l0 x23_2).f1), .int .i64 ((rd_T39 l0 x23_2).f2.f0), .int .i64 ((rd_T39 l0 x23_2).f2.f1), .string (⟨#[]⟩ : ByteArray)]) ?_ 4 _ rfl; (with_reducible repeat first | apply bN_ | apply bD_ | apply bA_); refine blk_put (cs := #[.int .i64 ((rd_T39 l0 x23_2).f0), .int .i64 ((rd_T39 l0 x23_2).f1), .int .i64 ((rd_T39 l0 x23_2).f2.f0), .int .i64 0, .string (⟨#[]⟩ : ByteArray)]) ?_ 3 _ rfl; (with_reducible repeat first | apply bN_ | apply bD_ | apply bA_); refine blk_put (cs := #[.int .i64 ((rd_T39 l0 x23_2).f0), .int .i64 ((rd_T39 l0 x23_2).f1), .int .i64 0, .int .i64 0, .string (⟨#[]⟩ : ByteArray)]) ?_ 2 _ rfl; (with_reducible repeat first | apply bN_ | apply bD_ | apply bA_); refine blk_put (cs := #[.int .i64 ((rd_T39 l0 x23_2).f0), .int .i64 0, .int .i64 0, .int .i64 0, .string (⟨#[]⟩ : ByteArray)]) ?_ 1 _ rfl; (with_reducible repeat first | apply bN_ | apply bD_ | apply bA_); refine blk_put (cs := #[.int .i64 0, .int .i64 0, .int .i64 0, .int .i64 0, .string (⟨#[]⟩ : ByteArray)]) ?_ 0 _ rfl; (with_reducible repeat first | apply bN_ | apply bD_ | apply bA_); exact BK116.out) : p := h
theorem q6_ {p : Prop} (h : p := by (with_reducible repeat first | apply bN_ | apply bD_ | apply bA_); refine blk_put (cs := #[.int .i64 ((rd_T39 l0 x11_1).f0), .int .i64 ((rd_T39 l0 x11_1).f1), .int .i64 ((rd_T39 l0 x11_1).f2.f0), .int .i64 ((rd_T39 l0 x11_1).f2.f1), .string (⟨#[]⟩ : ByteArray)]) ?_ 4 _ rfl; (with_reducible repeat first | apply bN_ | apply bD_ | apply bA_); refine blk_put (cs := #[.int .i64 ((rd_T39 l0 x11_1).f0), .int .i64 ((rd_T39 l0 x11_1).f1), .int .i64 ((rd_T39 l0 x11_1).f2.f0), .int .i64 0, .string (⟨#[]⟩ : ByteArray)]) ?_ 3 _ rfl; (with_reducible repeat first | apply bN_ | apply bD_ | apply bA_); refine blk_put (cs := #[.int .i64 ((rd_T39 l0 x11_1).f0), .int .i64 ((rd_T39 l0 x11_1).f1), .int .i64 0, .int .i64 0, .string (⟨#[]⟩ : ByteArray)]) ?_ 2 _ rfl; (with_reducible repeat first | apply bN_ | apply bD_ | apply bA_); refine blk_put (cs := #[.int .i64 ((rd_T39 l0 x11_1).f0), .int .i64 0, .int .i64 0, .int .i64 0, .string (⟨#[]⟩ : ByteArray)]) ?_ 1 _ rfl; (with_reducible repeat first | apply bN_ | apply bD_ | apply bA_); refine blk_put (cs := #[.int .i64 0, .int .i64 0, .int .i64 0, .int .i64 0, .string (⟨#[]⟩ : ByteArray)]) ?_ 0 _ rfl; (with_reducible repeat first | apply bN_ | apply bD_ | apply bA_); exact BK104.out) : p := h
theorem q7_ {p : Prop} (h : p := by first | rfl | (simp; done) | (simp [*]; done)) : p := h
theorem q8_ {p : Prop} (h : p := by first | exact Kd.own_blk (Kd.R_away HO_6.out (fun _ hk => hk.2.2)) | (rw [add_block]; exact Kd.own_blk (Kd.R_away HO_6.out (fun _ hk => hk.2.2))) | (show (Addr.add _ _).block ≠ _; rw [add_block]; exact Kd.own_blk (Kd.R_away HO_6.out (fun _ hk => hk.2.2))) | (dsimp only; exact Kd.own_blk (Kd.R_away HO_6.out (fun _ hk => hk.2.2)))) : p := h
theorem q9_ {p : Prop} (h : p := by first | exact Kd.own_blk (Kd.R_away HO_6.out (fun _ hk => hk.2.1)) | (rw [add_block]; exact Kd.own_blk (Kd.R_away HO_6.out (fun _ hk => hk.2.1))) | (show (Addr.add _ _).block ≠ _; rw [add_block]; exact Kd.own_blk (Kd.R_away HO_6.out (fun _ hk => hk.2.1))) | (dsimp only; exact Kd.own_blk (Kd.R_away HO_6.out (fun _ hk => hk.2.1)))) : p := h
theorem q10_ {p : Prop} (h : p := by (with_reducible repeat (first | apply Kd.R_alloc | apply Kd.R_drewN | apply Kd.R_drew)); exact Kd.R_mono (Kd.R_far (p := ⟨gb116, 4, none⟩) (Kd.R_far (p := ⟨gb116, 3, none⟩) (Kd.R_far (p := ⟨gb116, 2, none⟩) (Kd.R_far (p := ⟨gb116, 1, none⟩) (Kd.R_far (p := ⟨gb116, 0, none⟩) (Kd.R_types HO_6.out BK116.out (by decide)) (fun _ hk => hk.2) (.int .i64 ((rd_T39 l0 x23_2).f0))) (fun _ hk => hk.2) (.int .i64 ((rd_T39 l0 x23_2).f1))) (fun _ hk => hk.2) (.int .i64 ((rd_T39 l0 x23_2).f2.f0))) (fun _ hk => hk.2) (.int .i64 ((rd_T39 l0 x23_2).f2.f1))) (fun _ hk => hk.2) (.string ((rd_T39 l0 x23_2).f2.f2))) (fun _ hk => trivial)) : p := h
theorem q11_ {p : Prop} (h : p := by first | (with_reducible assumption) | assumption) : p := h
theorem q12_ {p : Prop} (h : p := by repeat (first | exact Drawn0.refl _ | apply Drawn0.step)) : p := h
theorem q13_ {p : Prop} (h : p := by (with_reducible repeat first | apply bN_ | apply bD_ | apply bA_); exact BK219.out) : p := h
theorem q14_ {p : Prop} (h : p := by (with_reducible repeat first | apply bN_ | apply bD_ | apply bA_); exact BK257.out) : p := h
theorem q15_ {p : Prop} (h : p := by (with_reducible repeat (first | apply Kd.R_alloc | apply Kd.R_drewN | apply Kd.R_drew)); exact (Kd.R_mono (Kd.R_far (p := ⟨gb377, 2, none⟩) (Kd.R_far (p := ⟨gb377, 1, none⟩) (Kd.R_far (p := ⟨gb377, 0, none⟩) (Kd.R_types HO372.out BK377.out (by decide)) (fun _ hk => hk.2) (.int .i64 t373)) (fun _ hk => hk.2) (.int .i64 t374)) (fun _ hk => hk.2) (.string t375)) (fun _ h_ => h_.1))) : p := h
theorem q16_ {p : Prop} (h : p := by (with_reducible repeat first | apply bN_ | apply bD_ | apply bA_); exact BK325.out) : p := h
theorem q17_ {p : Prop} (h : p := by rw [hw]; exact (by (with_reducible repeat first | apply bN_ | apply bD_ | apply bA_); refine blk_put (cs := #[.int .i64 ((rd_T39 l0 x23_2).f0), .int .i64 ((rd_T39 l0 x23_2).f1), .int .i64 ((rd_T39 l0 x23_2).f2.f0), .int .i64 ((rd_T39 l0 x23_2).f2.f1), .string (⟨#[]⟩ : ByteArray)]) ?_ 4 _ rfl; (with_reducible repeat first | apply bN_ | apply bD_ | apply bA_); refine blk_put (cs := #[.int .i64 ((rd_T39 l0 x23_2).f0), .int .i64 ((rd_T39 l0 x23_2).f1), .int .i64 ((rd_T39 l0 x23_2).f2.f0), .int .i64 0, .string (⟨#[]⟩ : ByteArray)]) ?_ 3 _ rfl; (with_reducible repeat first | apply bN_ | apply bD_ | apply bA_); refine blk_put (cs := #[.int .i64 ((rd_T39 l0 x23_2).f0), .int .i64 ((rd_T39 l0 x23_2).f1), .int .i64 0, .int .i64 0, .string (⟨#[]⟩ : ByteArray)]) ?_ 2 _ rfl; (with_reducible repeat first | apply bN_ | apply bD_ | apply bA_); refine blk_put (cs := #[.int .i64 ((rd_T39 l0 x23_2).f0), .int .i64 0, .int .i64 0, .int .i64 0, .string (⟨#[]⟩ : ByteArray)]) ?_ 1 _ rfl; (with_reducible repeat first | apply bN_ | apply bD_ | apply bA_); refine blk_put (cs := #[.int .i64 0, .int .i64 0, .int .i64 0, .int .i64 0, .string (⟨#[]⟩ : ByteArray)]) ?_ 0 _ rfl; (with_reducible repeat first | apply bN_ | apply bD_ | apply bA_); exact BK116.out)) : p := h
theorem q18_ {p : Prop} (h : p := by (with_reducible repeat first | apply bN_ | apply bD_ | apply bA_); refine blk_put (cs := #[.int .i64 ((rd_T39 l0 x26_3).f0), .int .i64 ((rd_T39 l0 x26_3).f1), .int .i64 ((rd_T39 l0 x26_3).f2.f0), .int .i64 ((rd_T39 l0 x26_3).f2.f1), .string (⟨#[]⟩ : ByteArray)]) ?_ 4 _ rfl; (with_reducible repeat first | apply bN_ | apply bD_ | apply bA_); refine blk_put (cs := #[.int .i64 ((rd_T39 l0 x26_3).f0), .int .i64 ((rd_T39 l0 x26_3).f1), .int .i64 ((rd_T39 l0 x26_3).f2.f0), .int .i64 0, .string (⟨#[]⟩ : ByteArray)]) ?_ 3 _ rfl; (with_reducible repeat first | apply bN_ | apply bD_ | apply bA_); refine blk_put (cs := #[.int .i64 ((rd_T39 l0 x26_3).f0), .int .i64 ((rd_T39 l0 x26_3).f1), .int .i64 0, .int .i64 0, .string (⟨#[]⟩ : ByteArray)]) ?_ 2 _ rfl; (with_reducible repeat first | apply bN_ | apply bD_ | apply bA_); refine blk_put (cs := #[.int .i64 ((rd_T39 l0 x26_3).f0), .int .i64 0, .int .i64 0, .int .i64 0, .string (⟨#[]⟩ : ByteArray)]) ?_ 1 _ rfl; (with_reducible repeat first | apply bN_ | apply bD_ | apply bA_); refine blk_put (cs := #[.int .i64 0, .int .i64 0, .int .i64 0, .int .i64 0, .string (⟨#[]⟩ : ByteArray)]) ?_ 0 _ rfl; (with_reducible repeat first | apply bN_ | apply bD_ | apply bA_); exact BK262.out) : p := h
theorem q19_ {p : Prop} (h : p := by (with_reducible repeat first | apply bN_ | apply bD_ | apply bA_); exact BK326.out) : p := h
theorem q20_ {p : Prop} (h : p := by (with_reducible repeat first | apply bN_ | apply bD_ | apply bA_); refine blk_far ?_ NB257_262.out _; (with_reducible repeat first | apply bN_ | apply bD_ | apply bA_); refine blk_far ?_ NB257_262.out _; (with_reducible repeat first | apply bN_ | apply bD_ | apply bA_); refine blk_far ?_ NB257_262.out _; (with_reducible repeat first | apply bN_ | apply bD_ | apply bA_); refine blk_far ?_ NB257_262.out _; (with_reducible repeat first | apply bN_ | apply bD_ | apply bA_); refine blk_far ?_ NB257_262.out _; (with_reducible repeat first | apply bN_ | apply bD_ | apply bA_); exact BK257.out) : p := h
theorem q21_ {p : Prop} (h : p := by (with_reducible repeat first | apply bN_ | apply bD_ | apply bA_); refine blk_put (cs := #[.int .i64 t405, .int .i64 t406, .string (⟨#[]⟩ : ByteArray)]) ?_ 2 _ rfl; (with_reducible repeat first | apply bN_ | apply bD_ | apply bA_); refine blk_put (cs := #[.int .i64 t405, .int .i64 0, .string (⟨#[]⟩ : ByteArray)]) ?_ 1 _ rfl; (with_reducible repeat first | apply bN_ | apply bD_ | apply bA_); refine blk_put (cs := #[.int .i64 0, .int .i64 0, .string (⟨#[]⟩ : ByteArray)]) ?_ 0 _ rfl; (with_reducible repeat first | apply bN_ | apply bD_ | apply bA_); exact BK409.out) : p := h
theorem q22_ {p : Prop} (h : p := by (with_reducible repeat first | apply bN_ | apply bD_ | apply bA_); refine blk_put (cs := #[.int .i64 t315, .int .i64 t316, .string (⟨#[]⟩ : ByteArray)]) ?_ 2 _ rfl; (with_reducible repeat first | apply bN_ | apply bD_ | apply bA_); refine blk_put (cs := #[.int .i64 t315, .int .i64 0, .string (⟨#[]⟩ : ByteArray)]) ?_ 1 _ rfl; (with_reducible repeat first | apply bN_ | apply bD_ | apply bA_); refine blk_put (cs := #[.int .i64 0, .int .i64 0, .string (⟨#[]⟩ : ByteArray)]) ?_ 0 _ rfl; (with_reducible repeat first | apply bN_ | apply bD_ | apply bA_); exact BK319.out) : p := h
theorem q23_ {p : Prop} (h : p := by (with_reducible repeat first | apply bN_ | apply bD_ | apply bA_); refine blk_put (cs := #[.int .i64 t293, .int .i64 t294, .string (⟨#[]⟩ : ByteArray)]) ?_ 2 _ rfl; (with_reducible repeat first | apply bN_ | apply bD_ | apply bA_); refine blk_put (cs := #[.int .i64 t293, .int .i64 0, .string (⟨#[]⟩ : ByteArray)]) ?_ 1 _ rfl; (with_reducible repeat first | apply bN_ | apply bD_ | apply bA_); refine blk_put (cs := #[.int .i64 0, .int .i64 0, .string (⟨#[]⟩ : ByteArray)]) ?_ 0 _ rfl; (with_reducible repeat first | apply bN_ | apply bD_ | apply bA_); exact BK297.out) : p := h
theorem q24_ {p : Prop} (h : p := by (with_reducible repeat first | apply bN_ | apply bD_ | apply bA_); exact BK387.out) : p := h
theorem q25_ {p : Prop} (h : p := by (with_reducible repeat first | apply bN_ | apply bD_ | apply bA_); exact BK220.out) : p := h
theorem q26_ {p : Prop} (h : p := by (with_reducible repeat (first | apply Kd.R_alloc | apply Kd.R_drewN | apply Kd.R_drew)); exact HO_6.out) : p := h
theorem q27_ {p : Prop} (h : p := by (with_reducible repeat (first | apply Kd.R_alloc | apply Kd.R_drewN | apply Kd.R_drew)); exact HO369.out) : p := h
theorem q28_ {p : Prop} (h : p := by (with_reducible repeat (first | apply Kd.R_alloc | apply Kd.R_drewN | apply Kd.R_drew)); exact HO289.out) : p := h
theorem q29_ {p : Prop} (h : p := by rw [hg]; exact Nat.ne_of_lt (blk_lt (g := gb219) (o := .cells #[.int .i64 a1_0, .int .i64 a1_1, .string a1_2] 31 (0, 0)) (by (with_reducible repeat first | apply bN_ | apply bD_ | apply bA_); exact BK219.out))) : p := h
theorem q30_ {p : Prop} (h : p := by rw [hg]; exact Nat.ne_of_gt (blk_lt (g := gb219) (o := .cells #[.int .i64 a1_0, .int .i64 a1_1, .string a1_2] 31 (0, 0)) (by (with_reducible repeat first | apply bN_ | apply bD_ | apply bA_); exact BK219.out))) : p := h
theorem q31_ {p : Prop} (h : p := by (with_reducible repeat first | apply bN_ | apply bD_ | apply bA_); exact BK262.out) : p := h
theorem q32_ {p : Prop} (h : p := by (with_reducible repeat first | apply bN_ | apply bD_ | apply bA_); exact BK335.out) : p := h
theorem q33_ {p : Prop} (h : p := by (with_reducible repeat first | apply bN_ | apply bD_ | apply bA_); exact BK155.out) : p := h
theorem q34_ {p : Prop} (h : p := by (with_reducible repeat first | apply bN_ | apply bD_ | apply bA_); exact BK142.out) : p := h
theorem q35_ {p : Prop} (h : p := by (with_reducible repeat first | apply bN_ | apply bD_ | apply bA_); refine blk_put (cs := #[.int .i64 t373, .int .i64 t374, .string (⟨#[]⟩ : ByteArray)]) ?_ 2 _ rfl; (with_reducible repeat first | apply bN_ | apply bD_ | apply bA_); refine blk_put (cs := #[.int .i64 t373, .int .i64 0, .string (⟨#[]⟩ : ByteArray)]) ?_ 1 _ rfl; (with_reducible repeat first | apply bN_ | apply bD_ | apply bA_); refine blk_put (cs := #[.int .i64 0, .int .i64 0, .string (⟨#[]⟩ : ByteArray)]) ?_ 0 _ rfl; (with_reducible repeat first | apply bN_ | apply bD_ | apply bA_); exact BK377.out) : p := h
theorem q36_ {p : Prop} (h : p := by (with_reducible repeat first | apply bN_ | apply bD_ | apply bA_); exact BK168.out) : p := h
theorem q37_ {p : Prop} (h : p := by rw [hg]; exact Nat.ne_of_lt (blk_lt (g := gb262) (o := .cells #[.int .i64 ((rd_T39 l0 x26_3).f0), .int .i64 ((rd_T39 l0 x26_3).f1), .int .i64 ((rd_T39 l0 x26_3).f2.f0), .int .i64 ((rd_T39 l0 x26_3).f2.f1), .string ((rd_T39 l0 x26_3).f2.f2)] 39 (0, 0)) (by (with_reducible repeat first | apply bN_ | apply bD_ | apply bA_); exact BK262.out))) : p := h
theorem q38_ {p : Prop} (h : p := by rw [hg]; exact Nat.ne_of_gt (blk_lt (g := gb262) (o := .cells #[.int .i64 ((rd_T39 l0 x26_3).f0), .int .i64 ((rd_T39 l0 x26_3).f1), .int .i64 ((rd_T39 l0 x26_3).f2.f0), .int .i64 ((rd_T39 l0 x26_3).f2.f1), .string ((rd_T39 l0 x26_3).f2.f2)] 39 (0, 0)) (by (with_reducible repeat first | apply bN_ | apply bD_ | apply bA_); exact BK262.out))) : p := h
theorem q39_ {p : Prop} (h : p := by (with_reducible repeat (first | apply Kd.R_alloc | apply Kd.R_drewN | apply Kd.R_drew)); exact (Kd.R_mono (Kd.R_far (p := ⟨gb297, 2, none⟩) (Kd.R_far (p := ⟨gb297, 1, none⟩) (Kd.R_far (p := ⟨gb297, 0, none⟩) (Kd.R_mono HO292.out (fun k_ hk => (⟨hk, hk.2⟩ : _ ∧ k_ ≠ gb297))) (fun _ hk => hk.2) (.int .i64 t293)) (fun _ hk => hk.2) (.int .i64 t294)) (fun _ hk => hk.2) (.string t295)) (fun _ h_ => h_.1))) : p := h
theorem q40_ {p : Prop} (h : p := by (with_reducible repeat (first | apply Kd.R_alloc | apply Kd.R_drewN | apply Kd.R_drew)); exact (Kd.R_mono (Kd.R_far (p := ⟨gb297, 2, none⟩) (Kd.R_far (p := ⟨gb297, 1, none⟩) (Kd.R_far (p := ⟨gb297, 0, none⟩) (Kd.R_types HO289.out BK297.out (by decide)) (fun _ hk => hk.2) (.int .i64 t293)) (fun _ hk => hk.2) (.int .i64 t294)) (fun _ hk => hk.2) (.string t295)) (fun _ h_ => h_.1))) : p := h
theorem q41_ {p : Prop} (h : p := by (with_reducible repeat first | apply bN_ | apply bD_ | apply bA_); refine blk_far ?_ NB401_409.out _; (with_reducible repeat first | apply bN_ | apply bD_ | apply bA_); refine blk_far ?_ NB401_409.out _; (with_reducible repeat first | apply bN_ | apply bD_ | apply bA_); refine blk_far ?_ NB401_409.out _; (with_reducible repeat first | apply bN_ | apply bD_ | apply bA_); exact BK401.out) : p := h
theorem q42_ {p : Prop} (h : p := by (with_reducible repeat first | apply bN_ | apply bD_ | apply bA_); refine blk_far ?_ NB387_409.out _; (with_reducible repeat first | apply bN_ | apply bD_ | apply bA_); refine blk_far ?_ NB387_409.out _; (with_reducible repeat first | apply bN_ | apply bD_ | apply bA_); refine blk_far ?_ NB387_409.out _; (with_reducible repeat first | apply bN_ | apply bD_ | apply bA_); exact BK387.out) : p := h
theorem q43_ {p : Prop} (h : p := by (with_reducible repeat (first | apply Kd.R_alloc | apply Kd.R_drewN | apply Kd.R_drew)); exact HO372.out) : p := h
theorem q44_ {p : Prop} (h : p := by (with_reducible repeat first | apply bN_ | apply bD_ | apply bA_); exact BK343.out) : p := h
theorem q45_ {p : Prop} (h : p := by (with_reducible repeat (first | apply Kd.R_alloc | apply Kd.R_drewN | apply Kd.R_drew)); exact HO_23.out) : p := h
theorem q46_ {p : Prop} (h : p := by (with_reducible repeat (first | apply Kd.R_alloc | apply Kd.R_drewN | apply Kd.R_drew)); exact HO292.out) : p := h
theorem q47_ {p : Prop} (h : p := by (with_reducible repeat (first | apply Kd.R_alloc | apply Kd.R_drewN | apply Kd.R_drew)); exact HO_5.out) : p := h
theorem q48_ {p : Prop} (h : p := by rw [hw]; exact (by (with_reducible repeat (first | apply Kd.R_alloc | apply Kd.R_drewN | apply Kd.R_drew)); exact Kd.R_mono (Kd.R_far (p := ⟨gb116, 4, none⟩) (Kd.R_far (p := ⟨gb116, 3, none⟩) (Kd.R_far (p := ⟨gb116, 2, none⟩) (Kd.R_far (p := ⟨gb116, 1, none⟩) (Kd.R_far (p := ⟨gb116, 0, none⟩) (Kd.R_types HO_6.out BK116.out (by decide)) (fun _ hk => hk.2) (.int .i64 ((rd_T39 l0 x23_2).f0))) (fun _ hk => hk.2) (.int .i64 ((rd_T39 l0 x23_2).f1))) (fun _ hk => hk.2) (.int .i64 ((rd_T39 l0 x23_2).f2.f0))) (fun _ hk => hk.2) (.int .i64 ((rd_T39 l0 x23_2).f2.f1))) (fun _ hk => hk.2) (.string ((rd_T39 l0 x23_2).f2.f2))) (fun _ hk => trivial))) : p := h
theorem q49_ {p : Prop} (h : p := by (with_reducible repeat (first | apply Kd.R_alloc | apply Kd.R_drewN | apply Kd.R_drew)); exact Kd.R_mono (Kd.R_far (p := ⟨gb262, 4, none⟩) (Kd.R_far (p := ⟨gb262, 3, none⟩) (Kd.R_far (p := ⟨gb262, 2, none⟩) (Kd.R_far (p := ⟨gb262, 1, none⟩) (Kd.R_far (p := ⟨gb262, 0, none⟩) (Kd.R_types HO_6.out BK262.out (by decide)) (fun _ hk => hk.2) (.int .i64 ((rd_T39 l0 x26_3).f0))) (fun _ hk => hk.2) (.int .i64 ((rd_T39 l0 x26_3).f1))) (fun _ hk => hk.2) (.int .i64 ((rd_T39 l0 x26_3).f2.f0))) (fun _ hk => hk.2) (.int .i64 ((rd_T39 l0 x26_3).f2.f1))) (fun _ hk => hk.2) (.string ((rd_T39 l0 x26_3).f2.f2))) (fun _ hk => hk.1)) : p := h
theorem q50_ {p : Prop} (h : p := by (with_reducible repeat first | apply bN_ | apply bD_ | apply bA_); refine blk_put (cs := #[.int .i64 ((rd_T31 l2 x37_2).f0), .int .i64 ((rd_T31 l2 x37_2).f1), .string (⟨#[]⟩ : ByteArray)]) ?_ 2 _ rfl; (with_reducible repeat first | apply bN_ | apply bD_ | apply bA_); refine blk_put (cs := #[.int .i64 ((rd_T31 l2 x37_2).f0), .int .i64 0, .string (⟨#[]⟩ : ByteArray)]) ?_ 1 _ rfl; (with_reducible repeat first | apply bN_ | apply bD_ | apply bA_); refine blk_put (cs := #[.int .i64 0, .int .i64 0, .string (⟨#[]⟩ : ByteArray)]) ?_ 0 _ rfl; (with_reducible repeat first | apply bN_ | apply bD_ | apply bA_); exact BK311.out) : p := h
theorem q51_ {p : Prop} (h : p := by (with_reducible repeat (first | apply Kd.R_alloc | apply Kd.R_drewN | apply Kd.R_drew)); exact (Kd.R_mono (Kd.R_far (p := ⟨gb377, 2, none⟩) (Kd.R_far (p := ⟨gb377, 1, none⟩) (Kd.R_far (p := ⟨gb377, 0, none⟩) (Kd.R_mono HO369.out (fun k_ hk => (⟨hk, hk.2⟩ : _ ∧ k_ ≠ gb377))) (fun _ hk => hk.2) (.int .i64 t373)) (fun _ hk => hk.2) (.int .i64 t374)) (fun _ hk => hk.2) (.string t375)) (fun _ h_ => h_.1))) : p := h
theorem q52_ {p : Prop} (h : p := by rw [hg]; exact Nat.ne_of_lt (blk_lt (g := gb325) (o := .cells #[.int .i64 a0_0, .int .i64 a0_1, .string a0_2] 31 (0, 0)) (by (with_reducible repeat first | apply bN_ | apply bD_ | apply bA_); exact BK325.out))) : p := h
theorem q53_ {p : Prop} (h : p := by rw [hg]; exact Nat.ne_of_gt (blk_lt (g := gb325) (o := .cells #[.int .i64 a0_0, .int .i64 a0_1, .string a0_2] 31 (0, 0)) (by (with_reducible repeat first | apply bN_ | apply bD_ | apply bA_); exact BK325.out))) : p := h
theorem q54_ {p : Prop} (h : p := by first | exact HG.out | (refine Glob.below HG.out ?_; (repeat (first | (with_reducible first | exact HB.out | apply below_alloc | apply pw_below_drewN | apply below_drew1 | refine below_set ?_ GE297.out) | exact HB.out))) | (repeat (first | exact HG.out | apply Glob.drewN | apply Glob.drew | apply Glob.alloc))) : p := h
theorem q55_ {p : Prop} (h : p := by have := World.block_lt_of_cell? _ _ hx117_0; first | rwa [add_block] at this | exact this) : p := h
theorem q56_ {p : Prop} (h : p := by (with_reducible repeat first | apply bN_ | apply bD_ | apply bA_); exact BK377.out) : p := h
theorem q57_ {p : Prop} (h : p := by (with_reducible repeat first | apply bN_ | apply bD_ | apply bA_); exact BK169.out) : p := h
theorem q58_ {p : Prop} (h : p := by (with_reducible repeat first | apply bN_ | apply bD_ | apply bA_); refine blk_put (cs := #[.int .i64 t442, .int .i64 t443, .string (⟨#[]⟩ : ByteArray)]) ?_ 2 _ rfl; (with_reducible repeat first | apply bN_ | apply bD_ | apply bA_); refine blk_put (cs := #[.int .i64 t442, .int .i64 0, .string (⟨#[]⟩ : ByteArray)]) ?_ 1 _ rfl; (with_reducible repeat first | apply bN_ | apply bD_ | apply bA_); refine blk_put (cs := #[.int .i64 0, .int .i64 0, .string (⟨#[]⟩ : ByteArray)]) ?_ 0 _ rfl; (with_reducible repeat first | apply bN_ | apply bD_ | apply bA_); exact BK446.out) : p := h
theorem q59_ {p : Prop} (h : p := by (with_reducible repeat first | apply bN_ | apply bD_ | apply bA_); exact BK351.out) : p := h
theorem q60_ {p : Prop} (h : p := by (with_reducible repeat first | apply bN_ | apply bD_ | apply bA_); exact BK274.out) : p := h
theorem q61_ {p : Prop} (h : p := by (with_reducible repeat first | apply bN_ | apply bD_ | apply bA_); exact BK273.out) : p := h
theorem q62_ {p : Prop} (h : p := by first | exact HG.out | (refine Glob.below HG.out ?_; (repeat (first | (with_reducible first | exact HB.out | apply below_alloc | apply pw_below_drewN | apply below_drew1 | refine below_set ?_ GE219.out | refine below_set ?_ GE220.out | refine below_set ?_ GE221.out) | exact HB.out))) | (repeat (first | exact HG.out | apply Glob.drewN | apply Glob.drew | apply Glob.alloc))) : p := h
theorem q63_ {p : Prop} (h : p := by (with_reducible repeat first | apply bN_ | apply bD_ | apply bA_); exact BK221.out) : p := h
theorem q64_ {p : Prop} (h : p := by (with_reducible repeat first | apply bN_ | apply bD_ | apply bA_); exact BK156.out) : p := h
theorem q65_ {p : Prop} (h : p := by (with_reducible repeat first | apply bN_ | apply bD_ | apply bA_); exact BK143.out) : p := h
theorem q66_ {p : Prop} (h : p := by rw [hg]; exact Nat.ne_of_lt (blk_lt (g := gb326) (o := .cells #[.int .i64 a1_0, .int .i64 a1_1, .string a1_2] 31 (0, 0)) (by (with_reducible repeat first | apply bN_ | apply bD_ | apply bA_); exact BK326.out))) : p := h
theorem q67_ {p : Prop} (h : p := by rw [hg]; exact Nat.ne_of_lt (blk_lt (g := gb155) (o := .cells #[.int .i64 a0_0, .int .i64 a0_1, .string a0_2] 31 (0, 0)) (by (with_reducible repeat first | apply bN_ | apply bD_ | apply bA_); exact BK155.out))) : p := h
theorem q68_ {p : Prop} (h : p := by rw [hg]; exact Nat.ne_of_lt (blk_lt (g := gb142) (o := .cells #[.int .i64 a0_0, .int .i64 a0_1, .string a0_2] 31 (0, 0)) (by (with_reducible repeat first | apply bN_ | apply bD_ | apply bA_); exact BK142.out))) : p := h
theorem q69_ {p : Prop} (h : p := by rw [hg]; exact Nat.ne_of_gt (blk_lt (g := gb326) (o := .cells #[.int .i64 a1_0, .int .i64 a1_1, .string a1_2] 31 (0, 0)) (by (with_reducible repeat first | apply bN_ | apply bD_ | apply bA_); exact BK326.out))) : p := h
theorem q70_ {p : Prop} (h : p := by rw [hg]; exact Nat.ne_of_gt (blk_lt (g := gb155) (o := .cells #[.int .i64 a0_0, .int .i64 a0_1, .string a0_2] 31 (0, 0)) (by (with_reducible repeat first | apply bN_ | apply bD_ | apply bA_); exact BK155.out))) : p := h
theorem q71_ {p : Prop} (h : p := by rw [hg]; exact Nat.ne_of_gt (blk_lt (g := gb142) (o := .cells #[.int .i64 a0_0, .int .i64 a0_1, .string a0_2] 31 (0, 0)) (by (with_reducible repeat first | apply bN_ | apply bD_ | apply bA_); exact BK142.out))) : p := h
theorem q72_ {p : Prop} (h : p := by rw [hg]; exact Nat.ne_of_lt (blk_lt (g := gb335) (o := .cells #[.int .i64 ((rd_T36 y330 x25_1).f0), .int .i64 ((rd_T36 y330 x25_1).f1)] 36 (0, 0)) (by (with_reducible repeat first | apply bN_ | apply bD_ | apply bA_); exact BK335.out))) : p := h
theorem q73_ {p : Prop} (h : p := by rw [hg]; exact Nat.ne_of_gt (blk_lt (g := gb335) (o := .cells #[.int .i64 ((rd_T36 y330 x25_1).f0), .int .i64 ((rd_T36 y330 x25_1).f1)] 36 (0, 0)) (by (with_reducible repeat first | apply bN_ | apply bD_ | apply bA_); exact BK335.out))) : p := h
theorem q74_ {p : Prop} (h : p := by first | exact HG.out | (refine Glob.below HG.out ?_; (repeat (first | (with_reducible first | exact HB.out | apply below_alloc | apply pw_below_drewN | apply below_drew1 | refine below_set ?_ GE377.out) | exact HB.out))) | (repeat (first | exact HG.out | apply Glob.drewN | apply Glob.drew | apply Glob.alloc))) : p := h
theorem q75_ {p : Prop} (h : p := by first | exact HG.out | (refine Glob.below HG.out ?_; (repeat (first | (with_reducible first | exact HB.out | apply below_alloc | apply pw_below_drewN | apply below_drew1 | refine below_set ?_ GE104.out) | exact HB.out))) | (repeat (first | exact HG.out | apply Glob.drewN | apply Glob.drew | apply Glob.alloc))) : p := h
theorem q76_ {p : Prop} (h : p := by rw [hg]; exact Nat.ne_of_lt (blk_lt (g := gb257) (o := .cells #[.int .i64 x258000_3, .int .i64 x258001_3, .string x258002_3] 31 (0, 0)) (by (with_reducible repeat first | apply bN_ | apply bD_ | apply bA_); exact BK257.out))) : p := h
theorem q77_ {p : Prop} (h : p := by rw [hg]; exact Nat.ne_of_gt (blk_lt (g := gb257) (o := .cells #[.int .i64 x258000_3, .int .i64 x258001_3, .string x258002_3] 31 (0, 0)) (by (with_reducible repeat first | apply bN_ | apply bD_ | apply bA_); exact BK257.out))) : p := h
theorem q78_ {p : Prop} (h : p := by first | exact HG.out | (refine Glob.below HG.out ?_; (repeat (first | (with_reducible first | exact HB.out | apply below_alloc | apply pw_below_drewN | apply below_drew1 | refine below_set ?_ GE325.out | refine below_set ?_ GE326.out | refine below_set ?_ GE335.out | refine below_set ?_ GE343.out | refine below_set ?_ GE351.out) | exact HB.out))) | (repeat (first | exact HG.out | apply Glob.drewN | apply Glob.drew | apply Glob.alloc))) : p := h
theorem q79_ {p : Prop} (h : p := by rw [hg]; exact Nat.ne_of_lt (blk_lt (g := gb387) (o := .cells #[.int .i64 a0_0, .int .i64 a0_1, .string a0_2] 31 (0, 0)) (by (with_reducible repeat first | apply bN_ | apply bD_ | apply bA_); exact BK387.out))) : p := h
theorem q80_ {p : Prop} (h : p := by rw [hg]; exact Nat.ne_of_lt (blk_lt (g := gb220) (o := .cells #[.int .i64 a2_0, .int .i64 a2_1, .string a2_2] 31 (0, 0)) (by (with_reducible repeat first | apply bN_ | apply bD_ | apply bA_); exact BK220.out))) : p := h
theorem q81_ {p : Prop} (h : p := by rw [hg]; exact Nat.ne_of_gt (blk_lt (g := gb387) (o := .cells #[.int .i64 a0_0, .int .i64 a0_1, .string a0_2] 31 (0, 0)) (by (with_reducible repeat first | apply bN_ | apply bD_ | apply bA_); exact BK387.out))) : p := h
theorem q82_ {p : Prop} (h : p := by rw [hg]; exact Nat.ne_of_gt (blk_lt (g := gb220) (o := .cells #[.int .i64 a2_0, .int .i64 a2_1, .string a2_2] 31 (0, 0)) (by (with_reducible repeat first | apply bN_ | apply bD_ | apply bA_); exact BK220.out))) : p := h
theorem q83_ {p : Prop} (h : p := by (with_reducible repeat first | apply bN_ | apply bD_ | apply bA_); exact BK401.out) : p := h
theorem q84_ {p : Prop} (h : p := by (with_reducible repeat first | apply bN_ | apply bD_ | apply bA_); exact BK195.out) : p := h
theorem q85_ {p : Prop} (h : p := by first | exact HG.out | (refine Glob.below HG.out ?_; (repeat (first | (with_reducible first | exact HB.out | apply below_alloc | apply pw_below_drewN | apply below_drew1 | refine below_set ?_ GE155.out | refine below_set ?_ GE156.out | refine below_set ?_ GE157.out) | exact HB.out))) | (repeat (first | exact HG.out | apply Glob.drewN | apply Glob.drew | apply Glob.alloc))) : p := h
theorem q86_ {p : Prop} (h : p := by first | exact HG.out | (refine Glob.below HG.out ?_; (repeat (first | (with_reducible first | exact HB.out | apply below_alloc | apply pw_below_drewN | apply below_drew1 | refine below_set ?_ GE142.out | refine below_set ?_ GE143.out | refine below_set ?_ GE144.out) | exact HB.out))) | (repeat (first | exact HG.out | apply Glob.drewN | apply Glob.drew | apply Glob.alloc))) : p := h
theorem q87_ {p : Prop} (h : p := by (with_reducible repeat first | apply bN_ | apply bD_ | apply bA_); exact BK170.out) : p := h
theorem q88_ {p : Prop} (h : p := by (with_reducible repeat first | apply bN_ | apply bD_ | apply bA_); exact BK137.out) : p := h
theorem q89_ {p : Prop} (h : p := by (with_reducible repeat (first | apply Kd.R_alloc | apply Kd.R_drewN | apply Kd.R_drew)); exact HO380.out) : p := h
theorem q90_ {p : Prop} (h : p := by first | exact HG.out | (refine Glob.below HG.out ?_; (repeat (first | (with_reducible first | exact HB.out | apply below_alloc | apply pw_below_drewN | apply below_drew1 | refine below_set ?_ GE137.out | refine below_set ?_ GE138.out) | exact HB.out))) | (repeat (first | exact HG.out | apply Glob.drewN | apply Glob.drew | apply Glob.alloc))) : p := h
theorem q91_ {p : Prop} (h : p := by have := HK1.out; first | omega | exact Nat.le_refl _) : p := h
theorem q92_ {p : Prop} (h : p := by (with_reducible repeat first | apply bN_ | apply bD_ | apply bA_); exact BK303.out) : p := h
theorem q93_ {p : Prop} (h : p := by (with_reducible repeat first | apply bN_ | apply bD_ | apply bA_); refine blk_put (cs := #[.int .i64 ((rd_T31 l1 x26_2).f0), .int .i64 ((rd_T31 l1 x26_2).f1), .string (⟨#[]⟩ : ByteArray)]) ?_ 2 _ rfl; (with_reducible repeat first | apply bN_ | apply bD_ | apply bA_); refine blk_put (cs := #[.int .i64 ((rd_T31 l1 x26_2).f0), .int .i64 0, .string (⟨#[]⟩ : ByteArray)]) ?_ 1 _ rfl; (with_reducible repeat first | apply bN_ | apply bD_ | apply bA_); refine blk_put (cs := #[.int .i64 0, .int .i64 0, .string (⟨#[]⟩ : ByteArray)]) ?_ 0 _ rfl; (with_reducible repeat first | apply bN_ | apply bD_ | apply bA_); exact BK391.out) : p := h
theorem q94_ {p : Prop} (h : p := by rw [hg]; exact Nat.ne_of_lt (blk_lt (g := gb377) (o := .cells #[.int .i64 t373, .int .i64 t374, .string t375] 31 (0, 0)) (by (with_reducible repeat first | apply bN_ | apply bD_ | apply bA_); exact BK377.out))) : p := h
theorem q95_ {p : Prop} (h : p := by rw [hg]; exact Nat.ne_of_lt (blk_lt (g := gb343) (o := .cells #[.int .i64 t339, .int .i64 t340, .string t341] 31 (0, 0)) (by (with_reducible repeat first | apply bN_ | apply bD_ | apply bA_); exact BK343.out))) : p := h
theorem q96_ {p : Prop} (h : p := by rw [hg]; exact Nat.ne_of_lt (blk_lt (g := gb168) (o := .cells #[.int .i64 a0_0, .int .i64 a0_1, .string a0_2] 31 (0, 0)) (by (with_reducible repeat first | apply bN_ | apply bD_ | apply bA_); exact BK168.out))) : p := h
theorem q97_ {p : Prop} (h : p := by rw [hg]; exact Nat.ne_of_gt (blk_lt (g := gb377) (o := .cells #[.int .i64 t373, .int .i64 t374, .string t375] 31 (0, 0)) (by (with_reducible repeat first | apply bN_ | apply bD_ | apply bA_); exact BK377.out))) : p := h
theorem q98_ {p : Prop} (h : p := by rw [hg]; exact Nat.ne_of_gt (blk_lt (g := gb343) (o := .cells #[.int .i64 t339, .int .i64 t340, .string t341] 31 (0, 0)) (by (with_reducible repeat first | apply bN_ | apply bD_ | apply bA_); exact BK343.out))) : p := h
theorem q99_ {p : Prop} (h : p := by rw [hg]; exact Nat.ne_of_gt (blk_lt (g := gb168) (o := .cells #[.int .i64 a0_0, .int .i64 a0_1, .string a0_2] 31 (0, 0)) (by (with_reducible repeat first | apply bN_ | apply bD_ | apply bA_); exact BK168.out))) : p := h
theorem q100_ {p : Prop} (h : p := by first | exact HG.out | (refine Glob.below HG.out ?_; (repeat (first | (with_reducible first | exact HB.out | apply below_alloc | apply pw_below_drewN | apply below_drew1 | refine below_set ?_ GE446.out) | exact HB.out))) | (repeat (first | exact HG.out | apply Glob.drewN | apply Glob.drew | apply Glob.alloc))) : p := h
theorem q101_ {p : Prop} (h : p := by first | exact HG.out | (refine Glob.below HG.out ?_; (repeat (first | (with_reducible first | exact HB.out | apply below_alloc | apply pw_below_drewN | apply below_drew1 | refine below_set ?_ GE319.out) | exact HB.out))) | (repeat (first | exact HG.out | apply Glob.drewN | apply Glob.drew | apply Glob.alloc))) : p := h
theorem q102_ {p : Prop} (h : p := by first | exact HG.out | (refine Glob.below HG.out ?_; (repeat (first | (with_reducible first | exact HB.out | apply below_alloc | apply pw_below_drewN | apply below_drew1 | refine below_set ?_ GE257.out) | exact HB.out))) | (repeat (first | exact HG.out | apply Glob.drewN | apply Glob.drew | apply Glob.alloc))) : p := h
theorem q103_ {p : Prop} (h : p := by (with_reducible repeat first | apply bN_ | apply bD_ | apply bA_); refine blk_put (cs := #[.int .i64 t413, .int .i64 t414, .string (⟨#[]⟩ : ByteArray)]) ?_ 2 _ rfl; (with_reducible repeat first | apply bN_ | apply bD_ | apply bA_); refine blk_put (cs := #[.int .i64 t413, .int .i64 0, .string (⟨#[]⟩ : ByteArray)]) ?_ 1 _ rfl; (with_reducible repeat first | apply bN_ | apply bD_ | apply bA_); refine blk_put (cs := #[.int .i64 0, .int .i64 0, .string (⟨#[]⟩ : ByteArray)]) ?_ 0 _ rfl; (with_reducible repeat first | apply bN_ | apply bD_ | apply bA_); exact BK417.out) : p := h
theorem q104_ {p : Prop} (h : p := by (with_reducible repeat first | apply bN_ | apply bD_ | apply bA_); refine blk_put (cs := #[.int .i64 t347, .int .i64 t348, .string (⟨#[]⟩ : ByteArray)]) ?_ 2 _ rfl; (with_reducible repeat first | apply bN_ | apply bD_ | apply bA_); refine blk_put (cs := #[.int .i64 t347, .int .i64 0, .string (⟨#[]⟩ : ByteArray)]) ?_ 1 _ rfl; (with_reducible repeat first | apply bN_ | apply bD_ | apply bA_); refine blk_put (cs := #[.int .i64 0, .int .i64 0, .string (⟨#[]⟩ : ByteArray)]) ?_ 0 _ rfl; (with_reducible repeat first | apply bN_ | apply bD_ | apply bA_); exact BK351.out) : p := h
theorem q105_ {p : Prop} (h : p := by (with_reducible repeat first | apply bN_ | apply bD_ | apply bA_); refine blk_put (cs := #[.int .i64 t198, .int .i64 t199, .string (⟨#[]⟩ : ByteArray)]) ?_ 2 _ rfl; (with_reducible repeat first | apply bN_ | apply bD_ | apply bA_); refine blk_put (cs := #[.int .i64 t198, .int .i64 0, .string (⟨#[]⟩ : ByteArray)]) ?_ 1 _ rfl; (with_reducible repeat first | apply bN_ | apply bD_ | apply bA_); refine blk_put (cs := #[.int .i64 0, .int .i64 0, .string (⟨#[]⟩ : ByteArray)]) ?_ 0 _ rfl; (with_reducible repeat first | apply bN_ | apply bD_ | apply bA_); exact BK201.out) : p := h
theorem q106_ {p : Prop} (h : p := by (with_reducible repeat first | apply bN_ | apply bD_ | apply bA_); refine blk_put (cs := #[.int .i64 0, .int .i64 0, .string (⟨#[]⟩ : ByteArray)]) ?_ 2 _ rfl; (with_reducible repeat first | apply bN_ | apply bD_ | apply bA_); refine blk_put (cs := #[.int .i64 0, .int .i64 0, .string (⟨#[]⟩ : ByteArray)]) ?_ 1 _ rfl; (with_reducible repeat first | apply bN_ | apply bD_ | apply bA_); refine blk_put (cs := #[.int .i64 0, .int .i64 0, .string (⟨#[]⟩ : ByteArray)]) ?_ 0 _ rfl; (with_reducible repeat first | apply bN_ | apply bD_ | apply bA_); exact BK197.out) : p := h
theorem q107_ {p : Prop} (h : p := by (with_reducible repeat first | apply bN_ | apply bD_ | apply bA_); exact BK196.out) : p := h
theorem q108_ {p : Prop} (h : p := by (with_reducible repeat (first | apply Kd.R_alloc | apply Kd.R_drewN | apply Kd.R_drew)); exact HO354.out) : p := h
theorem q109_ {p : Prop} (h : p := by (with_reducible repeat first | apply bN_ | apply bD_ | apply bA_); exact BK409.out) : p := h
theorem q110_ {p : Prop} (h : p := by (with_reducible repeat first | apply bN_ | apply bD_ | apply bA_); exact BK311.out) : p := h
theorem q111_ {p : Prop} (h : p := by (with_reducible repeat first | apply bN_ | apply bD_ | apply bA_); exact BK138.out) : p := h
theorem q112_ {p : Prop} (h : p := by have := HJ3.out; have := HK2.out; first | omega | exact Nat.le_refl _) : p := h
theorem q113_ {p : Prop} (h : p := by (with_reducible repeat (first | apply Kd.R_alloc | apply Kd.R_drewN | apply Kd.R_drew)); exact Kd.R_mono (Kd.R_far (p := ⟨gb351, 2, none⟩) (Kd.R_far (p := ⟨gb351, 1, none⟩) (Kd.R_far (p := ⟨gb351, 0, none⟩) (Kd.R_mono HO_5.out (fun k_ hk => (⟨hk, hk.2⟩ : _ ∧ k_ ≠ gb351))) (fun _ hk => hk.2) (.int .i64 t347)) (fun _ hk => hk.2) (.int .i64 t348)) (fun _ hk => hk.2) (.string t349)) (fun _ hk => ⟨hk.1.1.1.1, ⟨hk.1.1.1.2, ⟨hk.1.1.2, hk.1.2⟩⟩⟩)) : p := h
theorem q114_ {p : Prop} (h : p := by rw [hg]; exact Nat.ne_of_lt (blk_lt (g := gb351) (o := .cells #[.int .i64 t347, .int .i64 t348, .string t349] 31 (0, 0)) (by (with_reducible repeat first | apply bN_ | apply bD_ | apply bA_); exact BK351.out))) : p := h
theorem q115_ {p : Prop} (h : p := by rw [hg]; exact Nat.ne_of_lt (blk_lt (g := gb195) (o := .cells #[.int .i64 a1_0, .int .i64 a1_1, .string a1_2] 31 (0, 0)) (by (with_reducible repeat first | apply bN_ | apply bD_ | apply bA_); exact BK195.out))) : p := h
theorem q116_ {p : Prop} (h : p := by rw [hg]; exact Nat.ne_of_lt (blk_lt (g := gb156) (o := .cells #[.int .i64 a1_0, .int .i64 a1_1, .string a1_2] 31 (0, 0)) (by (with_reducible repeat first | apply bN_ | apply bD_ | apply bA_); exact BK156.out))) : p := h
theorem q117_ {p : Prop} (h : p := by rw [hg]; exact Nat.ne_of_lt (blk_lt (g := gb143) (o := .cells #[.int .i64 a1_0, .int .i64 a1_1, .string a1_2] 31 (0, 0)) (by (with_reducible repeat first | apply bN_ | apply bD_ | apply bA_); exact BK143.out))) : p := h
theorem q118_ {p : Prop} (h : p := by rw [hg]; exact Nat.ne_of_gt (blk_lt (g := gb351) (o := .cells #[.int .i64 t347, .int .i64 t348, .string t349] 31 (0, 0)) (by (with_reducible repeat first | apply bN_ | apply bD_ | apply bA_); exact BK351.out))) : p := h
theorem q119_ {p : Prop} (h : p := by rw [hg]; exact Nat.ne_of_gt (blk_lt (g := gb195) (o := .cells #[.int .i64 a1_0, .int .i64 a1_1, .string a1_2] 31 (0, 0)) (by (with_reducible repeat first | apply bN_ | apply bD_ | apply bA_); exact BK195.out))) : p := h
theorem q120_ {p : Prop} (h : p := by rw [hg]; exact Nat.ne_of_gt (blk_lt (g := gb156) (o := .cells #[.int .i64 a1_0, .int .i64 a1_1, .string a1_2] 31 (0, 0)) (by (with_reducible repeat first | apply bN_ | apply bD_ | apply bA_); exact BK156.out))) : p := h
theorem q121_ {p : Prop} (h : p := by rw [hg]; exact Nat.ne_of_gt (blk_lt (g := gb143) (o := .cells #[.int .i64 a1_0, .int .i64 a1_1, .string a1_2] 31 (0, 0)) (by (with_reducible repeat first | apply bN_ | apply bD_ | apply bA_); exact BK143.out))) : p := h
theorem q122_ {p : Prop} (h : p := by (with_reducible repeat (first | apply Kd.R_alloc | apply Kd.R_drewN | apply Kd.R_drew)); exact HO300.out) : p := h
theorem q123_ {p : Prop} (h : p := by first | exact HG.out | (refine Glob.below HG.out ?_; (repeat (first | (with_reducible first | exact HB.out | apply below_alloc | apply pw_below_drewN | apply below_drew1 | refine below_set ?_ GE387.out | refine below_set ?_ GE401.out | refine below_set ?_ GE409.out | refine below_set ?_ GE417.out) | exact HB.out))) | (repeat (first | exact HG.out | apply Glob.drewN | apply Glob.drew | apply Glob.alloc))) : p := h
theorem q124_ {p : Prop} (h : p := by first | exact HG.out | (refine Glob.below HG.out ?_; (repeat (first | (with_reducible first | exact HB.out | apply below_alloc | apply pw_below_drewN | apply below_drew1 | refine below_set ?_ GE257.out | refine below_set ?_ GE262.out | refine below_set ?_ GE273.out | refine below_set ?_ GE274.out) | exact HB.out))) | (repeat (first | exact HG.out | apply Glob.drewN | apply Glob.drew | apply Glob.alloc))) : p := h
theorem q125_ {p : Prop} (h : p := by rw [hw]; exact (by repeat (first | (with_reducible first | exact HB.out | apply below_alloc | apply pw_below_drewN | apply below_drew1 | refine below_set ?_ (Aside0.out (by assumption))) | exact HB.out))) : p := h
theorem q126_ {p : Prop} (h : p := by (with_reducible repeat (first | apply Kd.R_alloc | apply Kd.R_drewN | apply Kd.R_drew)); exact Kd.R_mono (Kd.R_far (p := ⟨gb351, 2, none⟩) (Kd.R_far (p := ⟨gb351, 1, none⟩) (Kd.R_far (p := ⟨gb351, 0, none⟩) (Kd.R_types HO_23.out BK351.out (by decide)) (fun _ hk => hk.2) (.int .i64 t347)) (fun _ hk => hk.2) (.int .i64 t348)) (fun _ hk => hk.2) (.string t349)) (fun _ hk => hk.1.2)) : p := h
theorem q127_ {p : Prop} (h : p := by (with_reducible repeat (first | apply Kd.R_alloc | apply Kd.R_drewN | apply Kd.R_drew)); exact (Kd.R_mono (Kd.R_far (p := ⟨gb401, 2, none⟩) (Kd.R_far (p := ⟨gb401, 1, none⟩) (Kd.R_far (p := ⟨gb401, 0, none⟩) (Kd.R_types HO396.out BK401.out (by decide)) (fun _ hk => hk.2) (.int .i64 t397)) (fun _ hk => hk.2) (.int .i64 t398)) (fun _ hk => hk.2) (.string t399)) (fun _ h_ => h_.1))) : p := h
theorem q128_ {p : Prop} (h : p := by (with_reducible repeat (first | apply Kd.R_alloc | apply Kd.R_drewN | apply Kd.R_drew)); exact (Kd.R_mono (Kd.R_far (p := ⟨gb343, 2, none⟩) (Kd.R_far (p := ⟨gb343, 1, none⟩) (Kd.R_far (p := ⟨gb343, 0, none⟩) (Kd.R_types HO338.out BK343.out (by decide)) (fun _ hk => hk.2) (.int .i64 t339)) (fun _ hk => hk.2) (.int .i64 t340)) (fun _ hk => hk.2) (.string t341)) (fun _ h_ => h_.1))) : p := h
theorem q129_ {p : Prop} (h : p := by (with_reducible repeat first | apply bN_ | apply bD_ | apply bA_); refine blk_far ?_ NB409_417.out _; (with_reducible repeat first | apply bN_ | apply bD_ | apply bA_); refine blk_far ?_ NB409_417.out _; (with_reducible repeat first | apply bN_ | apply bD_ | apply bA_); refine blk_far ?_ NB409_417.out _; (with_reducible repeat first | apply bN_ | apply bD_ | apply bA_); exact BK409.out) : p := h
theorem q130_ {p : Prop} (h : p := by (with_reducible repeat first | apply bN_ | apply bD_ | apply bA_); refine blk_far ?_ NB401_417.out _; (with_reducible repeat first | apply bN_ | apply bD_ | apply bA_); refine blk_far ?_ NB401_417.out _; (with_reducible repeat first | apply bN_ | apply bD_ | apply bA_); refine blk_far ?_ NB401_417.out _; (with_reducible repeat first | apply bN_ | apply bD_ | apply bA_); exact BK401.out) : p := h
theorem q131_ {p : Prop} (h : p := by (with_reducible repeat first | apply bN_ | apply bD_ | apply bA_); refine blk_far ?_ NB387_417.out _; (with_reducible repeat first | apply bN_ | apply bD_ | apply bA_); refine blk_far ?_ NB387_417.out _; (with_reducible repeat first | apply bN_ | apply bD_ | apply bA_); refine blk_far ?_ NB387_417.out _; (with_reducible repeat first | apply bN_ | apply bD_ | apply bA_); exact BK387.out) : p := h
theorem q132_ {p : Prop} (h : p := by (with_reducible repeat first | apply bN_ | apply bD_ | apply bA_); refine blk_far ?_ NB387_391.out _; (with_reducible repeat first | apply bN_ | apply bD_ | apply bA_); refine blk_far ?_ NB387_391.out _; (with_reducible repeat first | apply bN_ | apply bD_ | apply bA_); refine blk_far ?_ NB387_391.out _; (with_reducible repeat first | apply bN_ | apply bD_ | apply bA_); exact BK387.out) : p := h
theorem q133_ {p : Prop} (h : p := by (with_reducible repeat first | apply bN_ | apply bD_ | apply bA_); refine blk_far ?_ NB343_351.out _; (with_reducible repeat first | apply bN_ | apply bD_ | apply bA_); refine blk_far ?_ NB343_351.out _; (with_reducible repeat first | apply bN_ | apply bD_ | apply bA_); refine blk_far ?_ NB343_351.out _; (with_reducible repeat first | apply bN_ | apply bD_ | apply bA_); exact BK343.out) : p := h
theorem q134_ {p : Prop} (h : p := by (with_reducible repeat first | apply bN_ | apply bD_ | apply bA_); refine blk_far ?_ NB335_351.out _; (with_reducible repeat first | apply bN_ | apply bD_ | apply bA_); refine blk_far ?_ NB335_351.out _; (with_reducible repeat first | apply bN_ | apply bD_ | apply bA_); refine blk_far ?_ NB335_351.out _; (with_reducible repeat first | apply bN_ | apply bD_ | apply bA_); exact BK335.out) : p := h
theorem q135_ {p : Prop} (h : p := by (with_reducible repeat first | apply bN_ | apply bD_ | apply bA_); refine blk_far ?_ NB326_351.out _; (with_reducible repeat first | apply bN_ | apply bD_ | apply bA_); refine blk_far ?_ NB326_351.out _; (with_reducible repeat first | apply bN_ | apply bD_ | apply bA_); refine blk_far ?_ NB326_351.out _; (with_reducible repeat first | apply bN_ | apply bD_ | apply bA_); exact BK326.out) : p := h
theorem q136_ {p : Prop} (h : p := by (with_reducible repeat first | apply bN_ | apply bD_ | apply bA_); refine blk_far ?_ NB325_351.out _; (with_reducible repeat first | apply bN_ | apply bD_ | apply bA_); refine blk_far ?_ NB325_351.out _; (with_reducible repeat first | apply bN_ | apply bD_ | apply bA_); refine blk_far ?_ NB325_351.out _; (with_reducible repeat first | apply bN_ | apply bD_ | apply bA_); exact BK325.out) : p := h
theorem q137_ {p : Prop} (h : p := by (with_reducible repeat first | apply bN_ | apply bD_ | apply bA_); refine blk_far ?_ NB197_201.out _; (with_reducible repeat first | apply bN_ | apply bD_ | apply bA_); refine blk_far ?_ NB197_201.out _; (with_reducible repeat first | apply bN_ | apply bD_ | apply bA_); refine blk_far ?_ NB197_201.out _; (with_reducible repeat first | apply bN_ | apply bD_ | apply bA_); exact BK197.out) : p := h
theorem q138_ {p : Prop} (h : p := by (with_reducible repeat first | apply bN_ | apply bD_ | apply bA_); refine blk_far ?_ NB196_201.out _; (with_reducible repeat first | apply bN_ | apply bD_ | apply bA_); refine blk_far ?_ NB196_201.out _; (with_reducible repeat first | apply bN_ | apply bD_ | apply bA_); refine blk_far ?_ NB196_201.out _; (with_reducible repeat first | apply bN_ | apply bD_ | apply bA_); exact BK196.out) : p := h
theorem q139_ {p : Prop} (h : p := by (with_reducible repeat first | apply bN_ | apply bD_ | apply bA_); refine blk_far ?_ NB195_201.out _; (with_reducible repeat first | apply bN_ | apply bD_ | apply bA_); refine blk_far ?_ NB195_201.out _; (with_reducible repeat first | apply bN_ | apply bD_ | apply bA_); refine blk_far ?_ NB195_201.out _; (with_reducible repeat first | apply bN_ | apply bD_ | apply bA_); exact BK195.out) : p := h
theorem q140_ {p : Prop} (h : p := by first | exact HG.out | (refine Glob.below HG.out ?_; (repeat (first | (with_reducible first | exact HB.out | apply below_alloc | apply pw_below_drewN | apply below_drew1 | refine below_set ?_ GE168.out | refine below_set ?_ GE169.out | refine below_set ?_ GE170.out) | exact HB.out))) | (repeat (first | exact HG.out | apply Glob.drewN | apply Glob.drew | apply Glob.alloc))) : p := h
theorem q141_ {p : Prop} (h : p := by have := World.block_lt_of_cell? _ _ hx263_0; first | rwa [add_block] at this | exact this) : p := h
theorem q142_ {p : Prop} (h : p := by (try simp only [List.map_toArray, List.map_cons, List.map_nil]); first | done | (simp only [hji38, hji41]; rfl) | rfl | (simp only [List.length_drop, List.length_take]; rfl)) : p := h
theorem q143_ {p : Prop} (h : p := by (with_reducible repeat first | apply bN_ | apply bD_ | apply bA_); exact BK297.out) : p := h
theorem q144_ {p : Prop} (h : p := by (with_reducible repeat first | apply bN_ | apply bD_ | apply bA_); exact BK197.out) : p := h
theorem q145_ {p : Prop} (h : p := by (with_reducible repeat first | apply bN_ | apply bD_ | apply bA_); exact BK157.out) : p := h
theorem q146_ {p : Prop} (h : p := by (with_reducible repeat first | apply bN_ | apply bD_ | apply bA_); exact BK144.out) : p := h
theorem q147_ {p : Prop} (h : p := by first | exact HG.out | (refine Glob.below HG.out ?_; (repeat (first | (with_reducible first | exact HB.out | apply below_alloc | apply pw_below_drewN | apply below_drew1 | refine below_set ?_ GE387.out) | exact HB.out))) | (repeat (first | exact HG.out | apply Glob.drewN | apply Glob.drew | apply Glob.alloc))) : p := h
theorem q148_ {p : Prop} (h : p := by (with_reducible repeat (first | apply Kd.R_alloc | apply Kd.R_drewN | apply Kd.R_drew)); exact HO396.out) : p := h
theorem q149_ {p : Prop} (h : p := by (with_reducible repeat (first | apply Kd.R_alloc | apply Kd.R_drewN | apply Kd.R_drew)); exact HO338.out) : p := h
theorem q150_ {p : Prop} (h : p := by rw [hg]; exact Nat.ne_of_lt (blk_lt (g := gb274) (o := .cells #[.int .i64 ((rd_T31 x6_20 (ji41)).f0), .int .i64 ((rd_T31 x6_20 (ji41)).f1), .string ((rd_T31 x6_20 (ji41)).f2)] 31 (0, 0)) (by (with_reducible repeat first | apply bN_ | apply bD_ | apply bA_); exact BK274.out))) : p := h
theorem q151_ {p : Prop} (h : p := by rw [hg]; exact Nat.ne_of_lt (blk_lt (g := gb273) (o := .cells #[.int .i64 ((rd_T31 x6_20 (ji38)).f0), .int .i64 ((rd_T31 x6_20 (ji38)).f1), .string ((rd_T31 x6_20 (ji38)).f2)] 31 (0, 0)) (by (with_reducible repeat first | apply bN_ | apply bD_ | apply bA_); exact BK273.out))) : p := h
theorem q152_ {p : Prop} (h : p := by rw [hg]; exact Nat.ne_of_gt (blk_lt (g := gb274) (o := .cells #[.int .i64 ((rd_T31 x6_20 (ji41)).f0), .int .i64 ((rd_T31 x6_20 (ji41)).f1), .string ((rd_T31 x6_20 (ji41)).f2)] 31 (0, 0)) (by (with_reducible repeat first | apply bN_ | apply bD_ | apply bA_); exact BK274.out))) : p := h
theorem q153_ {p : Prop} (h : p := by rw [hg]; exact Nat.ne_of_gt (blk_lt (g := gb273) (o := .cells #[.int .i64 ((rd_T31 x6_20 (ji38)).f0), .int .i64 ((rd_T31 x6_20 (ji38)).f1), .string ((rd_T31 x6_20 (ji38)).f2)] 31 (0, 0)) (by (with_reducible repeat first | apply bN_ | apply bD_ | apply bA_); exact BK273.out))) : p := h
theorem q154_ {p : Prop} (h : p := by first | (go_simp; done) | (go_simp; rfl)) : p := h
theorem q155_ {p : Prop} (h : p := by (with_reducible repeat first | apply bN_ | apply bD_ | apply bA_); exact BK210.out) : p := h
theorem q156_ {p : Prop} (h : p := by (with_reducible repeat first | apply bN_ | apply bD_ | apply bA_); exact BK189.out) : p := h
theorem q157_ {p : Prop} (h : p := by (with_reducible repeat first | apply bN_ | apply bD_ | apply bA_); exact BK104.out) : p := h
theorem q158_ {p : Prop} (h : p := by first | (rw [add_block]; exact hn263_4) | (show (Addr.add _ _).block ≠ _; rw [add_block]; exact hn263_4) | exact hn263_4) : p := h
theorem q159_ {p : Prop} (h : p := by first | (rw [add_block]; exact hn263_3) | (show (Addr.add _ _).block ≠ _; rw [add_block]; exact hn263_3) | exact hn263_3) : p := h
theorem q160_ {p : Prop} (h : p := by first | (rw [add_block]; exact hn263_2) | (show (Addr.add _ _).block ≠ _; rw [add_block]; exact hn263_2) | exact hn263_2) : p := h
theorem q161_ {p : Prop} (h : p := by first | (rw [add_block]; exact hn263_1) | (show (Addr.add _ _).block ≠ _; rw [add_block]; exact hn263_1) | exact hn263_1) : p := h
theorem q162_ {p : Prop} (h : p := by first | (rw [add_block]; exact hn263_0) | (show (Addr.add _ _).block ≠ _; rw [add_block]; exact hn263_0) | exact hn263_0) : p := h
theorem q163_ {p : Prop} (h : p := by first | (rw [add_block]; exact hn126_4) | (show (Addr.add _ _).block ≠ _; rw [add_block]; exact hn126_4) | exact hn126_4) : p := h
theorem q164_ {p : Prop} (h : p := by first | (rw [add_block]; exact hn126_3) | (show (Addr.add _ _).block ≠ _; rw [add_block]; exact hn126_3) | exact hn126_3) : p := h
theorem q165_ {p : Prop} (h : p := by first | (rw [add_block]; exact hn126_2) | (show (Addr.add _ _).block ≠ _; rw [add_block]; exact hn126_2) | exact hn126_2) : p := h
theorem q166_ {p : Prop} (h : p := by first | (rw [add_block]; exact hn126_1) | (show (Addr.add _ _).block ≠ _; rw [add_block]; exact hn126_1) | exact hn126_1) : p := h
theorem q167_ {p : Prop} (h : p := by first | (rw [add_block]; exact hn126_0) | (show (Addr.add _ _).block ≠ _; rw [add_block]; exact hn126_0) | exact hn126_0) : p := h
theorem q168_ {p : Prop} (h : p := by first | (rw [add_block]; exact hn125_4) | (show (Addr.add _ _).block ≠ _; rw [add_block]; exact hn125_4) | exact hn125_4) : p := h
theorem q169_ {p : Prop} (h : p := by first | (rw [add_block]; exact hn125_3) | (show (Addr.add _ _).block ≠ _; rw [add_block]; exact hn125_3) | exact hn125_3) : p := h
theorem q170_ {p : Prop} (h : p := by first | (rw [add_block]; exact hn125_2) | (show (Addr.add _ _).block ≠ _; rw [add_block]; exact hn125_2) | exact hn125_2) : p := h
theorem q171_ {p : Prop} (h : p := by first | (rw [add_block]; exact hn125_1) | (show (Addr.add _ _).block ≠ _; rw [add_block]; exact hn125_1) | exact hn125_1) : p := h
theorem q172_ {p : Prop} (h : p := by first | (rw [add_block]; exact hn125_0) | (show (Addr.add _ _).block ≠ _; rw [add_block]; exact hn125_0) | exact hn125_0) : p := h
theorem q173_ {p : Prop} (h : p := by first | (rw [add_block]; exact hn117_4) | (show (Addr.add _ _).block ≠ _; rw [add_block]; exact hn117_4) | exact hn117_4) : p := h
theorem q174_ {p : Prop} (h : p := by first | (rw [add_block]; exact hn117_3) | (show (Addr.add _ _).block ≠ _; rw [add_block]; exact hn117_3) | exact hn117_3) : p := h
theorem q175_ {p : Prop} (h : p := by first | (rw [add_block]; exact hn117_2) | (show (Addr.add _ _).block ≠ _; rw [add_block]; exact hn117_2) | exact hn117_2) : p := h
theorem q176_ {p : Prop} (h : p := by first | (rw [add_block]; exact hn117_1) | (show (Addr.add _ _).block ≠ _; rw [add_block]; exact hn117_1) | exact hn117_1) : p := h
theorem q177_ {p : Prop} (h : p := by first | (rw [add_block]; exact hn117_0) | (show (Addr.add _ _).block ≠ _; rw [add_block]; exact hn117_0) | exact hn117_0) : p := h
theorem q178_ {p : Prop} (h : p := by rw [hg]; exact Nat.ne_of_lt (blk_lt (g := gb257) (o := .cells #[.int .i64 x258000_44, .int .i64 x258001_44, .string x258002_44] 31 (0, 0)) (by (with_reducible repeat first | apply bN_ | apply bD_ | apply bA_); exact BK257.out))) : p := h
theorem q179_ {p : Prop} (h : p := by rw [hg]; exact Nat.ne_of_gt (blk_lt (g := gb257) (o := .cells #[.int .i64 x258000_44, .int .i64 x258001_44, .string x258002_44] 31 (0, 0)) (by (with_reducible repeat first | apply bN_ | apply bD_ | apply bA_); exact BK257.out))) : p := h
theorem q180_ {p : Prop} (h : p := by rw [hg]; exact Nat.ne_of_lt (blk_lt (g := gb401) (o := .cells #[.int .i64 t397, .int .i64 t398, .string t399] 31 (0, 0)) (by (with_reducible repeat first | apply bN_ | apply bD_ | apply bA_); exact BK401.out))) : p := h
theorem q181_ {p : Prop} (h : p := by rw [hg]; exact Nat.ne_of_lt (blk_lt (g := gb196) (o := .cells #[.int .i64 a2_0, .int .i64 a2_1, .string a2_2] 31 (0, 0)) (by (with_reducible repeat first | apply bN_ | apply bD_ | apply bA_); exact BK196.out))) : p := h
theorem q182_ {p : Prop} (h : p := by rw [hg]; exact Nat.ne_of_lt (blk_lt (g := gb169) (o := .cells #[.int .i64 a1_0, .int .i64 a1_1, .string a1_2] 31 (0, 0)) (by (with_reducible repeat first | apply bN_ | apply bD_ | apply bA_); exact BK169.out))) : p := h
theorem q183_ {p : Prop} (h : p := by rw [hg]; exact Nat.ne_of_gt (blk_lt (g := gb401) (o := .cells #[.int .i64 t397, .int .i64 t398, .string t399] 31 (0, 0)) (by (with_reducible repeat first | apply bN_ | apply bD_ | apply bA_); exact BK401.out))) : p := h
theorem q184_ {p : Prop} (h : p := by rw [hg]; exact Nat.ne_of_gt (blk_lt (g := gb196) (o := .cells #[.int .i64 a2_0, .int .i64 a2_1, .string a2_2] 31 (0, 0)) (by (with_reducible repeat first | apply bN_ | apply bD_ | apply bA_); exact BK196.out))) : p := h
theorem q185_ {p : Prop} (h : p := by rw [hg]; exact Nat.ne_of_gt (blk_lt (g := gb169) (o := .cells #[.int .i64 a1_0, .int .i64 a1_1, .string a1_2] 31 (0, 0)) (by (with_reducible repeat first | apply bN_ | apply bD_ | apply bA_); exact BK169.out))) : p := h
theorem q186_ {p : Prop} (h : p := by rw [← hq_]; exact (by repeat (first | (with_reducible first | exact HB.out | apply below_alloc | apply pw_below_drewN | apply below_drew1 | refine below_set ?_ (Aside0.out (by assumption))) | exact HB.out))) : p := h
theorem q187_ {p : Prop} (h : p := by (with_reducible repeat (first | apply Kd.R_alloc | apply Kd.R_drewN | apply Kd.R_drew)); exact HO132.out) : p := h

end Go.Proofs.YtiamgfpeffjcjaaDoor.P
