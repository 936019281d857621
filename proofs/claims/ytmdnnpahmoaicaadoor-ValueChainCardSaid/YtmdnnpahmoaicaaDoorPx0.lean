-- Written by our own program (wip/xprint) over the seat's translation. Lean checks it.
import Derived.Test.YtmdnnpahmoaicaaDoorProg
import Derived.Below
import Derived.Deep.Draws
import Derived.Deep.AppendLies
import Derived.Maps.AppendAt
import Derived.OwnWalk
import Derived.Laws.BytesArg
import Derived.Laws.MakeOwn
import Derived.Laws.OwnMore
import Derived.Deep.OwnRows
import Derived.Tactics
import Derived.Lib.ConvBytes
import Derived.Laws.Slices
import Derived.WalkKit
import Derived.KernelRfl
import Derived.RowKit3
import Derived.Deep.LoopGhost
import Derived.Deep.QuietTactic
import Derived.BigQuiet
import Derived.WideLaws
import Derived.Deep.DeepCutAuto
import Derived.Deep.CutBlock
import Derived.Deep.RegionHeld3
import Derived.Laws.Rows
import Derived.Lib.AppendStr
import Derived.ArgAppend
import Derived.Laws.IdiomCopy
import Derived.OrdersHeld
import Derived.Laws.BitsLemmas
import Derived.RowKit
import Derived.Shelf.Unicode.ValidAny
import Derived.Lib.ValidU
import Derived.Shelf.Strings.Replace
import Derived.Test.YtmdnnpahmoaicaaDoorShelf
import Derived.Test.YtmdnnpahmoaicaaDoorWWords
import Derived.Test.YtmdnnpahmoaicaaDoorWLast
import Derived.Test.YtmdnnpahmoaicaaDoorWTab
import Derived.Test.YtmdnnpahmoaicaaDoorWFour
import Derived.Test.YtmdnnpahmoaicaaDoorWQPut
import Derived.Test.YtmdnnpahmoaicaaDoorWApart
import Derived.Test.YtmdnnpahmoaicaaDoorWArr
import Derived.Test.YtmdnnpahmoaicaaDoorWZeros
import Derived.Test.YtmdnnpahmoaicaaDoorWFoot
import Derived.Test.YtmdnnpahmoaicaaDoorWKept
import Derived.Test.YtmdnnpahmoaicaaDoorWShare
import Derived.Test.YtmdnnpahmoaicaaDoorWN
import Derived.Test.YtmdnnpahmoaicaaDoorWFootNe
import Derived.Test.YtmdnnpahmoaicaaDoorWAt
import Derived.Test.YtmdnnpahmoaicaaDoorWEqStruct
import Derived.Test.YtmdnnpahmoaicaaDoorWRepsOne
import Derived.Test.YtmdnnpahmoaicaaDoorWInv
import Derived.Test.YtmdnnpahmoaicaaDoorWInvWords
import Derived.Test.YtmdnnpahmoaicaaDoorWGuard
import Derived.Test.YtmdnnpahmoaicaaDoorWNEv
import Derived.Test.YtmdnnpahmoaicaaDoorWMore
namespace Go.Proofs.YtmdnnpahmoaicaaDoor.P
open Go.RowKit Go.Proofs.YtmdnnpahmoaicaaDoorW.PrintWords Go.Proofs.YtmdnnpahmoaicaaDoorW.PrintLast Go.Proofs.YtmdnnpahmoaicaaDoorW.PrintMore
attribute [local go_sem] max2_int min2_int max_two min_two max_three min_three max_four min_four   -- for this text's walks alone
set_option linter.unusedVariables false
set_option linter.unusedSimpArgs false



def errW : Option Int → Value
  | none => .nilIface
  | some c => .iface 0 (.int .i64 c)
theorem errW_none : errW none = .nilIface := rfl
theorem errW_some (c : Int) : errW (some c) = .iface 0 (.int .i64 c) := rfl

/-! ### our own words: calls of body-less functions, calls of a known function value -/
section
variable {P : Program} {ops : Array Oper} {Q : Exit → Act → World → Prop}
/-- What a function without a body comes to (the model stands in for it): it yields at once and leaves the world alone. -/
def Ext (P : Program) (f : FuncId) (args : Array Value) (w : World) (R : Ending → World → Prop) : Prop :=
  ∃ v, (callFunc f args).run P w = .ok (.value v) w ∧ R (.returned v) w
theorem Ext.mono {f : FuncId} {args : Array Value} {w : World} {R R' : Ending → World → Prop} (h : Ext P f args w R) (hr : ∀ e w', R e w' → R' e w') : Ext P f args w R' := by
  obtain ⟨v, h1, h2⟩ := h
  exact ⟨v, h1, hr _ _ h2⟩
theorem goesXL_ {rest : List Oper} {oi : Oper} {a : Act} {w : World} (N : Option Tmp) (hd : oi.dst = N) (hg : oi.guard = none) {f : FuncId} {as_ : Array Operand} {ts : Array TypeId} (args : Array Value)
    (hop : oi.op = .call { callee := .value (.func f), args := as_, argTypes := ts }) (hargs : as_.map a.eval = args)
    (h : Ext P f args w fun e w' => ∃ v, e = .returned v ∧ wpList P ops Q rest (a.put N v) w') : wpList P ops Q (oi :: rest) a w := by
  refine wpList_plain hg fun K hK => ?_
  obtain ⟨v, he, v', hv, hk⟩ := h
  obtain rfl : v = v' := by injection hv
  have hrun : (execOp a.eval oi).run P w = .ok (.value v) w := by
    unfold execOp
    simp [hop, resolve, Deferred.ofValue, invoke, Act.eval, hargs, he]
  unfold Oper.wp
  rw [hrun]
  subst hd
  exact hK _ _ hk
theorem goesX_ {oi : Oper} {N : Option Tmp} {a : Act} {w : World} {K : Act → World → Prop} {f : FuncId} {as_ : Array Operand} {ts : Array TypeId} (args : Array Value)
    (hw : Region.wanted oi (yielded ops a.tmps) = true) (hN : oi.dst = N) (hop : oi.op = .call { callee := .value (.func f), args := as_, argTypes := ts }) (hargs : as_.map a.eval = args)
    (h : Ext P f args w fun e w' => ∃ v, e = .returned v ∧ K (a.put N v) w') : if Region.wanted oi (yielded ops a.tmps) = true then Oper.wp P oi a w K Q else K (a.put N undef) w := by
  obtain ⟨v, he, v', hv, hk⟩ := h
  obtain rfl : v = v' := by injection hv
  refine value_ hw hN ?_ hk
  unfold execOp
  simp [hop, resolve, Deferred.ofValue, invoke, Act.eval, hargs, he]
theorem gate_calleeT {rest : List Oper} {o : Oper} {a : Act} {W : World} {t : Tmp} {as_ : Array Operand} {ts : Array TypeId} (_ho : o.op = .call { callee := .value (.tmp t), args := as_, argTypes := ts }) (h : wpList P ops Q (o :: rest) a W) : wpList P ops Q (o :: rest) a W := h
theorem goesTL_ {rest : List Oper} {oi : Oper} {a : Act} {w : World} (N : Option Tmp) (hd : oi.dst = N) (hg : oi.guard = none) {f : FuncId} {fn : Func} {c : Operand} {as_ : Array Operand} {ts : Array TypeId} (hf : P.funcs[f]? = some fn) (hname : (fn.name == "runtime.NumGoroutine") = false) (hb : fn.body.isSome = true) (args : Array Value)
    (hop : oi.op = .call { callee := .value c, args := as_, argTypes := ts }) (hc : a.eval c = .func (.func f) #[] #[]) (hargs : as_.map a.eval = args)
    (h : Calls P f args w fun e w' => ∃ v, e = .returned v ∧ wpList P ops Q rest (a.put N v) w') : wpList P ops Q (oi :: rest) a w := by
  refine wpList_plain hg fun K hK => ?_
  have he := enters_ hf hname hb args w
  have hrun : (execOp a.eval oi).run P w = .ok (.enter f args) w := by
    unfold execOp
    simp [hop, resolve, hc, Deferred.ofValue, invoke, hargs, he]
  unfold Oper.wp
  rw [hrun, Oper.upon_enter]
  refine h.mono fun e w'' hh => ?_
  obtain ⟨v, rfl, hk⟩ := hh
  subst hd
  exact hK _ _ hk
theorem goesT_ {oi : Oper} {N : Option Tmp} {a : Act} {w : World} {K : Act → World → Prop} {f : FuncId} {fn : Func} {c : Operand} {as_ : Array Operand} {ts : Array TypeId} (hf : P.funcs[f]? = some fn) (hname : (fn.name == "runtime.NumGoroutine") = false) (hb : fn.body.isSome = true) (args : Array Value)
    (hw : Region.wanted oi (yielded ops a.tmps) = true) (hN : oi.dst = N) (hop : oi.op = .call { callee := .value c, args := as_, argTypes := ts }) (hc : a.eval c = .func (.func f) #[] #[]) (hargs : as_.map a.eval = args)
    (h : Calls P f args w fun e w' => ∃ v, e = .returned v ∧ K (a.put N v) w') : if Region.wanted oi (yielded ops a.tmps) = true then Oper.wp P oi a w K Q else K (a.put N undef) w := by
  refine call_ f args hw hN ?_ h
  have he := enters_ hf hname hb args w
  unfold execOp
  simp [hop, resolve, hc, Deferred.ofValue, invoke, hargs, he]
end
/-! strings that stand one after the other -/
theorem xBytesLess_gt : ∀ (x y : List UInt8), (!(Op.bytesLess x y || x == y)) = Op.bytesLess y x
  | [], [] => rfl
  | [], b :: y => rfl
  | a :: x, [] => rfl
  | a :: x, b :: y => by
    have ih := xBytesLess_gt x y
    simp only [Op.bytesLess]
    by_cases h : a = b
    · subst h
      have h1 : decide (a < a) = false := by simp
      simp only [h1, Bool.false_or, beq_self_eq_true, Bool.true_and]
      rw [← ih]; simp
    · have h2 : (a == b) = false := by simpa using h
      have h3 : (b == a) = false := by simpa using (Ne.symm h)
      have h4 : (a :: x == b :: y) = false := by simp [h]
      rw [h2, h3, h4]
      simp only [Bool.false_and, Bool.or_false]
      have : a < b ∨ b < a := by
        rcases UInt8.lt_or_lt_of_ne h with h | h
        · exact .inl h
        · exact .inr h
      by_cases hl : a < b
      · have : ¬ b < a := UInt8.lt_asymm hl
        simp [hl, this]
      · have : b < a := by rcases this with h | h; exact absurd h hl; exact h
        simp [hl, this]
@[go_sem] theorem xbinOp_string_gtr (t : TypeId) (a b : ByteArray) : binOp .gtr t (.string a) (.string b) = pure (.bool (Op.bytesLess b.toList a.toList)) := by rw [← xBytesLess_gt]; simp [binOp, Op.stringOp]
@[go_sem] theorem xbinOp_string_leq (t : TypeId) (a b : ByteArray) : binOp .leq t (.string a) (.string b) = pure (.bool (!(Op.bytesLess b.toList a.toList))) := by rw [← xBytesLess_gt, Bool.not_not]; simp [binOp, Op.stringOp]
@[go_sem] theorem xbinOp_string_geq (t : TypeId) (a b : ByteArray) : binOp .geq t (.string a) (.string b) = pure (.bool (!(Op.bytesLess a.toList b.toList))) := by simp [binOp, Op.stringOp]
/-! short names -/
abbrev bN_ := @blk_drewN
abbrev bD_ := @blk_drew
abbrev bA_ := @blk_alloc

/-- What the library's two tables of UTF-8 hold, as the program's text lays them, and that a number lies in internal/bytealg.MaxLen. -/
def Glob (w : World) : Prop := Go.Lib.Utf8Tabs (Tryd.laysValid_ren.g 3) (Tryd.laysValid_ren.g 4) w ∧ ∃ m, w.cell? ⟨(Tryd.laysReplace_ren.g 1), 0, none⟩ = some (.int .i64 m)
theorem Glob.below {w w' : World} (h : Glob w) (hb : Below w.heap.size w w') : Glob w' := by
  refine ⟨Utf8Tabs_below h.1 hb, ?_⟩
  obtain ⟨m, hm⟩ := h.2
  exact ⟨m, (hb.cell (World.block_lt_of_cell? w _ hm)).trans hm⟩
theorem Glob.drewN {w : World} (h : Glob w) (n : Nat) : Glob (w.drewN n) := h
theorem Glob.drew {w : World} (h : Glob w) : Glob w.drew := h
theorem Glob.alloc {w : World} (h : Glob w) (o : Obj) : Glob (w.alloc o) := h.below (below_alloc (Below.refl _ _) o)
theorem Glob.u8 {w : World} (h : Glob w) : Go.Lib.Utf8Tabs (Tryd.laysValid_ren.g 3) (Tryd.laysValid_ren.g 4) w := h.1
theorem min2_mn (k k' : IntKind) (x y : Int) : Builtin.min2 (.int k x) (.int k' y) = pure (.int k (mn x y)) := by simp only [Builtin.min2]; rfl

theorem info3 : (Tryd.prog.info? 3).map (fun i => (i.zero, i.size, i.bytes)) = some (some (.int .i64 0), 1, 8) := by kernel_rfl
theorem info5 : (Tryd.prog.info? 5).map (fun i => (i.zero, i.size, i.bytes)) = some (some (.int .u8 0), 1, 1) := by kernel_rfl
theorem info23 : (Tryd.prog.info? 23).map (fun i => (i.zero, i.size, i.bytes)) = some (some (.agg #[(.int .i64 0), (.int .i64 0), (.string ⟨#[]⟩)]), 3, 32) := by kernel_rfl
-- the values' own types
/-! #### struct type 23 -/
structure S23 where
  f0 : Int
  f1 : Int
  f2 : ByteArray
def z23 : S23 := ⟨(0 : Int), (0 : Int), (⟨#[]⟩ : ByteArray)⟩
def k23 : Kd S23 := Kd.iso (Kd.pair (Kd.int .i64) (Kd.pair (Kd.int .i64) Kd.string)) (fun x : S23 => (x.f0, x.f1, x.f2))
theorem k23_open {w : World} {x : S23} {cs : List Value} (h : k23.K w x cs) : cs = [.int .i64 x.f0, .int .i64 x.f1, .string x.f2] := by
  obtain ⟨_, _, rfl, rfl, ⟨_, _, rfl, rfl, rfl⟩⟩ := h
  exact rfl
theorem k23_openM {w : World} {base : Nat} {ok : Nat → Prop} {x : S23} {cs : List Value} (h : k23.M w base ok x cs) : cs = [.int .i64 x.f0, .int .i64 x.f1, .string x.f2] := by
  obtain ⟨_, _, rfl, rfl, ⟨_, _, rfl, rfl, rfl⟩⟩ := h
  exact rfl
theorem k23_mk (w : World) (x : S23)  : k23.K w x [.int .i64 x.f0, .int .i64 x.f1, .string x.f2] := ⟨[.int .i64 x.f0], [.int .i64 x.f1, .string x.f2], rfl, rfl, ⟨[.int .i64 x.f1], [.string x.f2], rfl, rfl, rfl⟩⟩
theorem k23_mkM (w : World) (base : Nat) (ok : Nat → Prop) (x : S23)  : k23.M w base ok x [.int .i64 x.f0, .int .i64 x.f1, .string x.f2] := ⟨[.int .i64 x.f0], [.int .i64 x.f1, .string x.f2], rfl, rfl, ⟨[.int .i64 x.f1], [.string x.f2], rfl, rfl, rfl⟩⟩
def rd_T23 (xs : List S23) (i : Int) : S23 := xs.getD i.toNat z23
theorem at_T23 {w : World} {A : Option Addr} {n : Nat} {xs : List S23} (h : Kd.C k23 w A n xs) (i : Int) (h0 : 0 ≤ i) (h1 : i < n) : ∃ ad , A = some ad ∧ w.cell? (ad.add (i.toNat * 3)) = some (.int .i64 (rd_T23 xs i).f0) ∧ w.cell? ⟨(ad.add (i.toNat * 3)).block, (ad.add (i.toNat * 3)).off + 1, none⟩ = some (.int .i64 (rd_T23 xs i).f1) ∧ w.cell? ⟨(ad.add (i.toNat * 3)).block, (ad.add (i.toNat * 3)).off + 2, none⟩ = some (.string (rd_T23 xs i).f2) := by
  obtain ⟨ad, c, e, _, hK, hc0⟩ := Kd.C_get h z23 i h0 h1
  have hc : ∀ j u, c[j]? = some u → w.cell? (ad.add (i.toNat * 3 + j)) = some u := hc0
  obtain rfl := k23_open hK
  exact ⟨ad, e, hc 0 _ rfl, by rw [← add_field _ _ 1 (by omega)]; exact hc 1 _ rfl, by rw [← add_field _ _ 2 (by omega)]; exact hc 2 _ rfl⟩

def rd_L5 (xs : List (List S23)) (i : Int) : (List S23) := xs.getD i.toNat ([] : List S23)
theorem at_L5 {w : World} {A : Option Addr} {n : Nat} {xs : List (List S23)} (h : Kd.C (Kd.slice 23 k23) w A n xs) (i : Int) (h0 : 0 ≤ i) (h1 : i < n) : ∃ ad A0 c0, A = some ad ∧ w.cell? (ad.add i.toNat) = some (.slice A0 (rd_L5 xs i).length c0) ∧ (rd_L5 xs i).length ≤ c0 ∧ k23.C w A0 (rd_L5 xs i).length (rd_L5 xs i) := by
  obtain ⟨ad, c, e, _, hK, hc0⟩ := Kd.C_get h ([] : List S23) i h0 h1
  have hc : ∀ j u, c[j]? = some u → w.cell? (ad.add (i.toNat * 1 + j)) = some u := hc0
  obtain ⟨A0, c0, rfl, l0, g0⟩ := hK
  exact ⟨ad, A0, c0, e, by have hq := hc 0 _ rfl; rwa [Nat.mul_one, Nat.add_zero] at hq, l0, g0⟩

/-! phrases that come often -/
theorem ifT_ {α : Type} {a b c : α} (h : (if true = true then a else b) = c) : a = c := h
theorem ifF_ {α : Type} {a b c : α} (h : (if false = true then a else b) = c) : b = c := h
theorem q0_ {p : Prop} (h : p := by repeat (first | (with_reducible first | exact HB.out | apply below_alloc | apply pw_below_drewN | apply below_drew1 | refine below_set ?_ (Aside0.out (by assumption))) | exact HB.out)) : p := h
theorem q1_ {p : Prop} (h : p := by rw [hg]; exact (below_size (by repeat (first | (with_reducible first | exact HB.out | apply below_alloc | apply pw_below_drewN | apply below_drew1 | refine below_set ?_ (Aside0.out (by assumption))) | exact HB.out)))) : p := h
theorem q2_ {p : Prop} (h : p := by (try simp only [List.map_toArray, List.map_cons, List.map_nil]); first | done | rfl | (simp only [List.length_drop, List.length_take]; rfl)) : p := h
theorem q3_ {p : Prop} (h : p := by first | rfl | (simp [errW_none, errW_some] <;> rfl) | (simp [*, errW_none, errW_some] <;> rfl)) : p := h
theorem q4_ {p : Prop} (h : p := by (with_reducible repeat first | apply bN_ | apply bD_ | apply bA_); exact BK215.out) : p := h
theorem q5_ {p : Prop} (h : p := by first | rfl | (simp; done) | (simp [*]; done)) : p := h
theorem q6_ {p : Prop} (h : p := by first | exact HG.out | (refine Glob.below HG.out ?_; (repeat (first | (with_reducible first | exact HB.out | apply below_alloc | apply pw_below_drewN | apply below_drew1 | refine below_set ?_ GE153.out | refine below_set ?_ GE154.out) | exact HB.out))) | (repeat (first | exact HG.out | apply Glob.drewN | apply Glob.drew | apply Glob.alloc))) : p := h
theorem q7_ {p : Prop} (h : p := by (with_reducible repeat first | apply bN_ | apply bD_ | apply bA_); refine blk_put (cs := #[.int .i64 t221, .int .i64 t222, .string (⟨#[]⟩ : ByteArray)]) ?_ 2 _ rfl; (with_reducible repeat first | apply bN_ | apply bD_ | apply bA_); refine blk_put (cs := #[.int .i64 t221, .int .i64 0, .string (⟨#[]⟩ : ByteArray)]) ?_ 1 _ rfl; (with_reducible repeat first | apply bN_ | apply bD_ | apply bA_); refine blk_put (cs := #[.int .i64 0, .int .i64 0, .string (⟨#[]⟩ : ByteArray)]) ?_ 0 _ rfl; (with_reducible repeat first | apply bN_ | apply bD_ | apply bA_); exact BK225.out) : p := h
theorem q8_ {p : Prop} (h : p := by (with_reducible repeat first | apply bN_ | apply bD_ | apply bA_); refine blk_put (cs := #[.int .i64 t216, .int .i64 t217, .string (⟨#[]⟩ : ByteArray)]) ?_ 2 _ rfl; (with_reducible repeat first | apply bN_ | apply bD_ | apply bA_); refine blk_put (cs := #[.int .i64 t216, .int .i64 0, .string (⟨#[]⟩ : ByteArray)]) ?_ 1 _ rfl; (with_reducible repeat first | apply bN_ | apply bD_ | apply bA_); refine blk_put (cs := #[.int .i64 0, .int .i64 0, .string (⟨#[]⟩ : ByteArray)]) ?_ 0 _ rfl; (with_reducible repeat first | apply bN_ | apply bD_ | apply bA_); exact BK220.out) : p := h
theorem q9_ {p : Prop} (h : p := by first | exact HG.out | (refine Glob.below HG.out ?_; (repeat (first | (with_reducible first | exact HB.out | apply below_alloc | apply pw_below_drewN | apply below_drew1 | refine below_set ?_ GE215.out | refine below_set ?_ GE220.out | refine below_set ?_ GE225.out) | exact HB.out))) | (repeat (first | exact HG.out | apply Glob.drewN | apply Glob.drew | apply Glob.alloc))) : p := h
theorem q10_ {p : Prop} (h : p := by rw [hg]; exact Nat.ne_of_lt (blk_lt (g := gb215) (o := .cells #[.int .i64 a0_0, .int .i64 a0_1, .string a0_2] 23 (0, 0)) (by (with_reducible repeat first | apply bN_ | apply bD_ | apply bA_); exact BK215.out))) : p := h
theorem q11_ {p : Prop} (h : p := by rw [hg]; exact Nat.ne_of_gt (blk_lt (g := gb215) (o := .cells #[.int .i64 a0_0, .int .i64 a0_1, .string a0_2] 23 (0, 0)) (by (with_reducible repeat first | apply bN_ | apply bD_ | apply bA_); exact BK215.out))) : p := h
theorem q12_ {p : Prop} (h : p := by (with_reducible repeat first | apply bN_ | apply bD_ | apply bA_); refine blk_far ?_ NB220_225.out _; (with_reducible repeat first | apply bN_ | apply bD_ | apply bA_); refine blk_far ?_ NB220_225.out _; (with_reducible repeat first | apply bN_ | apply bD_ | apply bA_); refine blk_far ?_ NB220_225.out _; (with_reducible repeat first | apply bN_ | apply bD_ | apply bA_); exact BK220.out) : p := h
theorem q13_ {p : Prop} (h : p := by (with_reducible repeat first | apply bN_ | apply bD_ | apply bA_); refine blk_far ?_ NB215_225.out _; (with_reducible repeat first | apply bN_ | apply bD_ | apply bA_); refine blk_far ?_ NB215_225.out _; (with_reducible repeat first | apply bN_ | apply bD_ | apply bA_); refine blk_far ?_ NB215_225.out _; (with_reducible repeat first | apply bN_ | apply bD_ | apply bA_); exact BK215.out) : p := h
theorem q14_ {p : Prop} (h : p := by (with_reducible repeat first | apply bN_ | apply bD_ | apply bA_); refine blk_far ?_ NB215_220.out _; (with_reducible repeat first | apply bN_ | apply bD_ | apply bA_); refine blk_far ?_ NB215_220.out _; (with_reducible repeat first | apply bN_ | apply bD_ | apply bA_); refine blk_far ?_ NB215_220.out _; (with_reducible repeat first | apply bN_ | apply bD_ | apply bA_); exact BK215.out) : p := h
theorem q15_ {p : Prop} (h : p := by (with_reducible repeat first | apply bN_ | apply bD_ | apply bA_); exact BK316.out) : p := h
theorem q16_ {p : Prop} (h : p := by (with_reducible repeat first | apply bN_ | apply bD_ | apply bA_); exact BK229.out) : p := h
theorem q17_ {p : Prop} (h : p := by first | (with_reducible assumption) | assumption) : p := h
theorem q18_ {p : Prop} (h : p := by first | exact HG.out | (refine Glob.below HG.out ?_; (repeat (first | (with_reducible first | exact HB.out | apply below_alloc | apply pw_below_drewN | apply below_drew1 | refine below_set ?_ GE332.out | refine below_set ?_ GE333.out) | exact HB.out))) | (repeat (first | exact HG.out | apply Glob.drewN | apply Glob.drew | apply Glob.alloc))) : p := h
theorem q19_ {p : Prop} (h : p := by first | exact HG.out | (refine Glob.below HG.out ?_; (repeat (first | (with_reducible first | exact HB.out | apply below_alloc | apply pw_below_drewN | apply below_drew1 | refine below_set ?_ GE215.out | refine below_set ?_ GE220.out) | exact HB.out))) | (repeat (first | exact HG.out | apply Glob.drewN | apply Glob.drew | apply Glob.alloc))) : p := h
theorem q20_ {p : Prop} (h : p := by (with_reducible repeat first | apply bN_ | apply bD_ | apply bA_); exact BK181.out) : p := h
theorem q21_ {p : Prop} (h : p := by repeat (first | exact Drawn0.refl _ | apply Drawn0.step)) : p := h
theorem q22_ {p : Prop} (h : p := by (with_reducible repeat first | apply bN_ | apply bD_ | apply bA_); exact BK230.out) : p := h
theorem q23_ {p : Prop} (h : p := by first | exact HG.out | (refine Glob.below HG.out ?_; (repeat (first | (with_reducible first | exact HB.out | apply below_alloc | apply pw_below_drewN | apply below_drew1 | refine below_set ?_ GE215.out) | exact HB.out))) | (repeat (first | exact HG.out | apply Glob.drewN | apply Glob.drew | apply Glob.alloc))) : p := h
theorem q24_ {p : Prop} (h : p := by (with_reducible repeat first | apply bN_ | apply bD_ | apply bA_); exact BK332.out) : p := h
theorem q25_ {p : Prop} (h : p := by (with_reducible repeat first | apply bN_ | apply bD_ | apply bA_); exact BK220.out) : p := h
theorem q26_ {p : Prop} (h : p := by (with_reducible repeat first | apply bN_ | apply bD_ | apply bA_); exact BK333.out) : p := h
theorem q27_ {p : Prop} (h : p := by (with_reducible repeat first | apply bN_ | apply bD_ | apply bA_); exact BK235.out) : p := h
theorem q28_ {p : Prop} (h : p := by (with_reducible repeat first | apply bN_ | apply bD_ | apply bA_); exact BK162.out) : p := h
theorem q29_ {p : Prop} (h : p := by (with_reducible repeat first | apply bN_ | apply bD_ | apply bA_); exact BK134.out) : p := h
theorem q30_ {p : Prop} (h : p := by (with_reducible repeat first | apply bN_ | apply bD_ | apply bA_); refine blk_put (cs := #[.int .i64 t246, .int .i64 t247, .string (⟨#[]⟩ : ByteArray)]) ?_ 2 _ rfl; (with_reducible repeat first | apply bN_ | apply bD_ | apply bA_); refine blk_put (cs := #[.int .i64 t246, .int .i64 0, .string (⟨#[]⟩ : ByteArray)]) ?_ 1 _ rfl; (with_reducible repeat first | apply bN_ | apply bD_ | apply bA_); refine blk_put (cs := #[.int .i64 0, .int .i64 0, .string (⟨#[]⟩ : ByteArray)]) ?_ 0 _ rfl; (with_reducible repeat first | apply bN_ | apply bD_ | apply bA_); exact BK250.out) : p := h
theorem q31_ {p : Prop} (h : p := by (with_reducible repeat first | apply bN_ | apply bD_ | apply bA_); refine blk_put (cs := #[.int .i64 t182, .int .i64 t183, .string (⟨#[]⟩ : ByteArray)]) ?_ 2 _ rfl; (with_reducible repeat first | apply bN_ | apply bD_ | apply bA_); refine blk_put (cs := #[.int .i64 t182, .int .i64 0, .string (⟨#[]⟩ : ByteArray)]) ?_ 1 _ rfl; (with_reducible repeat first | apply bN_ | apply bD_ | apply bA_); refine blk_put (cs := #[.int .i64 0, .int .i64 0, .string (⟨#[]⟩ : ByteArray)]) ?_ 0 _ rfl; (with_reducible repeat first | apply bN_ | apply bD_ | apply bA_); exact BK186.out) : p := h
theorem q32_ {p : Prop} (h : p := by (with_reducible repeat first | apply bN_ | apply bD_ | apply bA_); exact BK194.out) : p := h
theorem q33_ {p : Prop} (h : p := by rw [hg]; exact Nat.ne_of_lt (blk_lt (g := gb316) (o := .cells #[.int .i64 a0_0, .int .i64 a0_1, .string a0_2] 23 (0, 0)) (by (with_reducible repeat first | apply bN_ | apply bD_ | apply bA_); exact BK316.out))) : p := h
theorem q34_ {p : Prop} (h : p := by rw [hg]; exact Nat.ne_of_gt (blk_lt (g := gb316) (o := .cells #[.int .i64 a0_0, .int .i64 a0_1, .string a0_2] 23 (0, 0)) (by (with_reducible repeat first | apply bN_ | apply bD_ | apply bA_); exact BK316.out))) : p := h
theorem q35_ {p : Prop} (h : p := by first | exact HG.out | (refine Glob.below HG.out ?_; (repeat (first | (with_reducible first | exact HB.out | apply below_alloc | apply pw_below_drewN | apply below_drew1) | exact HB.out))) | (repeat (first | exact HG.out | apply Glob.drewN | apply Glob.drew | apply Glob.alloc))) : p := h
theorem q36_ {p : Prop} (h : p := by (with_reducible repeat first | apply bN_ | apply bD_ | apply bA_); exact BK240.out) : p := h
theorem q37_ {p : Prop} (h : p := by rw [hg]; exact Nat.ne_of_lt (blk_lt (g := gb229) (o := .cells #[.int .i64 a0_0, .int .i64 a0_1, .string a0_2] 23 (0, 0)) (by (with_reducible repeat first | apply bN_ | apply bD_ | apply bA_); exact BK229.out))) : p := h
theorem q38_ {p : Prop} (h : p := by rw [hg]; exact Nat.ne_of_lt (blk_lt (g := gb220) (o := .cells #[.int .i64 t216, .int .i64 t217, .string t218] 23 (0, 0)) (by (with_reducible repeat first | apply bN_ | apply bD_ | apply bA_); exact BK220.out))) : p := h
theorem q39_ {p : Prop} (h : p := by rw [hg]; exact Nat.ne_of_lt (blk_lt (g := gb181) (o := .cells #[.int .i64 a0_0, .int .i64 a0_1, .string a0_2] 23 (0, 0)) (by (with_reducible repeat first | apply bN_ | apply bD_ | apply bA_); exact BK181.out))) : p := h
theorem q40_ {p : Prop} (h : p := by rw [hg]; exact Nat.ne_of_gt (blk_lt (g := gb229) (o := .cells #[.int .i64 a0_0, .int .i64 a0_1, .string a0_2] 23 (0, 0)) (by (with_reducible repeat first | apply bN_ | apply bD_ | apply bA_); exact BK229.out))) : p := h
theorem q41_ {p : Prop} (h : p := by rw [hg]; exact Nat.ne_of_gt (blk_lt (g := gb220) (o := .cells #[.int .i64 t216, .int .i64 t217, .string t218] 23 (0, 0)) (by (with_reducible repeat first | apply bN_ | apply bD_ | apply bA_); exact BK220.out))) : p := h
theorem q42_ {p : Prop} (h : p := by rw [hg]; exact Nat.ne_of_gt (blk_lt (g := gb181) (o := .cells #[.int .i64 a0_0, .int .i64 a0_1, .string a0_2] 23 (0, 0)) (by (with_reducible repeat first | apply bN_ | apply bD_ | apply bA_); exact BK181.out))) : p := h
theorem q43_ {p : Prop} (h : p := by first | exact HG.out | (refine Glob.below HG.out ?_; (repeat (first | (with_reducible first | exact HB.out | apply below_alloc | apply pw_below_drewN | apply below_drew1 | refine below_set ?_ GE229.out | refine below_set ?_ GE230.out | refine below_set ?_ GE235.out | refine below_set ?_ GE240.out | refine below_set ?_ GE245.out | refine below_set ?_ GE250.out) | exact HB.out))) | (repeat (first | exact HG.out | apply Glob.drewN | apply Glob.drew | apply Glob.alloc))) : p := h
theorem q44_ {p : Prop} (h : p := by (with_reducible repeat first | apply bN_ | apply bD_ | apply bA_); exact BK245.out) : p := h
theorem q45_ {p : Prop} (h : p := by (with_reducible repeat first | apply bN_ | apply bD_ | apply bA_); exact BK153.out) : p := h
theorem q46_ {p : Prop} (h : p := by (with_reducible repeat first | apply bN_ | apply bD_ | apply bA_); exact BK342.out) : p := h
theorem q47_ {p : Prop} (h : p := by rw [hg]; exact Nat.ne_of_lt (blk_lt (g := gb230) (o := .cells #[.int .i64 a1_0, .int .i64 a1_1, .string a1_2] 23 (0, 0)) (by (with_reducible repeat first | apply bN_ | apply bD_ | apply bA_); exact BK230.out))) : p := h
theorem q48_ {p : Prop} (h : p := by rw [hg]; exact Nat.ne_of_gt (blk_lt (g := gb230) (o := .cells #[.int .i64 a1_0, .int .i64 a1_1, .string a1_2] 23 (0, 0)) (by (with_reducible repeat first | apply bN_ | apply bD_ | apply bA_); exact BK230.out))) : p := h
theorem q49_ {p : Prop} (h : p := by first | exact HG.out | (refine Glob.below HG.out ?_; (repeat (first | (with_reducible first | exact HB.out | apply below_alloc | apply pw_below_drewN | apply below_drew1 | refine below_set ?_ GE181.out) | exact HB.out))) | (repeat (first | exact HG.out | apply Glob.drewN | apply Glob.drew | apply Glob.alloc))) : p := h
theorem q50_ {p : Prop} (h : p := by first | exact HG.out | (refine Glob.below HG.out ?_; (repeat (first | (with_reducible first | exact HB.out | apply below_alloc | apply pw_below_drewN | apply below_drew1 | refine below_set ?_ GE125.out) | exact HB.out))) | (repeat (first | exact HG.out | apply Glob.drewN | apply Glob.drew | apply Glob.alloc))) : p := h
theorem q51_ {p : Prop} (h : p := by (with_reducible repeat first | apply bN_ | apply bD_ | apply bA_); exact BK195.out) : p := h
theorem q52_ {p : Prop} (h : p := by (with_reducible repeat first | apply bN_ | apply bD_ | apply bA_); refine blk_far ?_ NB245_250.out _; (with_reducible repeat first | apply bN_ | apply bD_ | apply bA_); refine blk_far ?_ NB245_250.out _; (with_reducible repeat first | apply bN_ | apply bD_ | apply bA_); refine blk_far ?_ NB245_250.out _; (with_reducible repeat first | apply bN_ | apply bD_ | apply bA_); exact BK245.out) : p := h
theorem q53_ {p : Prop} (h : p := by (with_reducible repeat first | apply bN_ | apply bD_ | apply bA_); refine blk_far ?_ NB240_250.out _; (with_reducible repeat first | apply bN_ | apply bD_ | apply bA_); refine blk_far ?_ NB240_250.out _; (with_reducible repeat first | apply bN_ | apply bD_ | apply bA_); refine blk_far ?_ NB240_250.out _; (with_reducible repeat first | apply bN_ | apply bD_ | apply bA_); exact BK240.out) : p := h
theorem q54_ {p : Prop} (h : p := by (with_reducible repeat first | apply bN_ | apply bD_ | apply bA_); refine blk_far ?_ NB235_250.out _; (with_reducible repeat first | apply bN_ | apply bD_ | apply bA_); refine blk_far ?_ NB235_250.out _; (with_reducible repeat first | apply bN_ | apply bD_ | apply bA_); refine blk_far ?_ NB235_250.out _; (with_reducible repeat first | apply bN_ | apply bD_ | apply bA_); exact BK235.out) : p := h
theorem q55_ {p : Prop} (h : p := by (with_reducible repeat first | apply bN_ | apply bD_ | apply bA_); refine blk_far ?_ NB230_250.out _; (with_reducible repeat first | apply bN_ | apply bD_ | apply bA_); refine blk_far ?_ NB230_250.out _; (with_reducible repeat first | apply bN_ | apply bD_ | apply bA_); refine blk_far ?_ NB230_250.out _; (with_reducible repeat first | apply bN_ | apply bD_ | apply bA_); exact BK230.out) : p := h
theorem q56_ {p : Prop} (h : p := by (with_reducible repeat first | apply bN_ | apply bD_ | apply bA_); refine blk_far ?_ NB229_250.out _; (with_reducible repeat first | apply bN_ | apply bD_ | apply bA_); refine blk_far ?_ NB229_250.out _; (with_reducible repeat first | apply bN_ | apply bD_ | apply bA_); refine blk_far ?_ NB229_250.out _; (with_reducible repeat first | apply bN_ | apply bD_ | apply bA_); exact BK229.out) : p := h
theorem q57_ {p : Prop} (h : p := by (with_reducible repeat first | apply bN_ | apply bD_ | apply bA_); refine blk_far ?_ NB181_186.out _; (with_reducible repeat first | apply bN_ | apply bD_ | apply bA_); refine blk_far ?_ NB181_186.out _; (with_reducible repeat first | apply bN_ | apply bD_ | apply bA_); refine blk_far ?_ NB181_186.out _; (with_reducible repeat first | apply bN_ | apply bD_ | apply bA_); exact BK181.out) : p := h
theorem q58_ {p : Prop} (h : p := by (with_reducible repeat first | apply bN_ | apply bD_ | apply bA_); exact BK250.out) : p := h
theorem q59_ {p : Prop} (h : p := by (with_reducible repeat first | apply bN_ | apply bD_ | apply bA_); exact BK154.out) : p := h
theorem q60_ {p : Prop} (h : p := by (with_reducible repeat first | apply bN_ | apply bD_ | apply bA_); exact BK343.out) : p := h
theorem q61_ {p : Prop} (h : p := by (with_reducible repeat first | apply bN_ | apply bD_ | apply bA_); exact BK163.out) : p := h
theorem q62_ {p : Prop} (h : p := by (with_reducible repeat first | apply bN_ | apply bD_ | apply bA_); exact BK135.out) : p := h
theorem q63_ {p : Prop} (h : p := by rw [hg]; exact Nat.ne_of_lt (blk_lt (g := gb235) (o := .cells #[.int .i64 t231, .int .i64 t232, .string t233] 23 (0, 0)) (by (with_reducible repeat first | apply bN_ | apply bD_ | apply bA_); exact BK235.out))) : p := h
theorem q64_ {p : Prop} (h : p := by rw [hg]; exact Nat.ne_of_lt (blk_lt (g := gb162) (o := .cells #[.int .i64 a0_0, .int .i64 a0_1, .string a0_2] 23 (0, 0)) (by (with_reducible repeat first | apply bN_ | apply bD_ | apply bA_); exact BK162.out))) : p := h
theorem q65_ {p : Prop} (h : p := by rw [hg]; exact Nat.ne_of_lt (blk_lt (g := gb134) (o := .cells #[.int .i64 a0_0, .int .i64 a0_1, .string a0_2] 23 (0, 0)) (by (with_reducible repeat first | apply bN_ | apply bD_ | apply bA_); exact BK134.out))) : p := h
theorem q66_ {p : Prop} (h : p := by rw [hg]; exact Nat.ne_of_gt (blk_lt (g := gb235) (o := .cells #[.int .i64 t231, .int .i64 t232, .string t233] 23 (0, 0)) (by (with_reducible repeat first | apply bN_ | apply bD_ | apply bA_); exact BK235.out))) : p := h
theorem q67_ {p : Prop} (h : p := by rw [hg]; exact Nat.ne_of_gt (blk_lt (g := gb162) (o := .cells #[.int .i64 a0_0, .int .i64 a0_1, .string a0_2] 23 (0, 0)) (by (with_reducible repeat first | apply bN_ | apply bD_ | apply bA_); exact BK162.out))) : p := h
theorem q68_ {p : Prop} (h : p := by rw [hg]; exact Nat.ne_of_gt (blk_lt (g := gb134) (o := .cells #[.int .i64 a0_0, .int .i64 a0_1, .string a0_2] 23 (0, 0)) (by (with_reducible repeat first | apply bN_ | apply bD_ | apply bA_); exact BK134.out))) : p := h
theorem q69_ {p : Prop} (h : p := by first | exact HG.out | (refine Glob.below HG.out ?_; (repeat (first | (with_reducible first | exact HB.out | apply below_alloc | apply pw_below_drewN | apply below_drew1 | refine below_set ?_ GE181.out | refine below_set ?_ GE186.out) | exact HB.out))) | (repeat (first | exact HG.out | apply Glob.drewN | apply Glob.drew | apply Glob.alloc))) : p := h
theorem q70_ {p : Prop} (h : p := by rw [hg]; exact Nat.ne_of_lt (blk_lt (g := gb240) (o := .cells #[.int .i64 t236, .int .i64 t237, .string t238] 23 (0, 0)) (by (with_reducible repeat first | apply bN_ | apply bD_ | apply bA_); exact BK240.out))) : p := h
theorem q71_ {p : Prop} (h : p := by rw [hg]; exact Nat.ne_of_gt (blk_lt (g := gb240) (o := .cells #[.int .i64 t236, .int .i64 t237, .string t238] 23 (0, 0)) (by (with_reducible repeat first | apply bN_ | apply bD_ | apply bA_); exact BK240.out))) : p := h
theorem q72_ {p : Prop} (h : p := by (with_reducible repeat first | apply bN_ | apply bD_ | apply bA_); exact BK344.out) : p := h
theorem q73_ {p : Prop} (h : p := by first | exact HG.out | (refine Glob.below HG.out ?_; (repeat (first | (with_reducible first | exact HB.out | apply below_alloc | apply pw_below_drewN | apply below_drew1 | refine below_set ?_ GE342.out | refine below_set ?_ GE343.out | refine below_set ?_ GE344.out) | exact HB.out))) | (repeat (first | exact HG.out | apply Glob.drewN | apply Glob.drew | apply Glob.alloc))) : p := h
theorem q74_ {p : Prop} (h : p := by first | exact HG.out | (refine Glob.below HG.out ?_; (repeat (first | (with_reducible first | exact HB.out | apply below_alloc | apply pw_below_drewN | apply below_drew1 | refine below_set ?_ GE162.out | refine below_set ?_ GE163.out | refine below_set ?_ GE164.out) | exact HB.out))) | (repeat (first | exact HG.out | apply Glob.drewN | apply Glob.drew | apply Glob.alloc))) : p := h
theorem q75_ {p : Prop} (h : p := by first | exact HG.out | (refine Glob.below HG.out ?_; (repeat (first | (with_reducible first | exact HB.out | apply below_alloc | apply pw_below_drewN | apply below_drew1 | refine below_set ?_ GE134.out | refine below_set ?_ GE135.out | refine below_set ?_ GE136.out) | exact HB.out))) | (repeat (first | exact HG.out | apply Glob.drewN | apply Glob.drew | apply Glob.alloc))) : p := h
theorem q76_ {p : Prop} (h : p := by (with_reducible repeat first | apply bN_ | apply bD_ | apply bA_); exact BK196.out) : p := h
theorem q77_ {p : Prop} (h : p := by (with_reducible repeat first | apply bN_ | apply bD_ | apply bA_); exact BK129.out) : p := h
theorem q78_ {p : Prop} (h : p := by first | exact HG.out | (refine Glob.below HG.out ?_; (repeat (first | (with_reducible first | exact HB.out | apply below_alloc | apply pw_below_drewN | apply below_drew1 | refine below_set ?_ GE129.out | refine below_set ?_ GE130.out) | exact HB.out))) | (repeat (first | exact HG.out | apply Glob.drewN | apply Glob.drew | apply Glob.alloc))) : p := h
theorem q79_ {p : Prop} (h : p := by (with_reducible repeat first | apply bN_ | apply bD_ | apply bA_); exact BK258.out) : p := h
theorem q80_ {p : Prop} (h : p := by (with_reducible repeat first | apply bN_ | apply bD_ | apply bA_); exact BK186.out) : p := h
theorem q81_ {p : Prop} (h : p := by rw [hg]; exact Nat.ne_of_lt (blk_lt (g := gb245) (o := .cells #[.int .i64 t241, .int .i64 t242, .string t243] 23 (0, 0)) (by (with_reducible repeat first | apply bN_ | apply bD_ | apply bA_); exact BK245.out))) : p := h
theorem q82_ {p : Prop} (h : p := by rw [hg]; exact Nat.ne_of_lt (blk_lt (g := gb194) (o := .cells #[.int .i64 a0_0, .int .i64 a0_1, .string a0_2] 23 (0, 0)) (by (with_reducible repeat first | apply bN_ | apply bD_ | apply bA_); exact BK194.out))) : p := h
theorem q83_ {p : Prop} (h : p := by rw [hg]; exact Nat.ne_of_gt (blk_lt (g := gb245) (o := .cells #[.int .i64 t241, .int .i64 t242, .string t243] 23 (0, 0)) (by (with_reducible repeat first | apply bN_ | apply bD_ | apply bA_); exact BK245.out))) : p := h
theorem q84_ {p : Prop} (h : p := by rw [hg]; exact Nat.ne_of_gt (blk_lt (g := gb194) (o := .cells #[.int .i64 a0_0, .int .i64 a0_1, .string a0_2] 23 (0, 0)) (by (with_reducible repeat first | apply bN_ | apply bD_ | apply bA_); exact BK194.out))) : p := h
theorem q85_ {p : Prop} (h : p := by (with_reducible repeat first | apply bN_ | apply bD_ | apply bA_); exact BK130.out) : p := h
theorem q86_ {p : Prop} (h : p := by rw [hg]; exact Nat.ne_of_lt (blk_lt (g := gb250) (o := .cells #[.int .i64 t246, .int .i64 t247, .string t248] 23 (0, 0)) (by (with_reducible repeat first | apply bN_ | apply bD_ | apply bA_); exact BK250.out))) : p := h
theorem q87_ {p : Prop} (h : p := by rw [hg]; exact Nat.ne_of_lt (blk_lt (g := gb186) (o := .cells #[.int .i64 t182, .int .i64 t183, .string t184] 23 (0, 0)) (by (with_reducible repeat first | apply bN_ | apply bD_ | apply bA_); exact BK186.out))) : p := h
theorem q88_ {p : Prop} (h : p := by rw [hg]; exact Nat.ne_of_lt (blk_lt (g := gb163) (o := .cells #[.int .i64 a1_0, .int .i64 a1_1, .string a1_2] 23 (0, 0)) (by (with_reducible repeat first | apply bN_ | apply bD_ | apply bA_); exact BK163.out))) : p := h
theorem q89_ {p : Prop} (h : p := by rw [hg]; exact Nat.ne_of_lt (blk_lt (g := gb135) (o := .cells #[.int .i64 a1_0, .int .i64 a1_1, .string a1_2] 23 (0, 0)) (by (with_reducible repeat first | apply bN_ | apply bD_ | apply bA_); exact BK135.out))) : p := h
theorem q90_ {p : Prop} (h : p := by rw [hg]; exact Nat.ne_of_gt (blk_lt (g := gb250) (o := .cells #[.int .i64 t246, .int .i64 t247, .string t248] 23 (0, 0)) (by (with_reducible repeat first | apply bN_ | apply bD_ | apply bA_); exact BK250.out))) : p := h
theorem q91_ {p : Prop} (h : p := by rw [hg]; exact Nat.ne_of_gt (blk_lt (g := gb186) (o := .cells #[.int .i64 t182, .int .i64 t183, .string t184] 23 (0, 0)) (by (with_reducible repeat first | apply bN_ | apply bD_ | apply bA_); exact BK186.out))) : p := h
theorem q92_ {p : Prop} (h : p := by rw [hg]; exact Nat.ne_of_gt (blk_lt (g := gb163) (o := .cells #[.int .i64 a1_0, .int .i64 a1_1, .string a1_2] 23 (0, 0)) (by (with_reducible repeat first | apply bN_ | apply bD_ | apply bA_); exact BK163.out))) : p := h
theorem q93_ {p : Prop} (h : p := by rw [hg]; exact Nat.ne_of_gt (blk_lt (g := gb135) (o := .cells #[.int .i64 a1_0, .int .i64 a1_1, .string a1_2] 23 (0, 0)) (by (with_reducible repeat first | apply bN_ | apply bD_ | apply bA_); exact BK135.out))) : p := h
theorem q94_ {p : Prop} (h : p := by first | exact HG.out | (refine Glob.below HG.out ?_; (repeat (first | (with_reducible first | exact HB.out | apply below_alloc | apply pw_below_drewN | apply below_drew1 | refine below_set ?_ GE194.out | refine below_set ?_ GE195.out | refine below_set ?_ GE196.out) | exact HB.out))) | (repeat (first | exact HG.out | apply Glob.drewN | apply Glob.drew | apply Glob.alloc))) : p := h
theorem q95_ {p : Prop} (h : p := by (with_reducible repeat first | apply bN_ | apply bD_ | apply bA_); exact BK164.out) : p := h
theorem q96_ {p : Prop} (h : p := by (with_reducible repeat first | apply bN_ | apply bD_ | apply bA_); exact BK136.out) : p := h
theorem q97_ {p : Prop} (h : p := by (with_reducible repeat first | apply bN_ | apply bD_ | apply bA_); exact BK125.out) : p := h
theorem q98_ {p : Prop} (h : p := by (with_reducible repeat (first | apply Kd.R_alloc | apply Kd.R_drewN | apply Kd.R_drew)); exact HO405.out) : p := h
theorem q99_ {p : Prop} (h : p := by have := HK1.out; first | omega | exact Nat.le_refl _) : p := h
theorem q100_ {p : Prop} (h : p := by (with_reducible repeat first | apply bN_ | apply bD_ | apply bA_); exact BK323.out) : p := h
theorem q101_ {p : Prop} (h : p := by (with_reducible repeat first | apply bN_ | apply bD_ | apply bA_); exact BK317.out) : p := h
theorem q102_ {p : Prop} (h : p := by (with_reducible repeat first | apply bN_ | apply bD_ | apply bA_); exact BK175.out) : p := h
theorem q103_ {p : Prop} (h : p := by rw [hg]; exact Nat.ne_of_lt (blk_lt (g := gb342) (o := .cells #[.int .i64 a0_0, .int .i64 a0_1, .string a0_2] 23 (0, 0)) (by (with_reducible repeat first | apply bN_ | apply bD_ | apply bA_); exact BK342.out))) : p := h
theorem q104_ {p : Prop} (h : p := by rw [hg]; exact Nat.ne_of_lt (blk_lt (g := gb195) (o := .cells #[.int .i64 a1_0, .int .i64 a1_1, .string a1_2] 23 (0, 0)) (by (with_reducible repeat first | apply bN_ | apply bD_ | apply bA_); exact BK195.out))) : p := h
theorem q105_ {p : Prop} (h : p := by rw [hg]; exact Nat.ne_of_gt (blk_lt (g := gb342) (o := .cells #[.int .i64 a0_0, .int .i64 a0_1, .string a0_2] 23 (0, 0)) (by (with_reducible repeat first | apply bN_ | apply bD_ | apply bA_); exact BK342.out))) : p := h
theorem q106_ {p : Prop} (h : p := by rw [hg]; exact Nat.ne_of_gt (blk_lt (g := gb195) (o := .cells #[.int .i64 a1_0, .int .i64 a1_1, .string a1_2] 23 (0, 0)) (by (with_reducible repeat first | apply bN_ | apply bD_ | apply bA_); exact BK195.out))) : p := h
theorem q107_ {p : Prop} (h : p := by (with_reducible repeat (first | apply Kd.R_alloc | apply Kd.R_drewN | apply Kd.R_drew)); exact HO402.out) : p := h

end Go.Proofs.YtmdnnpahmoaicaaDoor.P
