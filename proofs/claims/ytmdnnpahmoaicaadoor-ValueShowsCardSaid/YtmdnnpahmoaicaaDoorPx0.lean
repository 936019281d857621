-- Written by our own program (wip/xprint) over the seat's translation. Lean checks it.
import Derived.Test.YtmdnnpahmoaicaaDoorProg
import Derived.Below
import Derived.Deep.Draws
import Derived.Deep.AppendLies
import Derived.Maps.AppendAt
import Derived.OwnWalk
import Derived.Laws.BytesArg
import Derived.Laws.MakeOwn
import Derived.Laws.OwnMore
import Derived.Deep.OwnRows
import Derived.Tactics
import Derived.Lib.ConvBytes
import Derived.Laws.Slices
import Derived.WalkKit
import Derived.KernelRfl
import Derived.RowKit3
import Derived.Deep.LoopGhost
import Derived.Deep.QuietTactic
import Derived.BigQuiet
import Derived.WideLaws
import Derived.Deep.DeepCutAuto
import Derived.Deep.CutBlock
import Derived.Deep.RegionHeld3
import Derived.Laws.Rows
import Derived.Lib.AppendStr
import Derived.ArgAppend
import Derived.Laws.IdiomCopy
import Derived.OrdersHeld
import Derived.Laws.BitsLemmas
import Derived.RowKit
import Derived.Shelf.Unicode.ValidAny
import Derived.Lib.ValidU
import Derived.Shelf.Strings.Replace
import Derived.Shelf.Strings.OnBuilder
import Derived.Shelf.Strconv.Itoa3
import Derived.Test.YtmdnnpahmoaicaaDoorShelf
import Derived.Test.YtmdnnpahmoaicaaDoorShelfB
import Derived.Test.YtmdnnpahmoaicaaDoorWWords
import Derived.Test.YtmdnnpahmoaicaaDoorWLast
import Derived.Test.YtmdnnpahmoaicaaDoorWTab
import Derived.Test.YtmdnnpahmoaicaaDoorWFour
import Derived.Test.YtmdnnpahmoaicaaDoorWQPut
import Derived.Test.YtmdnnpahmoaicaaDoorWApart
import Derived.Test.YtmdnnpahmoaicaaDoorWArr
import Derived.Test.YtmdnnpahmoaicaaDoorWZeros
import Derived.Test.YtmdnnpahmoaicaaDoorWFoot
import Derived.Test.YtmdnnpahmoaicaaDoorWKept
import Derived.Test.YtmdnnpahmoaicaaDoorWShare
import Derived.Test.YtmdnnpahmoaicaaDoorWN
import Derived.Test.YtmdnnpahmoaicaaDoorWFootNe
import Derived.Test.YtmdnnpahmoaicaaDoorWAt
import Derived.Test.YtmdnnpahmoaicaaDoorWEqStruct
import Derived.Test.YtmdnnpahmoaicaaDoorWRepsOne
import Derived.Test.YtmdnnpahmoaicaaDoorWInv
import Derived.Test.YtmdnnpahmoaicaaDoorWInvWords
import Derived.Test.YtmdnnpahmoaicaaDoorWGuard
import Derived.Test.YtmdnnpahmoaicaaDoorWNEv
import Derived.Test.YtmdnnpahmoaicaaDoorWMore
namespace Go.Proofs.YtmdnnpahmoaicaaDoor.P
open Go.RowKit Go.Proofs.YtmdnnpahmoaicaaDoorW.PrintWords Go.Proofs.YtmdnnpahmoaicaaDoorW.PrintLast Go.Proofs.YtmdnnpahmoaicaaDoorW.PrintMore
attribute [local go_sem] max2_int min2_int max_two min_two max_three min_three max_four min_four   -- for this text's walks alone
set_option linter.unusedVariables false
set_option linter.unusedSimpArgs false



def errW : Option Int → Value
  | none => .nilIface
  | some c => .iface 0 (.int .i64 c)
theorem errW_none : errW none = .nilIface := rfl
theorem errW_some (c : Int) : errW (some c) = .iface 0 (.int .i64 c) := rfl

/-! ### our own words: calls of body-less functions, calls of a known function value -/
section
variable {P : Program} {ops : Array Oper} {Q : Exit → Act → World → Prop}
/-- What a function without a body comes to (the model stands in for it): it yields at once and leaves the world alone. -/
def Ext (P : Program) (f : FuncId) (args : Array Value) (w : World) (R : Ending → World → Prop) : Prop :=
  ∃ v, (callFunc f args).run P w = .ok (.value v) w ∧ R (.returned v) w
theorem Ext.mono {f : FuncId} {args : Array Value} {w : World} {R R' : Ending → World → Prop} (h : Ext P f args w R) (hr : ∀ e w', R e w' → R' e w') : Ext P f args w R' := by
  obtain ⟨v, h1, h2⟩ := h
  exact ⟨v, h1, hr _ _ h2⟩
theorem goesXL_ {rest : List Oper} {oi : Oper} {a : Act} {w : World} (N : Option Tmp) (hd : oi.dst = N) (hg : oi.guard = none) {f : FuncId} {as_ : Array Operand} {ts : Array TypeId} (args : Array Value)
    (hop : oi.op = .call { callee := .value (.func f), args := as_, argTypes := ts }) (hargs : as_.map a.eval = args)
    (h : Ext P f args w fun e w' => ∃ v, e = .returned v ∧ wpList P ops Q rest (a.put N v) w') : wpList P ops Q (oi :: rest) a w := by
  refine wpList_plain hg fun K hK => ?_
  obtain ⟨v, he, v', hv, hk⟩ := h
  obtain rfl : v = v' := by injection hv
  have hrun : (execOp a.eval oi).run P w = .ok (.value v) w := by
    unfold execOp
    simp [hop, resolve, Deferred.ofValue, invoke, Act.eval, hargs, he]
  unfold Oper.wp
  rw [hrun]
  subst hd
  exact hK _ _ hk
theorem goesX_ {oi : Oper} {N : Option Tmp} {a : Act} {w : World} {K : Act → World → Prop} {f : FuncId} {as_ : Array Operand} {ts : Array TypeId} (args : Array Value)
    (hw : Region.wanted oi (yielded ops a.tmps) = true) (hN : oi.dst = N) (hop : oi.op = .call { callee := .value (.func f), args := as_, argTypes := ts }) (hargs : as_.map a.eval = args)
    (h : Ext P f args w fun e w' => ∃ v, e = .returned v ∧ K (a.put N v) w') : if Region.wanted oi (yielded ops a.tmps) = true then Oper.wp P oi a w K Q else K (a.put N undef) w := by
  obtain ⟨v, he, v', hv, hk⟩ := h
  obtain rfl : v = v' := by injection hv
  refine value_ hw hN ?_ hk
  unfold execOp
  simp [hop, resolve, Deferred.ofValue, invoke, Act.eval, hargs, he]
theorem gate_calleeT {rest : List Oper} {o : Oper} {a : Act} {W : World} {t : Tmp} {as_ : Array Operand} {ts : Array TypeId} (_ho : o.op = .call { callee := .value (.tmp t), args := as_, argTypes := ts }) (h : wpList P ops Q (o :: rest) a W) : wpList P ops Q (o :: rest) a W := h
theorem goesTL_ {rest : List Oper} {oi : Oper} {a : Act} {w : World} (N : Option Tmp) (hd : oi.dst = N) (hg : oi.guard = none) {f : FuncId} {fn : Func} {c : Operand} {as_ : Array Operand} {ts : Array TypeId} (hf : P.funcs[f]? = some fn) (hname : (fn.name == "runtime.NumGoroutine") = false) (hb : fn.body.isSome = true) (args : Array Value)
    (hop : oi.op = .call { callee := .value c, args := as_, argTypes := ts }) (hc : a.eval c = .func (.func f) #[] #[]) (hargs : as_.map a.eval = args)
    (h : Calls P f args w fun e w' => ∃ v, e = .returned v ∧ wpList P ops Q rest (a.put N v) w') : wpList P ops Q (oi :: rest) a w := by
  refine wpList_plain hg fun K hK => ?_
  have he := enters_ hf hname hb args w
  have hrun : (execOp a.eval oi).run P w = .ok (.enter f args) w := by
    unfold execOp
    simp [hop, resolve, hc, Deferred.ofValue, invoke, hargs, he]
  unfold Oper.wp
  rw [hrun, Oper.upon_enter]
  refine h.mono fun e w'' hh => ?_
  obtain ⟨v, rfl, hk⟩ := hh
  subst hd
  exact hK _ _ hk
theorem goesT_ {oi : Oper} {N : Option Tmp} {a : Act} {w : World} {K : Act → World → Prop} {f : FuncId} {fn : Func} {c : Operand} {as_ : Array Operand} {ts : Array TypeId} (hf : P.funcs[f]? = some fn) (hname : (fn.name == "runtime.NumGoroutine") = false) (hb : fn.body.isSome = true) (args : Array Value)
    (hw : Region.wanted oi (yielded ops a.tmps) = true) (hN : oi.dst = N) (hop : oi.op = .call { callee := .value c, args := as_, argTypes := ts }) (hc : a.eval c = .func (.func f) #[] #[]) (hargs : as_.map a.eval = args)
    (h : Calls P f args w fun e w' => ∃ v, e = .returned v ∧ K (a.put N v) w') : if Region.wanted oi (yielded ops a.tmps) = true then Oper.wp P oi a w K Q else K (a.put N undef) w := by
  refine call_ f args hw hN ?_ h
  have he := enters_ hf hname hb args w
  unfold execOp
  simp [hop, resolve, hc, Deferred.ofValue, invoke, hargs, he]
end
/-! strings that stand one after the other -/
theorem xBytesLess_gt : ∀ (x y : List UInt8), (!(Op.bytesLess x y || x == y)) = Op.bytesLess y x
  | [], [] => rfl
  | [], b :: y => rfl
  | a :: x, [] => rfl
  | a :: x, b :: y => by
    have ih := xBytesLess_gt x y
    simp only [Op.bytesLess]
    by_cases h : a = b
    · subst h
      have h1 : decide (a < a) = false := by simp
      simp only [h1, Bool.false_or, beq_self_eq_true, Bool.true_and]
      rw [← ih]; simp
    · have h2 : (a == b) = false := by simpa using h
      have h3 : (b == a) = false := by simpa using (Ne.symm h)
      have h4 : (a :: x == b :: y) = false := by simp [h]
      rw [h2, h3, h4]
      simp only [Bool.false_and, Bool.or_false]
      have : a < b ∨ b < a := by
        rcases UInt8.lt_or_lt_of_ne h with h | h
        · exact .inl h
        · exact .inr h
      by_cases hl : a < b
      · have : ¬ b < a := UInt8.lt_asymm hl
        simp [hl, this]
      · have : b < a := by rcases this with h | h; exact absurd h hl; exact h
        simp [hl, this]
@[go_sem] theorem xbinOp_string_gtr (t : TypeId) (a b : ByteArray) : binOp .gtr t (.string a) (.string b) = pure (.bool (Op.bytesLess b.toList a.toList)) := by rw [← xBytesLess_gt]; simp [binOp, Op.stringOp]
@[go_sem] theorem xbinOp_string_leq (t : TypeId) (a b : ByteArray) : binOp .leq t (.string a) (.string b) = pure (.bool (!(Op.bytesLess b.toList a.toList))) := by rw [← xBytesLess_gt, Bool.not_not]; simp [binOp, Op.stringOp]
@[go_sem] theorem xbinOp_string_geq (t : TypeId) (a b : ByteArray) : binOp .geq t (.string a) (.string b) = pure (.bool (!(Op.bytesLess a.toList b.toList))) := by simp [binOp, Op.stringOp]
/-! short names -/
abbrev bN_ := @blk_drewN
abbrev bD_ := @blk_drew
abbrev bA_ := @blk_alloc

/-- What the library's two tables of UTF-8 and its table of tens hold, as the program's text lays them, and that a number lies in internal/bytealg.MaxLen. -/
def Glob (w : World) : Prop := Go.Lib.Utf8Tabs (Tryd.laysValid_ren.g 3) (Tryd.laysValid_ren.g 4) w ∧ (∃ m, w.cell? ⟨(Tryd.laysReplace_ren.g 1), 0, none⟩ = some (.int .i64 m)) ∧ Go.Lib.TabIs Tryd.prog w "internal/strconv.uint64pow10" .u64 Go.Lib.pow10Tab
theorem Glob.maxlen {w : World} (h : Glob w) : ∃ m, w.cell? ⟨(Tryd.laysReplace_ren.g 1), 0, none⟩ = some (.int .i64 m) := h.2.1
theorem Glob.pow10 {w : World} (h : Glob w) : Go.Lib.TabIs Tryd.prog w "internal/strconv.uint64pow10" .u64 Go.Lib.pow10Tab := h.2.2
theorem tens_below {P : Program} {n : String} {g : Nat} {k : IntKind} {zs : List Int} {w w' : World} (hg : P.globalNamed n = some g) (h : Go.Lib.TabIs P w n k zs) (hb : Below w.heap.size w w') : Go.Lib.TabIs P w' n k zs := by
  unfold Go.Lib.TabIs World.var? at h ⊢
  simp only [hg, Option.bind_some] at h ⊢
  have hlt : g < w.heap.size := Nat.lt_of_not_le fun hn => by rw [Array.getElem?_eq_none hn] at h; cases h
  rw [hb.block g hlt]
  exact h
theorem Glob.below {w w' : World} (h : Glob w) (hb : Below w.heap.size w w') : Glob w' := by
  refine ⟨Utf8Tabs_below h.1 hb, ?_, tens_below (g := 2) (by kernel_rfl) h.2.2 hb⟩
  obtain ⟨m, hm⟩ := h.2.1
  exact ⟨m, (hb.cell (World.block_lt_of_cell? w _ hm)).trans hm⟩
theorem Glob.drewN {w : World} (h : Glob w) (n : Nat) : Glob (w.drewN n) := h
theorem Glob.drew {w : World} (h : Glob w) : Glob w.drew := h
theorem Glob.alloc {w : World} (h : Glob w) (o : Obj) : Glob (w.alloc o) := h.below (below_alloc (Below.refl _ _) o)
theorem Glob.u8 {w : World} (h : Glob w) : Go.Lib.Utf8Tabs (Tryd.laysValid_ren.g 3) (Tryd.laysValid_ren.g 4) w := h.1
theorem min2_mn (k k' : IntKind) (x y : Int) : Builtin.min2 (.int k x) (.int k' y) = pure (.int k (mn x y)) := by simp only [Builtin.min2]; rfl

theorem info3 : (Tryd.prog.info? 3).map (fun i => (i.zero, i.size, i.bytes)) = some (some (.int .i64 0), 1, 8) := by kernel_rfl
theorem info5 : (Tryd.prog.info? 5).map (fun i => (i.zero, i.size, i.bytes)) = some (some (.int .u8 0), 1, 1) := by kernel_rfl
theorem info9 : (Tryd.prog.info? 9).map (fun i => (i.zero, i.size, i.bytes)) = some (some (.string ⟨#[]⟩), 1, 16) := by kernel_rfl
theorem info23 : (Tryd.prog.info? 23).map (fun i => (i.zero, i.size, i.bytes)) = some (some (.agg #[(.int .i64 0), (.int .i64 0), (.string ⟨#[]⟩)]), 3, 32) := by kernel_rfl
-- the values' own types
def rd_L4 (xs : List (List ByteArray)) (i : Int) : (List ByteArray) := xs.getD i.toNat ([] : List ByteArray)
theorem at_L4 {w : World} {A : Option Addr} {n : Nat} {xs : List (List ByteArray)} (h : Kd.C (Kd.slice 9 Kd.string) w A n xs) (i : Int) (h0 : 0 ≤ i) (h1 : i < n) : ∃ ad A0 c0, A = some ad ∧ w.cell? (ad.add i.toNat) = some (.slice A0 (rd_L4 xs i).length c0) ∧ (rd_L4 xs i).length ≤ c0 ∧ Kd.string.C w A0 (rd_L4 xs i).length (rd_L4 xs i) := by
  obtain ⟨ad, c, e, _, hK, hc0⟩ := Kd.C_get h ([] : List ByteArray) i h0 h1
  have hc : ∀ j u, c[j]? = some u → w.cell? (ad.add (i.toNat * 1 + j)) = some u := hc0
  obtain ⟨A0, c0, rfl, l0, g0⟩ := hK
  exact ⟨ad, A0, c0, e, by have hq := hc 0 _ rfl; rwa [Nat.mul_one, Nat.add_zero] at hq, l0, g0⟩

/-! #### struct type 23 -/
structure S23 where
  f0 : Int
  f1 : Int
  f2 : ByteArray
def z23 : S23 := ⟨(0 : Int), (0 : Int), (⟨#[]⟩ : ByteArray)⟩
def k23 : Kd S23 := Kd.iso (Kd.pair (Kd.int .i64) (Kd.pair (Kd.int .i64) Kd.string)) (fun x : S23 => (x.f0, x.f1, x.f2))
theorem k23_open {w : World} {x : S23} {cs : List Value} (h : k23.K w x cs) : cs = [.int .i64 x.f0, .int .i64 x.f1, .string x.f2] := by
  obtain ⟨_, _, rfl, rfl, ⟨_, _, rfl, rfl, rfl⟩⟩ := h
  exact rfl
theorem k23_openM {w : World} {base : Nat} {ok : Nat → Prop} {x : S23} {cs : List Value} (h : k23.M w base ok x cs) : cs = [.int .i64 x.f0, .int .i64 x.f1, .string x.f2] := by
  obtain ⟨_, _, rfl, rfl, ⟨_, _, rfl, rfl, rfl⟩⟩ := h
  exact rfl
theorem k23_mk (w : World) (x : S23)  : k23.K w x [.int .i64 x.f0, .int .i64 x.f1, .string x.f2] := ⟨[.int .i64 x.f0], [.int .i64 x.f1, .string x.f2], rfl, rfl, ⟨[.int .i64 x.f1], [.string x.f2], rfl, rfl, rfl⟩⟩
theorem k23_mkM (w : World) (base : Nat) (ok : Nat → Prop) (x : S23)  : k23.M w base ok x [.int .i64 x.f0, .int .i64 x.f1, .string x.f2] := ⟨[.int .i64 x.f0], [.int .i64 x.f1, .string x.f2], rfl, rfl, ⟨[.int .i64 x.f1], [.string x.f2], rfl, rfl, rfl⟩⟩
def rd_T23 (xs : List S23) (i : Int) : S23 := xs.getD i.toNat z23
theorem at_T23 {w : World} {A : Option Addr} {n : Nat} {xs : List S23} (h : Kd.C k23 w A n xs) (i : Int) (h0 : 0 ≤ i) (h1 : i < n) : ∃ ad , A = some ad ∧ w.cell? (ad.add (i.toNat * 3)) = some (.int .i64 (rd_T23 xs i).f0) ∧ w.cell? ⟨(ad.add (i.toNat * 3)).block, (ad.add (i.toNat * 3)).off + 1, none⟩ = some (.int .i64 (rd_T23 xs i).f1) ∧ w.cell? ⟨(ad.add (i.toNat * 3)).block, (ad.add (i.toNat * 3)).off + 2, none⟩ = some (.string (rd_T23 xs i).f2) := by
  obtain ⟨ad, c, e, _, hK, hc0⟩ := Kd.C_get h z23 i h0 h1
  have hc : ∀ j u, c[j]? = some u → w.cell? (ad.add (i.toNat * 3 + j)) = some u := hc0
  obtain rfl := k23_open hK
  exact ⟨ad, e, hc 0 _ rfl, by rw [← add_field _ _ 1 (by omega)]; exact hc 1 _ rfl, by rw [← add_field _ _ 2 (by omega)]; exact hc 2 _ rfl⟩

def rd_L6 (xs : List (List S23)) (i : Int) : (List S23) := xs.getD i.toNat ([] : List S23)
theorem at_L6 {w : World} {A : Option Addr} {n : Nat} {xs : List (List S23)} (h : Kd.C (Kd.slice 23 k23) w A n xs) (i : Int) (h0 : 0 ≤ i) (h1 : i < n) : ∃ ad A0 c0, A = some ad ∧ w.cell? (ad.add i.toNat) = some (.slice A0 (rd_L6 xs i).length c0) ∧ (rd_L6 xs i).length ≤ c0 ∧ k23.C w A0 (rd_L6 xs i).length (rd_L6 xs i) := by
  obtain ⟨ad, c, e, _, hK, hc0⟩ := Kd.C_get h ([] : List S23) i h0 h1
  have hc : ∀ j u, c[j]? = some u → w.cell? (ad.add (i.toNat * 1 + j)) = some u := hc0
  obtain ⟨A0, c0, rfl, l0, g0⟩ := hK
  exact ⟨ad, A0, c0, e, by have hq := hc 0 _ rfl; rwa [Nat.mul_one, Nat.add_zero] at hq, l0, g0⟩

/-! phrases that come often -/
theorem ifT_ {α : Type} {a b c : α} (h : (if true = true then a else b) = c) : a = c := h
theorem ifF_ {α : Type} {a b c : α} (h : (if false = true then a else b) = c) : b = c := h
theorem q0_ {p : Prop} (h : p := by repeat (first | (with_reducible first | exact HB.out | apply below_alloc | apply pw_below_drewN | apply below_drew1 | refine below_set ?_ (Aside0.out (by assumption))) | exact HB.out)) : p := h
theorem q1_ {p : Prop} (h : p := by rw [hg]; exact (below_size (by repeat (first | (with_reducible first | exact HB.out | apply below_alloc | apply pw_below_drewN | apply below_drew1 | refine below_set ?_ (Aside0.out (by assumption))) | exact HB.out)))) : p := h
theorem q2_ {p : Prop} (h : p := by (try simp only [List.map_toArray, List.map_cons, List.map_nil]); first | done | rfl | (simp only [List.length_drop, List.length_take]; rfl)) : p := h
theorem q3_ {p : Prop} (h : p := by (with_reducible repeat first | apply bN_ | apply bD_ | apply bA_); exact BK274.out) : p := h
theorem q4_ {p : Prop} (h : p := by (with_reducible repeat first | apply bN_ | apply bD_ | apply bA_); exact BK275.out) : p := h
theorem q5_ {p : Prop} (h : p := by rw [hg]; exact Nat.ne_of_lt (blk_lt (g := gb274) (o := .cells #[.int .i64 a0_0, .int .i64 a0_1, .string a0_2] 23 (0, 0)) (by (with_reducible repeat first | apply bN_ | apply bD_ | apply bA_); exact BK274.out))) : p := h
theorem q6_ {p : Prop} (h : p := by rw [hg]; exact Nat.ne_of_gt (blk_lt (g := gb274) (o := .cells #[.int .i64 a0_0, .int .i64 a0_1, .string a0_2] 23 (0, 0)) (by (with_reducible repeat first | apply bN_ | apply bD_ | apply bA_); exact BK274.out))) : p := h
theorem q7_ {p : Prop} (h : p := by (with_reducible repeat first | apply bN_ | apply bD_ | apply bA_); exact BK280.out) : p := h
theorem q8_ {p : Prop} (h : p := by rw [hg]; exact Nat.ne_of_lt (blk_lt (g := gb275) (o := .cells #[.int .i64 a1_0, .int .i64 a1_1, .string a1_2] 23 (0, 0)) (by (with_reducible repeat first | apply bN_ | apply bD_ | apply bA_); exact BK275.out))) : p := h
theorem q9_ {p : Prop} (h : p := by rw [hg]; exact Nat.ne_of_gt (blk_lt (g := gb275) (o := .cells #[.int .i64 a1_0, .int .i64 a1_1, .string a1_2] 23 (0, 0)) (by (with_reducible repeat first | apply bN_ | apply bD_ | apply bA_); exact BK275.out))) : p := h
theorem q10_ {p : Prop} (h : p := by (with_reducible repeat first | apply bN_ | apply bD_ | apply bA_); exact BK285.out) : p := h
theorem q11_ {p : Prop} (h : p := by rw [hg]; exact Nat.ne_of_lt (blk_lt (g := gb280) (o := .cells #[.int .i64 t276, .int .i64 t277, .string t278] 23 (0, 0)) (by (with_reducible repeat first | apply bN_ | apply bD_ | apply bA_); exact BK280.out))) : p := h
theorem q12_ {p : Prop} (h : p := by rw [hg]; exact Nat.ne_of_gt (blk_lt (g := gb280) (o := .cells #[.int .i64 t276, .int .i64 t277, .string t278] 23 (0, 0)) (by (with_reducible repeat first | apply bN_ | apply bD_ | apply bA_); exact BK280.out))) : p := h
theorem q13_ {p : Prop} (h : p := by first | rfl | (simp [errW_none, errW_some] <;> rfl) | (simp [*, errW_none, errW_some] <;> rfl)) : p := h
theorem q14_ {p : Prop} (h : p := by rw [hg]; exact Nat.ne_of_lt (blk_lt (g := gb285) (o := .cells #[.int .i64 t281, .int .i64 t282, .string t283] 23 (0, 0)) (by (with_reducible repeat first | apply bN_ | apply bD_ | apply bA_); exact BK285.out))) : p := h
theorem q15_ {p : Prop} (h : p := by rw [hg]; exact Nat.ne_of_gt (blk_lt (g := gb285) (o := .cells #[.int .i64 t281, .int .i64 t282, .string t283] 23 (0, 0)) (by (with_reducible repeat first | apply bN_ | apply bD_ | apply bA_); exact BK285.out))) : p := h
theorem q16_ {p : Prop} (h : p := by (with_reducible repeat first | apply bN_ | apply bD_ | apply bA_); exact BK290.out) : p := h
theorem q17_ {p : Prop} (h : p := by rw [hg]; exact Nat.ne_of_lt (blk_lt (g := gb290) (o := .cells #[.int .i64 t286, .int .i64 t287, .string t288] 23 (0, 0)) (by (with_reducible repeat first | apply bN_ | apply bD_ | apply bA_); exact BK290.out))) : p := h
theorem q18_ {p : Prop} (h : p := by rw [hg]; exact Nat.ne_of_gt (blk_lt (g := gb290) (o := .cells #[.int .i64 t286, .int .i64 t287, .string t288] 23 (0, 0)) (by (with_reducible repeat first | apply bN_ | apply bD_ | apply bA_); exact BK290.out))) : p := h
theorem q19_ {p : Prop} (h : p := by (with_reducible repeat first | apply bN_ | apply bD_ | apply bA_); exact BK295.out) : p := h
theorem q20_ {p : Prop} (h : p := by first | rfl | (simp; done) | (simp [*]; done)) : p := h
theorem q21_ {p : Prop} (h : p := by rw [hg]; exact Nat.ne_of_lt (blk_lt (g := gb295) (o := .cells #[.int .i64 t291, .int .i64 t292, .string t293] 23 (0, 0)) (by (with_reducible repeat first | apply bN_ | apply bD_ | apply bA_); exact BK295.out))) : p := h
theorem q22_ {p : Prop} (h : p := by rw [hg]; exact Nat.ne_of_gt (blk_lt (g := gb295) (o := .cells #[.int .i64 t291, .int .i64 t292, .string t293] 23 (0, 0)) (by (with_reducible repeat first | apply bN_ | apply bD_ | apply bA_); exact BK295.out))) : p := h
theorem q23_ {p : Prop} (h : p := by (with_reducible repeat first | apply bN_ | apply bD_ | apply bA_); exact BK300.out) : p := h
theorem q24_ {p : Prop} (h : p := by repeat (first | exact Drawn0.refl _ | apply Drawn0.step)) : p := h
theorem q25_ {p : Prop} (h : p := by rw [hg]; exact Nat.ne_of_lt (blk_lt (g := gb300) (o := .cells #[.int .i64 t296, .int .i64 t297, .string t298] 23 (0, 0)) (by (with_reducible repeat first | apply bN_ | apply bD_ | apply bA_); exact BK300.out))) : p := h
theorem q26_ {p : Prop} (h : p := by rw [hg]; exact Nat.ne_of_gt (blk_lt (g := gb300) (o := .cells #[.int .i64 t296, .int .i64 t297, .string t298] 23 (0, 0)) (by (with_reducible repeat first | apply bN_ | apply bD_ | apply bA_); exact BK300.out))) : p := h
theorem q27_ {p : Prop} (h : p := by (with_reducible repeat first | apply bN_ | apply bD_ | apply bA_); refine blk_put (cs := #[.int .i64 t306, .int .i64 t307, .string (⟨#[]⟩ : ByteArray)]) ?_ 2 _ rfl; (with_reducible repeat first | apply bN_ | apply bD_ | apply bA_); refine blk_put (cs := #[.int .i64 t306, .int .i64 0, .string (⟨#[]⟩ : ByteArray)]) ?_ 1 _ rfl; (with_reducible repeat first | apply bN_ | apply bD_ | apply bA_); refine blk_put (cs := #[.int .i64 0, .int .i64 0, .string (⟨#[]⟩ : ByteArray)]) ?_ 0 _ rfl; (with_reducible repeat first | apply bN_ | apply bD_ | apply bA_); exact BK310.out) : p := h
theorem q28_ {p : Prop} (h : p := by (with_reducible repeat first | apply bN_ | apply bD_ | apply bA_); refine blk_put (cs := #[.int .i64 t301, .int .i64 t302, .string (⟨#[]⟩ : ByteArray)]) ?_ 2 _ rfl; (with_reducible repeat first | apply bN_ | apply bD_ | apply bA_); refine blk_put (cs := #[.int .i64 t301, .int .i64 0, .string (⟨#[]⟩ : ByteArray)]) ?_ 1 _ rfl; (with_reducible repeat first | apply bN_ | apply bD_ | apply bA_); refine blk_put (cs := #[.int .i64 0, .int .i64 0, .string (⟨#[]⟩ : ByteArray)]) ?_ 0 _ rfl; (with_reducible repeat first | apply bN_ | apply bD_ | apply bA_); exact BK305.out) : p := h
theorem q29_ {p : Prop} (h : p := by (with_reducible repeat first | apply bN_ | apply bD_ | apply bA_); refine blk_put (cs := #[.int .i64 t296, .int .i64 t297, .string (⟨#[]⟩ : ByteArray)]) ?_ 2 _ rfl; (with_reducible repeat first | apply bN_ | apply bD_ | apply bA_); refine blk_put (cs := #[.int .i64 t296, .int .i64 0, .string (⟨#[]⟩ : ByteArray)]) ?_ 1 _ rfl; (with_reducible repeat first | apply bN_ | apply bD_ | apply bA_); refine blk_put (cs := #[.int .i64 0, .int .i64 0, .string (⟨#[]⟩ : ByteArray)]) ?_ 0 _ rfl; (with_reducible repeat first | apply bN_ | apply bD_ | apply bA_); exact BK300.out) : p := h
theorem q30_ {p : Prop} (h : p := by (with_reducible repeat first | apply bN_ | apply bD_ | apply bA_); refine blk_put (cs := #[.int .i64 t291, .int .i64 t292, .string (⟨#[]⟩ : ByteArray)]) ?_ 2 _ rfl; (with_reducible repeat first | apply bN_ | apply bD_ | apply bA_); refine blk_put (cs := #[.int .i64 t291, .int .i64 0, .string (⟨#[]⟩ : ByteArray)]) ?_ 1 _ rfl; (with_reducible repeat first | apply bN_ | apply bD_ | apply bA_); refine blk_put (cs := #[.int .i64 0, .int .i64 0, .string (⟨#[]⟩ : ByteArray)]) ?_ 0 _ rfl; (with_reducible repeat first | apply bN_ | apply bD_ | apply bA_); exact BK295.out) : p := h
theorem q31_ {p : Prop} (h : p := by (with_reducible repeat first | apply bN_ | apply bD_ | apply bA_); refine blk_put (cs := #[.int .i64 t286, .int .i64 t287, .string (⟨#[]⟩ : ByteArray)]) ?_ 2 _ rfl; (with_reducible repeat first | apply bN_ | apply bD_ | apply bA_); refine blk_put (cs := #[.int .i64 t286, .int .i64 0, .string (⟨#[]⟩ : ByteArray)]) ?_ 1 _ rfl; (with_reducible repeat first | apply bN_ | apply bD_ | apply bA_); refine blk_put (cs := #[.int .i64 0, .int .i64 0, .string (⟨#[]⟩ : ByteArray)]) ?_ 0 _ rfl; (with_reducible repeat first | apply bN_ | apply bD_ | apply bA_); exact BK290.out) : p := h
theorem q32_ {p : Prop} (h : p := by (with_reducible repeat first | apply bN_ | apply bD_ | apply bA_); refine blk_put (cs := #[.int .i64 t281, .int .i64 t282, .string (⟨#[]⟩ : ByteArray)]) ?_ 2 _ rfl; (with_reducible repeat first | apply bN_ | apply bD_ | apply bA_); refine blk_put (cs := #[.int .i64 t281, .int .i64 0, .string (⟨#[]⟩ : ByteArray)]) ?_ 1 _ rfl; (with_reducible repeat first | apply bN_ | apply bD_ | apply bA_); refine blk_put (cs := #[.int .i64 0, .int .i64 0, .string (⟨#[]⟩ : ByteArray)]) ?_ 0 _ rfl; (with_reducible repeat first | apply bN_ | apply bD_ | apply bA_); exact BK285.out) : p := h
theorem q33_ {p : Prop} (h : p := by (with_reducible repeat first | apply bN_ | apply bD_ | apply bA_); refine blk_put (cs := #[.int .i64 t276, .int .i64 t277, .string (⟨#[]⟩ : ByteArray)]) ?_ 2 _ rfl; (with_reducible repeat first | apply bN_ | apply bD_ | apply bA_); refine blk_put (cs := #[.int .i64 t276, .int .i64 0, .string (⟨#[]⟩ : ByteArray)]) ?_ 1 _ rfl; (with_reducible repeat first | apply bN_ | apply bD_ | apply bA_); refine blk_put (cs := #[.int .i64 0, .int .i64 0, .string (⟨#[]⟩ : ByteArray)]) ?_ 0 _ rfl; (with_reducible repeat first | apply bN_ | apply bD_ | apply bA_); exact BK280.out) : p := h
theorem q34_ {p : Prop} (h : p := by (with_reducible repeat first | apply bN_ | apply bD_ | apply bA_); exact BK216.out) : p := h
theorem q35_ {p : Prop} (h : p := by (with_reducible repeat first | apply bN_ | apply bD_ | apply bA_); exact BK305.out) : p := h
theorem q36_ {p : Prop} (h : p := by first | exact HG.out | (refine Glob.below HG.out ?_; (repeat (first | (with_reducible first | exact HB.out | apply below_alloc | apply pw_below_drewN | apply below_drew1 | refine below_set ?_ GE154.out | refine below_set ?_ GE155.out) | exact HB.out))) | (repeat (first | exact HG.out | apply Glob.drewN | apply Glob.drew | apply Glob.alloc))) : p := h
theorem q37_ {p : Prop} (h : p := by (with_reducible repeat first | apply bN_ | apply bD_ | apply bA_); refine blk_put (cs := #[.int .i64 t222, .int .i64 t223, .string (⟨#[]⟩ : ByteArray)]) ?_ 2 _ rfl; (with_reducible repeat first | apply bN_ | apply bD_ | apply bA_); refine blk_put (cs := #[.int .i64 t222, .int .i64 0, .string (⟨#[]⟩ : ByteArray)]) ?_ 1 _ rfl; (with_reducible repeat first | apply bN_ | apply bD_ | apply bA_); refine blk_put (cs := #[.int .i64 0, .int .i64 0, .string (⟨#[]⟩ : ByteArray)]) ?_ 0 _ rfl; (with_reducible repeat first | apply bN_ | apply bD_ | apply bA_); exact BK226.out) : p := h
theorem q38_ {p : Prop} (h : p := by (with_reducible repeat first | apply bN_ | apply bD_ | apply bA_); refine blk_put (cs := #[.int .i64 t217, .int .i64 t218, .string (⟨#[]⟩ : ByteArray)]) ?_ 2 _ rfl; (with_reducible repeat first | apply bN_ | apply bD_ | apply bA_); refine blk_put (cs := #[.int .i64 t217, .int .i64 0, .string (⟨#[]⟩ : ByteArray)]) ?_ 1 _ rfl; (with_reducible repeat first | apply bN_ | apply bD_ | apply bA_); refine blk_put (cs := #[.int .i64 0, .int .i64 0, .string (⟨#[]⟩ : ByteArray)]) ?_ 0 _ rfl; (with_reducible repeat first | apply bN_ | apply bD_ | apply bA_); exact BK221.out) : p := h
theorem q39_ {p : Prop} (h : p := by (with_reducible repeat first | apply bN_ | apply bD_ | apply bA_); refine blk_put (cs := #[.int .i64 0, .int .i64 0, .string (⟨#[]⟩ : ByteArray)]) ?_ 2 _ rfl; (with_reducible repeat first | apply bN_ | apply bD_ | apply bA_); refine blk_put (cs := #[.int .i64 0, .int .i64 0, .string (⟨#[]⟩ : ByteArray)]) ?_ 1 _ rfl; (with_reducible repeat first | apply bN_ | apply bD_ | apply bA_); refine blk_put (cs := #[.int .i64 0, .int .i64 0, .string (⟨#[]⟩ : ByteArray)]) ?_ 0 _ rfl; (with_reducible repeat first | apply bN_ | apply bD_ | apply bA_); exact BK263.out) : p := h
theorem q40_ {p : Prop} (h : p := by rw [hg]; exact Nat.ne_of_lt (blk_lt (g := gb305) (o := .cells #[.int .i64 t301, .int .i64 t302, .string t303] 23 (0, 0)) (by (with_reducible repeat first | apply bN_ | apply bD_ | apply bA_); exact BK305.out))) : p := h
theorem q41_ {p : Prop} (h : p := by rw [hg]; exact Nat.ne_of_gt (blk_lt (g := gb305) (o := .cells #[.int .i64 t301, .int .i64 t302, .string t303] 23 (0, 0)) (by (with_reducible repeat first | apply bN_ | apply bD_ | apply bA_); exact BK305.out))) : p := h
theorem q42_ {p : Prop} (h : p := by first | exact HG.out | (refine Glob.below HG.out ?_; (repeat (first | (with_reducible first | exact HB.out | apply below_alloc | apply pw_below_drewN | apply below_drew1 | refine below_set ?_ GE274.out | refine below_set ?_ GE275.out | refine below_set ?_ GE280.out | refine below_set ?_ GE285.out | refine below_set ?_ GE290.out) | exact HB.out))) | (repeat (first | exact HG.out | apply Glob.drewN | apply Glob.drew | apply Glob.alloc))) : p := h
theorem q43_ {p : Prop} (h : p := by first | exact HG.out | (refine Glob.below HG.out ?_; (repeat (first | (with_reducible first | exact HB.out | apply below_alloc | apply pw_below_drewN | apply below_drew1 | refine below_set ?_ GE216.out | refine below_set ?_ GE221.out | refine below_set ?_ GE226.out) | exact HB.out))) | (repeat (first | exact HG.out | apply Glob.drewN | apply Glob.drew | apply Glob.alloc))) : p := h
theorem q44_ {p : Prop} (h : p := by first | exact HG.out | (refine Glob.below HG.out ?_; (repeat (first | (with_reducible first | exact HB.out | apply below_alloc | apply pw_below_drewN | apply below_drew1 | refine below_set ?_ GE274.out | refine below_set ?_ GE275.out | refine below_set ?_ GE280.out | refine below_set ?_ GE285.out) | exact HB.out))) | (repeat (first | exact HG.out | apply Glob.drewN | apply Glob.drew | apply Glob.alloc))) : p := h
theorem q45_ {p : Prop} (h : p := by rw [hg]; exact Nat.ne_of_lt (blk_lt (g := gb216) (o := .cells #[.int .i64 a0_0, .int .i64 a0_1, .string a0_2] 23 (0, 0)) (by (with_reducible repeat first | apply bN_ | apply bD_ | apply bA_); exact BK216.out))) : p := h
theorem q46_ {p : Prop} (h : p := by rw [hg]; exact Nat.ne_of_gt (blk_lt (g := gb216) (o := .cells #[.int .i64 a0_0, .int .i64 a0_1, .string a0_2] 23 (0, 0)) (by (with_reducible repeat first | apply bN_ | apply bD_ | apply bA_); exact BK216.out))) : p := h
theorem q47_ {p : Prop} (h : p := by first | (with_reducible assumption) | assumption) : p := h
theorem q48_ {p : Prop} (h : p := by (with_reducible repeat first | apply bN_ | apply bD_ | apply bA_); refine blk_far ?_ NB305_310.out _; (with_reducible repeat first | apply bN_ | apply bD_ | apply bA_); refine blk_far ?_ NB305_310.out _; (with_reducible repeat first | apply bN_ | apply bD_ | apply bA_); refine blk_far ?_ NB305_310.out _; (with_reducible repeat first | apply bN_ | apply bD_ | apply bA_); exact BK305.out) : p := h
theorem q49_ {p : Prop} (h : p := by (with_reducible repeat first | apply bN_ | apply bD_ | apply bA_); refine blk_far ?_ NB300_310.out _; (with_reducible repeat first | apply bN_ | apply bD_ | apply bA_); refine blk_far ?_ NB300_310.out _; (with_reducible repeat first | apply bN_ | apply bD_ | apply bA_); refine blk_far ?_ NB300_310.out _; (with_reducible repeat first | apply bN_ | apply bD_ | apply bA_); exact BK300.out) : p := h
theorem q50_ {p : Prop} (h : p := by (with_reducible repeat first | apply bN_ | apply bD_ | apply bA_); refine blk_far ?_ NB300_305.out _; (with_reducible repeat first | apply bN_ | apply bD_ | apply bA_); refine blk_far ?_ NB300_305.out _; (with_reducible repeat first | apply bN_ | apply bD_ | apply bA_); refine blk_far ?_ NB300_305.out _; (with_reducible repeat first | apply bN_ | apply bD_ | apply bA_); exact BK300.out) : p := h
theorem q51_ {p : Prop} (h : p := by (with_reducible repeat first | apply bN_ | apply bD_ | apply bA_); refine blk_far ?_ NB295_310.out _; (with_reducible repeat first | apply bN_ | apply bD_ | apply bA_); refine blk_far ?_ NB295_310.out _; (with_reducible repeat first | apply bN_ | apply bD_ | apply bA_); refine blk_far ?_ NB295_310.out _; (with_reducible repeat first | apply bN_ | apply bD_ | apply bA_); exact BK295.out) : p := h
theorem q52_ {p : Prop} (h : p := by (with_reducible repeat first | apply bN_ | apply bD_ | apply bA_); refine blk_far ?_ NB295_305.out _; (with_reducible repeat first | apply bN_ | apply bD_ | apply bA_); refine blk_far ?_ NB295_305.out _; (with_reducible repeat first | apply bN_ | apply bD_ | apply bA_); refine blk_far ?_ NB295_305.out _; (with_reducible repeat first | apply bN_ | apply bD_ | apply bA_); exact BK295.out) : p := h
theorem q53_ {p : Prop} (h : p := by (with_reducible repeat first | apply bN_ | apply bD_ | apply bA_); refine blk_far ?_ NB295_300.out _; (with_reducible repeat first | apply bN_ | apply bD_ | apply bA_); refine blk_far ?_ NB295_300.out _; (with_reducible repeat first | apply bN_ | apply bD_ | apply bA_); refine blk_far ?_ NB295_300.out _; (with_reducible repeat first | apply bN_ | apply bD_ | apply bA_); exact BK295.out) : p := h
theorem q54_ {p : Prop} (h : p := by (with_reducible repeat first | apply bN_ | apply bD_ | apply bA_); refine blk_far ?_ NB290_310.out _; (with_reducible repeat first | apply bN_ | apply bD_ | apply bA_); refine blk_far ?_ NB290_310.out _; (with_reducible repeat first | apply bN_ | apply bD_ | apply bA_); refine blk_far ?_ NB290_310.out _; (with_reducible repeat first | apply bN_ | apply bD_ | apply bA_); exact BK290.out) : p := h
theorem q55_ {p : Prop} (h : p := by (with_reducible repeat first | apply bN_ | apply bD_ | apply bA_); refine blk_far ?_ NB290_305.out _; (with_reducible repeat first | apply bN_ | apply bD_ | apply bA_); refine blk_far ?_ NB290_305.out _; (with_reducible repeat first | apply bN_ | apply bD_ | apply bA_); refine blk_far ?_ NB290_305.out _; (with_reducible repeat first | apply bN_ | apply bD_ | apply bA_); exact BK290.out) : p := h
theorem q56_ {p : Prop} (h : p := by (with_reducible repeat first | apply bN_ | apply bD_ | apply bA_); refine blk_far ?_ NB290_300.out _; (with_reducible repeat first | apply bN_ | apply bD_ | apply bA_); refine blk_far ?_ NB290_300.out _; (with_reducible repeat first | apply bN_ | apply bD_ | apply bA_); refine blk_far ?_ NB290_300.out _; (with_reducible repeat first | apply bN_ | apply bD_ | apply bA_); exact BK290.out) : p := h
theorem q57_ {p : Prop} (h : p := by (with_reducible repeat first | apply bN_ | apply bD_ | apply bA_); refine blk_far ?_ NB290_295.out _; (with_reducible repeat first | apply bN_ | apply bD_ | apply bA_); refine blk_far ?_ NB290_295.out _; (with_reducible repeat first | apply bN_ | apply bD_ | apply bA_); refine blk_far ?_ NB290_295.out _; (with_reducible repeat first | apply bN_ | apply bD_ | apply bA_); exact BK290.out) : p := h
theorem q58_ {p : Prop} (h : p := by (with_reducible repeat first | apply bN_ | apply bD_ | apply bA_); refine blk_far ?_ NB285_310.out _; (with_reducible repeat first | apply bN_ | apply bD_ | apply bA_); refine blk_far ?_ NB285_310.out _; (with_reducible repeat first | apply bN_ | apply bD_ | apply bA_); refine blk_far ?_ NB285_310.out _; (with_reducible repeat first | apply bN_ | apply bD_ | apply bA_); exact BK285.out) : p := h
theorem q59_ {p : Prop} (h : p := by (with_reducible repeat first | apply bN_ | apply bD_ | apply bA_); refine blk_far ?_ NB285_305.out _; (with_reducible repeat first | apply bN_ | apply bD_ | apply bA_); refine blk_far ?_ NB285_305.out _; (with_reducible repeat first | apply bN_ | apply bD_ | apply bA_); refine blk_far ?_ NB285_305.out _; (with_reducible repeat first | apply bN_ | apply bD_ | apply bA_); exact BK285.out) : p := h
theorem q60_ {p : Prop} (h : p := by (with_reducible repeat first | apply bN_ | apply bD_ | apply bA_); refine blk_far ?_ NB285_300.out _; (with_reducible repeat first | apply bN_ | apply bD_ | apply bA_); refine blk_far ?_ NB285_300.out _; (with_reducible repeat first | apply bN_ | apply bD_ | apply bA_); refine blk_far ?_ NB285_300.out _; (with_reducible repeat first | apply bN_ | apply bD_ | apply bA_); exact BK285.out) : p := h
theorem q61_ {p : Prop} (h : p := by (with_reducible repeat first | apply bN_ | apply bD_ | apply bA_); refine blk_far ?_ NB285_295.out _; (with_reducible repeat first | apply bN_ | apply bD_ | apply bA_); refine blk_far ?_ NB285_295.out _; (with_reducible repeat first | apply bN_ | apply bD_ | apply bA_); refine blk_far ?_ NB285_295.out _; (with_reducible repeat first | apply bN_ | apply bD_ | apply bA_); exact BK285.out) : p := h
theorem q62_ {p : Prop} (h : p := by (with_reducible repeat first | apply bN_ | apply bD_ | apply bA_); refine blk_far ?_ NB285_290.out _; (with_reducible repeat first | apply bN_ | apply bD_ | apply bA_); refine blk_far ?_ NB285_290.out _; (with_reducible repeat first | apply bN_ | apply bD_ | apply bA_); refine blk_far ?_ NB285_290.out _; (with_reducible repeat first | apply bN_ | apply bD_ | apply bA_); exact BK285.out) : p := h
theorem q63_ {p : Prop} (h : p := by (with_reducible repeat first | apply bN_ | apply bD_ | apply bA_); refine blk_far ?_ NB280_310.out _; (with_reducible repeat first | apply bN_ | apply bD_ | apply bA_); refine blk_far ?_ NB280_310.out _; (with_reducible repeat first | apply bN_ | apply bD_ | apply bA_); refine blk_far ?_ NB280_310.out _; (with_reducible repeat first | apply bN_ | apply bD_ | apply bA_); exact BK280.out) : p := h
theorem q64_ {p : Prop} (h : p := by (with_reducible repeat first | apply bN_ | apply bD_ | apply bA_); refine blk_far ?_ NB280_305.out _; (with_reducible repeat first | apply bN_ | apply bD_ | apply bA_); refine blk_far ?_ NB280_305.out _; (with_reducible repeat first | apply bN_ | apply bD_ | apply bA_); refine blk_far ?_ NB280_305.out _; (with_reducible repeat first | apply bN_ | apply bD_ | apply bA_); exact BK280.out) : p := h
theorem q65_ {p : Prop} (h : p := by (with_reducible repeat first | apply bN_ | apply bD_ | apply bA_); refine blk_far ?_ NB280_300.out _; (with_reducible repeat first | apply bN_ | apply bD_ | apply bA_); refine blk_far ?_ NB280_300.out _; (with_reducible repeat first | apply bN_ | apply bD_ | apply bA_); refine blk_far ?_ NB280_300.out _; (with_reducible repeat first | apply bN_ | apply bD_ | apply bA_); exact BK280.out) : p := h
theorem q66_ {p : Prop} (h : p := by (with_reducible repeat first | apply bN_ | apply bD_ | apply bA_); refine blk_far ?_ NB280_295.out _; (with_reducible repeat first | apply bN_ | apply bD_ | apply bA_); refine blk_far ?_ NB280_295.out _; (with_reducible repeat first | apply bN_ | apply bD_ | apply bA_); refine blk_far ?_ NB280_295.out _; (with_reducible repeat first | apply bN_ | apply bD_ | apply bA_); exact BK280.out) : p := h
theorem q67_ {p : Prop} (h : p := by (with_reducible repeat first | apply bN_ | apply bD_ | apply bA_); refine blk_far ?_ NB280_290.out _; (with_reducible repeat first | apply bN_ | apply bD_ | apply bA_); refine blk_far ?_ NB280_290.out _; (with_reducible repeat first | apply bN_ | apply bD_ | apply bA_); refine blk_far ?_ NB280_290.out _; (with_reducible repeat first | apply bN_ | apply bD_ | apply bA_); exact BK280.out) : p := h
theorem q68_ {p : Prop} (h : p := by (with_reducible repeat first | apply bN_ | apply bD_ | apply bA_); refine blk_far ?_ NB280_285.out _; (with_reducible repeat first | apply bN_ | apply bD_ | apply bA_); refine blk_far ?_ NB280_285.out _; (with_reducible repeat first | apply bN_ | apply bD_ | apply bA_); refine blk_far ?_ NB280_285.out _; (with_reducible repeat first | apply bN_ | apply bD_ | apply bA_); exact BK280.out) : p := h
theorem q69_ {p : Prop} (h : p := by (with_reducible repeat first | apply bN_ | apply bD_ | apply bA_); refine blk_far ?_ NB275_310.out _; (with_reducible repeat first | apply bN_ | apply bD_ | apply bA_); refine blk_far ?_ NB275_310.out _; (with_reducible repeat first | apply bN_ | apply bD_ | apply bA_); refine blk_far ?_ NB275_310.out _; (with_reducible repeat first | apply bN_ | apply bD_ | apply bA_); exact BK275.out) : p := h
theorem q70_ {p : Prop} (h : p := by (with_reducible repeat first | apply bN_ | apply bD_ | apply bA_); refine blk_far ?_ NB275_305.out _; (with_reducible repeat first | apply bN_ | apply bD_ | apply bA_); refine blk_far ?_ NB275_305.out _; (with_reducible repeat first | apply bN_ | apply bD_ | apply bA_); refine blk_far ?_ NB275_305.out _; (with_reducible repeat first | apply bN_ | apply bD_ | apply bA_); exact BK275.out) : p := h
theorem q71_ {p : Prop} (h : p := by (with_reducible repeat first | apply bN_ | apply bD_ | apply bA_); refine blk_far ?_ NB275_300.out _; (with_reducible repeat first | apply bN_ | apply bD_ | apply bA_); refine blk_far ?_ NB275_300.out _; (with_reducible repeat first | apply bN_ | apply bD_ | apply bA_); refine blk_far ?_ NB275_300.out _; (with_reducible repeat first | apply bN_ | apply bD_ | apply bA_); exact BK275.out) : p := h
theorem q72_ {p : Prop} (h : p := by (with_reducible repeat first | apply bN_ | apply bD_ | apply bA_); refine blk_far ?_ NB275_295.out _; (with_reducible repeat first | apply bN_ | apply bD_ | apply bA_); refine blk_far ?_ NB275_295.out _; (with_reducible repeat first | apply bN_ | apply bD_ | apply bA_); refine blk_far ?_ NB275_295.out _; (with_reducible repeat first | apply bN_ | apply bD_ | apply bA_); exact BK275.out) : p := h
theorem q73_ {p : Prop} (h : p := by (with_reducible repeat first | apply bN_ | apply bD_ | apply bA_); refine blk_far ?_ NB275_290.out _; (with_reducible repeat first | apply bN_ | apply bD_ | apply bA_); refine blk_far ?_ NB275_290.out _; (with_reducible repeat first | apply bN_ | apply bD_ | apply bA_); refine blk_far ?_ NB275_290.out _; (with_reducible repeat first | apply bN_ | apply bD_ | apply bA_); exact BK275.out) : p := h
theorem q74_ {p : Prop} (h : p := by (with_reducible repeat first | apply bN_ | apply bD_ | apply bA_); refine blk_far ?_ NB275_285.out _; (with_reducible repeat first | apply bN_ | apply bD_ | apply bA_); refine blk_far ?_ NB275_285.out _; (with_reducible repeat first | apply bN_ | apply bD_ | apply bA_); refine blk_far ?_ NB275_285.out _; (with_reducible repeat first | apply bN_ | apply bD_ | apply bA_); exact BK275.out) : p := h
theorem q75_ {p : Prop} (h : p := by (with_reducible repeat first | apply bN_ | apply bD_ | apply bA_); refine blk_far ?_ NB275_280.out _; (with_reducible repeat first | apply bN_ | apply bD_ | apply bA_); refine blk_far ?_ NB275_280.out _; (with_reducible repeat first | apply bN_ | apply bD_ | apply bA_); refine blk_far ?_ NB275_280.out _; (with_reducible repeat first | apply bN_ | apply bD_ | apply bA_); exact BK275.out) : p := h
theorem q76_ {p : Prop} (h : p := by (with_reducible repeat first | apply bN_ | apply bD_ | apply bA_); refine blk_far ?_ NB274_310.out _; (with_reducible repeat first | apply bN_ | apply bD_ | apply bA_); refine blk_far ?_ NB274_310.out _; (with_reducible repeat first | apply bN_ | apply bD_ | apply bA_); refine blk_far ?_ NB274_310.out _; (with_reducible repeat first | apply bN_ | apply bD_ | apply bA_); exact BK274.out) : p := h
theorem q77_ {p : Prop} (h : p := by (with_reducible repeat first | apply bN_ | apply bD_ | apply bA_); refine blk_far ?_ NB274_305.out _; (with_reducible repeat first | apply bN_ | apply bD_ | apply bA_); refine blk_far ?_ NB274_305.out _; (with_reducible repeat first | apply bN_ | apply bD_ | apply bA_); refine blk_far ?_ NB274_305.out _; (with_reducible repeat first | apply bN_ | apply bD_ | apply bA_); exact BK274.out) : p := h
theorem q78_ {p : Prop} (h : p := by (with_reducible repeat first | apply bN_ | apply bD_ | apply bA_); refine blk_far ?_ NB274_300.out _; (with_reducible repeat first | apply bN_ | apply bD_ | apply bA_); refine blk_far ?_ NB274_300.out _; (with_reducible repeat first | apply bN_ | apply bD_ | apply bA_); refine blk_far ?_ NB274_300.out _; (with_reducible repeat first | apply bN_ | apply bD_ | apply bA_); exact BK274.out) : p := h
theorem q79_ {p : Prop} (h : p := by (with_reducible repeat first | apply bN_ | apply bD_ | apply bA_); refine blk_far ?_ NB274_295.out _; (with_reducible repeat first | apply bN_ | apply bD_ | apply bA_); refine blk_far ?_ NB274_295.out _; (with_reducible repeat first | apply bN_ | apply bD_ | apply bA_); refine blk_far ?_ NB274_295.out _; (with_reducible repeat first | apply bN_ | apply bD_ | apply bA_); exact BK274.out) : p := h
theorem q80_ {p : Prop} (h : p := by (with_reducible repeat first | apply bN_ | apply bD_ | apply bA_); refine blk_far ?_ NB274_290.out _; (with_reducible repeat first | apply bN_ | apply bD_ | apply bA_); refine blk_far ?_ NB274_290.out _; (with_reducible repeat first | apply bN_ | apply bD_ | apply bA_); refine blk_far ?_ NB274_290.out _; (with_reducible repeat first | apply bN_ | apply bD_ | apply bA_); exact BK274.out) : p := h
theorem q81_ {p : Prop} (h : p := by (with_reducible repeat first | apply bN_ | apply bD_ | apply bA_); refine blk_far ?_ NB274_285.out _; (with_reducible repeat first | apply bN_ | apply bD_ | apply bA_); refine blk_far ?_ NB274_285.out _; (with_reducible repeat first | apply bN_ | apply bD_ | apply bA_); refine blk_far ?_ NB274_285.out _; (with_reducible repeat first | apply bN_ | apply bD_ | apply bA_); exact BK274.out) : p := h
theorem q82_ {p : Prop} (h : p := by (with_reducible repeat first | apply bN_ | apply bD_ | apply bA_); refine blk_far ?_ NB274_280.out _; (with_reducible repeat first | apply bN_ | apply bD_ | apply bA_); refine blk_far ?_ NB274_280.out _; (with_reducible repeat first | apply bN_ | apply bD_ | apply bA_); refine blk_far ?_ NB274_280.out _; (with_reducible repeat first | apply bN_ | apply bD_ | apply bA_); exact BK274.out) : p := h
theorem q83_ {p : Prop} (h : p := by first | exact HG.out | (refine Glob.below HG.out ?_; (repeat (first | (with_reducible first | exact HB.out | apply below_alloc | apply pw_below_drewN | apply below_drew1 | refine below_set ?_ GE274.out | refine below_set ?_ GE275.out | refine below_set ?_ GE280.out) | exact HB.out))) | (repeat (first | exact HG.out | apply Glob.drewN | apply Glob.drew | apply Glob.alloc))) : p := h
theorem q84_ {p : Prop} (h : p := by first | exact HG.out | (refine Glob.below HG.out ?_; (repeat (first | (with_reducible first | exact HB.out | apply below_alloc | apply pw_below_drewN | apply below_drew1 | refine below_set ?_ GE274.out | refine below_set ?_ GE275.out) | exact HB.out))) | (repeat (first | exact HG.out | apply Glob.drewN | apply Glob.drew | apply Glob.alloc))) : p := h
theorem q85_ {p : Prop} (h : p := by (with_reducible repeat first | apply bN_ | apply bD_ | apply bA_); refine blk_far ?_ NB221_226.out _; (with_reducible repeat first | apply bN_ | apply bD_ | apply bA_); refine blk_far ?_ NB221_226.out _; (with_reducible repeat first | apply bN_ | apply bD_ | apply bA_); refine blk_far ?_ NB221_226.out _; (with_reducible repeat first | apply bN_ | apply bD_ | apply bA_); exact BK221.out) : p := h
theorem q86_ {p : Prop} (h : p := by (with_reducible repeat first | apply bN_ | apply bD_ | apply bA_); refine blk_far ?_ NB216_226.out _; (with_reducible repeat first | apply bN_ | apply bD_ | apply bA_); refine blk_far ?_ NB216_226.out _; (with_reducible repeat first | apply bN_ | apply bD_ | apply bA_); refine blk_far ?_ NB216_226.out _; (with_reducible repeat first | apply bN_ | apply bD_ | apply bA_); exact BK216.out) : p := h
theorem q87_ {p : Prop} (h : p := by (with_reducible repeat first | apply bN_ | apply bD_ | apply bA_); refine blk_far ?_ NB216_221.out _; (with_reducible repeat first | apply bN_ | apply bD_ | apply bA_); refine blk_far ?_ NB216_221.out _; (with_reducible repeat first | apply bN_ | apply bD_ | apply bA_); refine blk_far ?_ NB216_221.out _; (with_reducible repeat first | apply bN_ | apply bD_ | apply bA_); exact BK216.out) : p := h
theorem q88_ {p : Prop} (h : p := by (with_reducible repeat first | apply bN_ | apply bD_ | apply bA_); exact BK261.out) : p := h
theorem q89_ {p : Prop} (h : p := by (with_reducible repeat first | apply bN_ | apply bD_ | apply bA_); exact BK317.out) : p := h
theorem q90_ {p : Prop} (h : p := by (with_reducible repeat first | apply bN_ | apply bD_ | apply bA_); exact BK230.out) : p := h
theorem q91_ {p : Prop} (h : p := by first | exact HG.out | (refine Glob.below HG.out ?_; (repeat (first | (with_reducible first | exact HB.out | apply below_alloc | apply pw_below_drewN | apply below_drew1 | refine below_set ?_ GE333.out | refine below_set ?_ GE334.out) | exact HB.out))) | (repeat (first | exact HG.out | apply Glob.drewN | apply Glob.drew | apply Glob.alloc))) : p := h
theorem q92_ {p : Prop} (h : p := by first | exact HG.out | (refine Glob.below HG.out ?_; (repeat (first | (with_reducible first | exact HB.out | apply below_alloc | apply pw_below_drewN | apply below_drew1 | refine below_set ?_ GE216.out | refine below_set ?_ GE221.out) | exact HB.out))) | (repeat (first | exact HG.out | apply Glob.drewN | apply Glob.drew | apply Glob.alloc))) : p := h
theorem q93_ {p : Prop} (h : p := by (with_reducible repeat first | apply bN_ | apply bD_ | apply bA_); exact BK182.out) : p := h
theorem q94_ {p : Prop} (h : p := by (with_reducible repeat first | apply bN_ | apply bD_ | apply bA_); exact BK231.out) : p := h
theorem q95_ {p : Prop} (h : p := by first | exact HG.out | (refine Glob.below HG.out ?_; (repeat (first | (with_reducible first | exact HB.out | apply below_alloc | apply pw_below_drewN | apply below_drew1 | refine below_set ?_ GE216.out) | exact HB.out))) | (repeat (first | exact HG.out | apply Glob.drewN | apply Glob.drew | apply Glob.alloc))) : p := h
theorem q96_ {p : Prop} (h : p := by first | exact HG.out | (refine Glob.below HG.out ?_; (repeat (first | (with_reducible first | exact HB.out | apply below_alloc | apply pw_below_drewN | apply below_drew1 | refine below_set ?_ GE125.out) | exact HB.out))) | (repeat (first | exact HG.out | apply Glob.drewN | apply Glob.drew | apply Glob.alloc))) : p := h
theorem q97_ {p : Prop} (h : p := by (with_reducible repeat first | apply bN_ | apply bD_ | apply bA_); exact BK333.out) : p := h
theorem q98_ {p : Prop} (h : p := by (with_reducible repeat first | apply bN_ | apply bD_ | apply bA_); exact BK310.out) : p := h
theorem q99_ {p : Prop} (h : p := by (with_reducible repeat first | apply bN_ | apply bD_ | apply bA_); exact BK221.out) : p := h
theorem q100_ {p : Prop} (h : p := by (with_reducible repeat first | apply bN_ | apply bD_ | apply bA_); exact BK334.out) : p := h
theorem q101_ {p : Prop} (h : p := by (with_reducible repeat first | apply bN_ | apply bD_ | apply bA_); exact BK262.out) : p := h
theorem q102_ {p : Prop} (h : p := by (with_reducible repeat first | apply bN_ | apply bD_ | apply bA_); exact BK236.out) : p := h
theorem q103_ {p : Prop} (h : p := by first | exact HG.out | (refine Glob.below HG.out ?_; (repeat (first | (with_reducible first | exact HB.out | apply below_alloc | apply pw_below_drewN | apply below_drew1 | refine below_set ?_ GE379.out) | exact HB.out))) | (repeat (first | exact HG.out | apply Glob.drewN | apply Glob.drew | apply Glob.alloc))) : p := h
theorem q104_ {p : Prop} (h : p := by (with_reducible repeat first | apply bN_ | apply bD_ | apply bA_); exact BK163.out) : p := h
theorem q105_ {p : Prop} (h : p := by (with_reducible repeat first | apply bN_ | apply bD_ | apply bA_); exact BK135.out) : p := h
theorem q106_ {p : Prop} (h : p := by (with_reducible repeat first | apply bN_ | apply bD_ | apply bA_); refine blk_put (cs := #[.int .i64 t247, .int .i64 t248, .string (⟨#[]⟩ : ByteArray)]) ?_ 2 _ rfl; (with_reducible repeat first | apply bN_ | apply bD_ | apply bA_); refine blk_put (cs := #[.int .i64 t247, .int .i64 0, .string (⟨#[]⟩ : ByteArray)]) ?_ 1 _ rfl; (with_reducible repeat first | apply bN_ | apply bD_ | apply bA_); refine blk_put (cs := #[.int .i64 0, .int .i64 0, .string (⟨#[]⟩ : ByteArray)]) ?_ 0 _ rfl; (with_reducible repeat first | apply bN_ | apply bD_ | apply bA_); exact BK251.out) : p := h
theorem q107_ {p : Prop} (h : p := by (with_reducible repeat first | apply bN_ | apply bD_ | apply bA_); refine blk_put (cs := #[.int .i64 t183, .int .i64 t184, .string (⟨#[]⟩ : ByteArray)]) ?_ 2 _ rfl; (with_reducible repeat first | apply bN_ | apply bD_ | apply bA_); refine blk_put (cs := #[.int .i64 t183, .int .i64 0, .string (⟨#[]⟩ : ByteArray)]) ?_ 1 _ rfl; (with_reducible repeat first | apply bN_ | apply bD_ | apply bA_); refine blk_put (cs := #[.int .i64 0, .int .i64 0, .string (⟨#[]⟩ : ByteArray)]) ?_ 0 _ rfl; (with_reducible repeat first | apply bN_ | apply bD_ | apply bA_); exact BK187.out) : p := h
theorem q108_ {p : Prop} (h : p := by (with_reducible repeat first | apply bN_ | apply bD_ | apply bA_); exact BK195.out) : p := h
theorem q109_ {p : Prop} (h : p := by rw [hg]; exact Nat.ne_of_lt (blk_lt (g := gb317) (o := .cells #[.int .i64 a0_0, .int .i64 a0_1, .string a0_2] 23 (0, 0)) (by (with_reducible repeat first | apply bN_ | apply bD_ | apply bA_); exact BK317.out))) : p := h
theorem q110_ {p : Prop} (h : p := by rw [hg]; exact Nat.ne_of_lt (blk_lt (g := gb310) (o := .cells #[.int .i64 t306, .int .i64 t307, .string t308] 23 (0, 0)) (by (with_reducible repeat first | apply bN_ | apply bD_ | apply bA_); exact BK310.out))) : p := h
theorem q111_ {p : Prop} (h : p := by rw [hg]; exact Nat.ne_of_gt (blk_lt (g := gb317) (o := .cells #[.int .i64 a0_0, .int .i64 a0_1, .string a0_2] 23 (0, 0)) (by (with_reducible repeat first | apply bN_ | apply bD_ | apply bA_); exact BK317.out))) : p := h
theorem q112_ {p : Prop} (h : p := by rw [hg]; exact Nat.ne_of_gt (blk_lt (g := gb310) (o := .cells #[.int .i64 t306, .int .i64 t307, .string t308] 23 (0, 0)) (by (with_reducible repeat first | apply bN_ | apply bD_ | apply bA_); exact BK310.out))) : p := h
theorem q113_ {p : Prop} (h : p := by first | exact HG.out | (refine Glob.below HG.out ?_; (repeat (first | (with_reducible first | exact HB.out | apply below_alloc | apply pw_below_drewN | apply below_drew1) | exact HB.out))) | (repeat (first | exact HG.out | apply Glob.drewN | apply Glob.drew | apply Glob.alloc))) : p := h
theorem q114_ {p : Prop} (h : p := by (with_reducible repeat first | apply bN_ | apply bD_ | apply bA_); exact BK241.out) : p := h
theorem q115_ {p : Prop} (h : p := by rw [hg]; exact Nat.ne_of_lt (blk_lt (g := gb230) (o := .cells #[.int .i64 a0_0, .int .i64 a0_1, .string a0_2] 23 (0, 0)) (by (with_reducible repeat first | apply bN_ | apply bD_ | apply bA_); exact BK230.out))) : p := h
theorem q116_ {p : Prop} (h : p := by rw [hg]; exact Nat.ne_of_lt (blk_lt (g := gb221) (o := .cells #[.int .i64 t217, .int .i64 t218, .string t219] 23 (0, 0)) (by (with_reducible repeat first | apply bN_ | apply bD_ | apply bA_); exact BK221.out))) : p := h
theorem q117_ {p : Prop} (h : p := by rw [hg]; exact Nat.ne_of_lt (blk_lt (g := gb182) (o := .cells #[.int .i64 a0_0, .int .i64 a0_1, .string a0_2] 23 (0, 0)) (by (with_reducible repeat first | apply bN_ | apply bD_ | apply bA_); exact BK182.out))) : p := h
theorem q118_ {p : Prop} (h : p := by rw [hg]; exact Nat.ne_of_gt (blk_lt (g := gb230) (o := .cells #[.int .i64 a0_0, .int .i64 a0_1, .string a0_2] 23 (0, 0)) (by (with_reducible repeat first | apply bN_ | apply bD_ | apply bA_); exact BK230.out))) : p := h
theorem q119_ {p : Prop} (h : p := by rw [hg]; exact Nat.ne_of_gt (blk_lt (g := gb221) (o := .cells #[.int .i64 t217, .int .i64 t218, .string t219] 23 (0, 0)) (by (with_reducible repeat first | apply bN_ | apply bD_ | apply bA_); exact BK221.out))) : p := h
theorem q120_ {p : Prop} (h : p := by rw [hg]; exact Nat.ne_of_gt (blk_lt (g := gb182) (o := .cells #[.int .i64 a0_0, .int .i64 a0_1, .string a0_2] 23 (0, 0)) (by (with_reducible repeat first | apply bN_ | apply bD_ | apply bA_); exact BK182.out))) : p := h
theorem q121_ {p : Prop} (h : p := by first | exact HG.out | (refine Glob.below HG.out ?_; (repeat (first | (with_reducible first | exact HB.out | apply below_alloc | apply pw_below_drewN | apply below_drew1 | refine below_set ?_ GE230.out | refine below_set ?_ GE231.out | refine below_set ?_ GE236.out | refine below_set ?_ GE241.out | refine below_set ?_ GE246.out | refine below_set ?_ GE251.out) | exact HB.out))) | (repeat (first | exact HG.out | apply Glob.drewN | apply Glob.drew | apply Glob.alloc))) : p := h
theorem q122_ {p : Prop} (h : p := by (with_reducible repeat first | apply bN_ | apply bD_ | apply bA_); exact BK246.out) : p := h
theorem q123_ {p : Prop} (h : p := by (with_reducible repeat first | apply bN_ | apply bD_ | apply bA_); exact BK154.out) : p := h
theorem q124_ {p : Prop} (h : p := by (with_reducible repeat first | apply bN_ | apply bD_ | apply bA_); exact BK343.out) : p := h
theorem q125_ {p : Prop} (h : p := by rw [hg]; exact Nat.ne_of_lt (blk_lt (g := gb231) (o := .cells #[.int .i64 a1_0, .int .i64 a1_1, .string a1_2] 23 (0, 0)) (by (with_reducible repeat first | apply bN_ | apply bD_ | apply bA_); exact BK231.out))) : p := h
theorem q126_ {p : Prop} (h : p := by rw [hg]; exact Nat.ne_of_gt (blk_lt (g := gb231) (o := .cells #[.int .i64 a1_0, .int .i64 a1_1, .string a1_2] 23 (0, 0)) (by (with_reducible repeat first | apply bN_ | apply bD_ | apply bA_); exact BK231.out))) : p := h
theorem q127_ {p : Prop} (h : p := by first | exact HG.out | (refine Glob.below HG.out ?_; (repeat (first | (with_reducible first | exact HB.out | apply below_alloc | apply pw_below_drewN | apply below_drew1 | refine below_set ?_ GE182.out) | exact HB.out))) | (repeat (first | exact HG.out | apply Glob.drewN | apply Glob.drew | apply Glob.alloc))) : p := h
theorem q128_ {p : Prop} (h : p := by (with_reducible repeat first | apply bN_ | apply bD_ | apply bA_); exact BK196.out) : p := h
theorem q129_ {p : Prop} (h : p := by (with_reducible repeat first | apply bN_ | apply bD_ | apply bA_); refine blk_far ?_ NB246_251.out _; (with_reducible repeat first | apply bN_ | apply bD_ | apply bA_); refine blk_far ?_ NB246_251.out _; (with_reducible repeat first | apply bN_ | apply bD_ | apply bA_); refine blk_far ?_ NB246_251.out _; (with_reducible repeat first | apply bN_ | apply bD_ | apply bA_); exact BK246.out) : p := h
theorem q130_ {p : Prop} (h : p := by (with_reducible repeat first | apply bN_ | apply bD_ | apply bA_); refine blk_far ?_ NB241_251.out _; (with_reducible repeat first | apply bN_ | apply bD_ | apply bA_); refine blk_far ?_ NB241_251.out _; (with_reducible repeat first | apply bN_ | apply bD_ | apply bA_); refine blk_far ?_ NB241_251.out _; (with_reducible repeat first | apply bN_ | apply bD_ | apply bA_); exact BK241.out) : p := h
theorem q131_ {p : Prop} (h : p := by (with_reducible repeat first | apply bN_ | apply bD_ | apply bA_); refine blk_far ?_ NB236_251.out _; (with_reducible repeat first | apply bN_ | apply bD_ | apply bA_); refine blk_far ?_ NB236_251.out _; (with_reducible repeat first | apply bN_ | apply bD_ | apply bA_); refine blk_far ?_ NB236_251.out _; (with_reducible repeat first | apply bN_ | apply bD_ | apply bA_); exact BK236.out) : p := h
theorem q132_ {p : Prop} (h : p := by (with_reducible repeat first | apply bN_ | apply bD_ | apply bA_); refine blk_far ?_ NB231_251.out _; (with_reducible repeat first | apply bN_ | apply bD_ | apply bA_); refine blk_far ?_ NB231_251.out _; (with_reducible repeat first | apply bN_ | apply bD_ | apply bA_); refine blk_far ?_ NB231_251.out _; (with_reducible repeat first | apply bN_ | apply bD_ | apply bA_); exact BK231.out) : p := h
theorem q133_ {p : Prop} (h : p := by (with_reducible repeat first | apply bN_ | apply bD_ | apply bA_); refine blk_far ?_ NB230_251.out _; (with_reducible repeat first | apply bN_ | apply bD_ | apply bA_); refine blk_far ?_ NB230_251.out _; (with_reducible repeat first | apply bN_ | apply bD_ | apply bA_); refine blk_far ?_ NB230_251.out _; (with_reducible repeat first | apply bN_ | apply bD_ | apply bA_); exact BK230.out) : p := h
theorem q134_ {p : Prop} (h : p := by (with_reducible repeat first | apply bN_ | apply bD_ | apply bA_); refine blk_far ?_ NB182_187.out _; (with_reducible repeat first | apply bN_ | apply bD_ | apply bA_); refine blk_far ?_ NB182_187.out _; (with_reducible repeat first | apply bN_ | apply bD_ | apply bA_); refine blk_far ?_ NB182_187.out _; (with_reducible repeat first | apply bN_ | apply bD_ | apply bA_); exact BK182.out) : p := h
theorem q135_ {p : Prop} (h : p := by (with_reducible repeat first | apply bN_ | apply bD_ | apply bA_); exact BK263.out) : p := h
theorem q136_ {p : Prop} (h : p := by (with_reducible repeat first | apply bN_ | apply bD_ | apply bA_); exact BK251.out) : p := h
theorem q137_ {p : Prop} (h : p := by (with_reducible repeat first | apply bN_ | apply bD_ | apply bA_); exact BK155.out) : p := h
theorem q138_ {p : Prop} (h : p := by (with_reducible repeat first | apply bN_ | apply bD_ | apply bA_); exact BK344.out) : p := h
theorem q139_ {p : Prop} (h : p := by (with_reducible repeat first | apply bN_ | apply bD_ | apply bA_); exact BK164.out) : p := h
theorem q140_ {p : Prop} (h : p := by (with_reducible repeat first | apply bN_ | apply bD_ | apply bA_); exact BK136.out) : p := h
theorem q141_ {p : Prop} (h : p := by rw [hg]; exact Nat.ne_of_lt (blk_lt (g := gb261) (o := .cells #[.int .i64 a0_0, .int .i64 a0_1, .string a0_2] 23 (0, 0)) (by (with_reducible repeat first | apply bN_ | apply bD_ | apply bA_); exact BK261.out))) : p := h
theorem q142_ {p : Prop} (h : p := by rw [hg]; exact Nat.ne_of_lt (blk_lt (g := gb236) (o := .cells #[.int .i64 t232, .int .i64 t233, .string t234] 23 (0, 0)) (by (with_reducible repeat first | apply bN_ | apply bD_ | apply bA_); exact BK236.out))) : p := h
theorem q143_ {p : Prop} (h : p := by rw [hg]; exact Nat.ne_of_lt (blk_lt (g := gb163) (o := .cells #[.int .i64 a0_0, .int .i64 a0_1, .string a0_2] 23 (0, 0)) (by (with_reducible repeat first | apply bN_ | apply bD_ | apply bA_); exact BK163.out))) : p := h
theorem q144_ {p : Prop} (h : p := by rw [hg]; exact Nat.ne_of_lt (blk_lt (g := gb135) (o := .cells #[.int .i64 a0_0, .int .i64 a0_1, .string a0_2] 23 (0, 0)) (by (with_reducible repeat first | apply bN_ | apply bD_ | apply bA_); exact BK135.out))) : p := h
theorem q145_ {p : Prop} (h : p := by rw [hg]; exact Nat.ne_of_gt (blk_lt (g := gb261) (o := .cells #[.int .i64 a0_0, .int .i64 a0_1, .string a0_2] 23 (0, 0)) (by (with_reducible repeat first | apply bN_ | apply bD_ | apply bA_); exact BK261.out))) : p := h
theorem q146_ {p : Prop} (h : p := by rw [hg]; exact Nat.ne_of_gt (blk_lt (g := gb236) (o := .cells #[.int .i64 t232, .int .i64 t233, .string t234] 23 (0, 0)) (by (with_reducible repeat first | apply bN_ | apply bD_ | apply bA_); exact BK236.out))) : p := h
theorem q147_ {p : Prop} (h : p := by rw [hg]; exact Nat.ne_of_gt (blk_lt (g := gb163) (o := .cells #[.int .i64 a0_0, .int .i64 a0_1, .string a0_2] 23 (0, 0)) (by (with_reducible repeat first | apply bN_ | apply bD_ | apply bA_); exact BK163.out))) : p := h
theorem q148_ {p : Prop} (h : p := by rw [hg]; exact Nat.ne_of_gt (blk_lt (g := gb135) (o := .cells #[.int .i64 a0_0, .int .i64 a0_1, .string a0_2] 23 (0, 0)) (by (with_reducible repeat first | apply bN_ | apply bD_ | apply bA_); exact BK135.out))) : p := h
theorem q149_ {p : Prop} (h : p := by first | exact HG.out | (refine Glob.below HG.out ?_; (repeat (first | (with_reducible first | exact HB.out | apply below_alloc | apply pw_below_drewN | apply below_drew1 | refine below_set ?_ GE182.out | refine below_set ?_ GE187.out) | exact HB.out))) | (repeat (first | exact HG.out | apply Glob.drewN | apply Glob.drew | apply Glob.alloc))) : p := h
theorem q150_ {p : Prop} (h : p := by (with_reducible repeat first | apply bN_ | apply bD_ | apply bA_); exact BK379.out) : p := h
theorem q151_ {p : Prop} (h : p := by rw [hg]; exact Nat.ne_of_lt (blk_lt (g := gb241) (o := .cells #[.int .i64 t237, .int .i64 t238, .string t239] 23 (0, 0)) (by (with_reducible repeat first | apply bN_ | apply bD_ | apply bA_); exact BK241.out))) : p := h
theorem q152_ {p : Prop} (h : p := by rw [hg]; exact Nat.ne_of_gt (blk_lt (g := gb241) (o := .cells #[.int .i64 t237, .int .i64 t238, .string t239] 23 (0, 0)) (by (with_reducible repeat first | apply bN_ | apply bD_ | apply bA_); exact BK241.out))) : p := h
theorem q153_ {p : Prop} (h : p := by (with_reducible repeat first | apply bN_ | apply bD_ | apply bA_); exact BK345.out) : p := h
theorem q154_ {p : Prop} (h : p := by first | exact HG.out | (refine Glob.below HG.out ?_; (repeat (first | (with_reducible first | exact HB.out | apply below_alloc | apply pw_below_drewN | apply below_drew1 | refine below_set ?_ GE343.out | refine below_set ?_ GE344.out | refine below_set ?_ GE345.out) | exact HB.out))) | (repeat (first | exact HG.out | apply Glob.drewN | apply Glob.drew | apply Glob.alloc))) : p := h
theorem q155_ {p : Prop} (h : p := by first | exact HG.out | (refine Glob.below HG.out ?_; (repeat (first | (with_reducible first | exact HB.out | apply below_alloc | apply pw_below_drewN | apply below_drew1 | refine below_set ?_ GE163.out | refine below_set ?_ GE164.out | refine below_set ?_ GE165.out) | exact HB.out))) | (repeat (first | exact HG.out | apply Glob.drewN | apply Glob.drew | apply Glob.alloc))) : p := h
theorem q156_ {p : Prop} (h : p := by first | exact HG.out | (refine Glob.below HG.out ?_; (repeat (first | (with_reducible first | exact HB.out | apply below_alloc | apply pw_below_drewN | apply below_drew1 | refine below_set ?_ GE135.out | refine below_set ?_ GE136.out | refine below_set ?_ GE137.out) | exact HB.out))) | (repeat (first | exact HG.out | apply Glob.drewN | apply Glob.drew | apply Glob.alloc))) : p := h
theorem q157_ {p : Prop} (h : p := by (with_reducible repeat first | apply bN_ | apply bD_ | apply bA_); exact BK197.out) : p := h
theorem q158_ {p : Prop} (h : p := by (with_reducible repeat first | apply bN_ | apply bD_ | apply bA_); exact BK130.out) : p := h
theorem q159_ {p : Prop} (h : p := by first | exact HG.out | (refine Glob.below HG.out ?_; (repeat (first | (with_reducible first | exact HB.out | apply below_alloc | apply pw_below_drewN | apply below_drew1 | refine below_set ?_ GE130.out | refine below_set ?_ GE131.out) | exact HB.out))) | (repeat (first | exact HG.out | apply Glob.drewN | apply Glob.drew | apply Glob.alloc))) : p := h
theorem q160_ {p : Prop} (h : p := by (with_reducible repeat first | apply bN_ | apply bD_ | apply bA_); exact BK259.out) : p := h
theorem q161_ {p : Prop} (h : p := by (with_reducible repeat first | apply bN_ | apply bD_ | apply bA_); exact BK187.out) : p := h
theorem q162_ {p : Prop} (h : p := by rw [hg]; exact Nat.ne_of_lt (blk_lt (g := gb246) (o := .cells #[.int .i64 t242, .int .i64 t243, .string t244] 23 (0, 0)) (by (with_reducible repeat first | apply bN_ | apply bD_ | apply bA_); exact BK246.out))) : p := h
theorem q163_ {p : Prop} (h : p := by rw [hg]; exact Nat.ne_of_lt (blk_lt (g := gb195) (o := .cells #[.int .i64 a0_0, .int .i64 a0_1, .string a0_2] 23 (0, 0)) (by (with_reducible repeat first | apply bN_ | apply bD_ | apply bA_); exact BK195.out))) : p := h
theorem q164_ {p : Prop} (h : p := by rw [hg]; exact Nat.ne_of_gt (blk_lt (g := gb246) (o := .cells #[.int .i64 t242, .int .i64 t243, .string t244] 23 (0, 0)) (by (with_reducible repeat first | apply bN_ | apply bD_ | apply bA_); exact BK246.out))) : p := h
theorem q165_ {p : Prop} (h : p := by rw [hg]; exact Nat.ne_of_gt (blk_lt (g := gb195) (o := .cells #[.int .i64 a0_0, .int .i64 a0_1, .string a0_2] 23 (0, 0)) (by (with_reducible repeat first | apply bN_ | apply bD_ | apply bA_); exact BK195.out))) : p := h
theorem q166_ {p : Prop} (h : p := by (with_reducible repeat first | apply bN_ | apply bD_ | apply bA_); exact BK125.out) : p := h
theorem q167_ {p : Prop} (h : p := by (with_reducible repeat first | apply bN_ | apply bD_ | apply bA_); exact BK366.out) : p := h
theorem q168_ {p : Prop} (h : p := by (with_reducible repeat first | apply bN_ | apply bD_ | apply bA_); exact BK131.out) : p := h
theorem q169_ {p : Prop} (h : p := by have := HJ2.out; first | omega | exact Nat.le_refl _) : p := h
theorem q170_ {p : Prop} (h : p := by rw [hg]; exact Nat.ne_of_lt (blk_lt (g := gb262) (o := .cells #[.int .i64 a1_0, .int .i64 a1_1, .string a1_2] 23 (0, 0)) (by (with_reducible repeat first | apply bN_ | apply bD_ | apply bA_); exact BK262.out))) : p := h
theorem q171_ {p : Prop} (h : p := by rw [hg]; exact Nat.ne_of_lt (blk_lt (g := gb251) (o := .cells #[.int .i64 t247, .int .i64 t248, .string t249] 23 (0, 0)) (by (with_reducible repeat first | apply bN_ | apply bD_ | apply bA_); exact BK251.out))) : p := h
theorem q172_ {p : Prop} (h : p := by rw [hg]; exact Nat.ne_of_lt (blk_lt (g := gb187) (o := .cells #[.int .i64 t183, .int .i64 t184, .string t185] 23 (0, 0)) (by (with_reducible repeat first | apply bN_ | apply bD_ | apply bA_); exact BK187.out))) : p := h
theorem q173_ {p : Prop} (h : p := by rw [hg]; exact Nat.ne_of_lt (blk_lt (g := gb164) (o := .cells #[.int .i64 a1_0, .int .i64 a1_1, .string a1_2] 23 (0, 0)) (by (with_reducible repeat first | apply bN_ | apply bD_ | apply bA_); exact BK164.out))) : p := h
theorem q174_ {p : Prop} (h : p := by rw [hg]; exact Nat.ne_of_lt (blk_lt (g := gb136) (o := .cells #[.int .i64 a1_0, .int .i64 a1_1, .string a1_2] 23 (0, 0)) (by (with_reducible repeat first | apply bN_ | apply bD_ | apply bA_); exact BK136.out))) : p := h
theorem q175_ {p : Prop} (h : p := by rw [hg]; exact Nat.ne_of_gt (blk_lt (g := gb262) (o := .cells #[.int .i64 a1_0, .int .i64 a1_1, .string a1_2] 23 (0, 0)) (by (with_reducible repeat first | apply bN_ | apply bD_ | apply bA_); exact BK262.out))) : p := h
theorem q176_ {p : Prop} (h : p := by rw [hg]; exact Nat.ne_of_gt (blk_lt (g := gb251) (o := .cells #[.int .i64 t247, .int .i64 t248, .string t249] 23 (0, 0)) (by (with_reducible repeat first | apply bN_ | apply bD_ | apply bA_); exact BK251.out))) : p := h
theorem q177_ {p : Prop} (h : p := by rw [hg]; exact Nat.ne_of_gt (blk_lt (g := gb187) (o := .cells #[.int .i64 t183, .int .i64 t184, .string t185] 23 (0, 0)) (by (with_reducible repeat first | apply bN_ | apply bD_ | apply bA_); exact BK187.out))) : p := h
theorem q178_ {p : Prop} (h : p := by rw [hg]; exact Nat.ne_of_gt (blk_lt (g := gb164) (o := .cells #[.int .i64 a1_0, .int .i64 a1_1, .string a1_2] 23 (0, 0)) (by (with_reducible repeat first | apply bN_ | apply bD_ | apply bA_); exact BK164.out))) : p := h
theorem q179_ {p : Prop} (h : p := by rw [hg]; exact Nat.ne_of_gt (blk_lt (g := gb136) (o := .cells #[.int .i64 a1_0, .int .i64 a1_1, .string a1_2] 23 (0, 0)) (by (with_reducible repeat first | apply bN_ | apply bD_ | apply bA_); exact BK136.out))) : p := h
theorem q180_ {p : Prop} (h : p := by (with_reducible repeat (first | apply Kd.R_alloc | apply Kd.R_drewN | apply Kd.R_drew)); exact HO359.out) : p := h
theorem q181_ {p : Prop} (h : p := by have := HK1.out; first | omega | exact Nat.le_refl _) : p := h
theorem q182_ {p : Prop} (h : p := by first | exact HG.out | (refine Glob.below HG.out ?_; (repeat (first | (with_reducible first | exact HB.out | apply below_alloc | apply pw_below_drewN | apply below_drew1 | refine below_set ?_ GE195.out | refine below_set ?_ GE196.out | refine below_set ?_ GE197.out) | exact HB.out))) | (repeat (first | exact HG.out | apply Glob.drewN | apply Glob.drew | apply Glob.alloc))) : p := h
theorem q183_ {p : Prop} (h : p := by have := HJ2.out; have := HJ53.out; have := HJ55.out; first | omega | exact Nat.le_refl _) : p := h
theorem q184_ {p : Prop} (h : p := by have := HJ2.out; have := HJ38.out; have := HJ40.out; first | omega | exact Nat.le_refl _) : p := h
theorem q185_ {p : Prop} (h : p := by have := HJ2.out; have := HJ22.out; have := HJ24.out; first | omega | exact Nat.le_refl _) : p := h
theorem q186_ {p : Prop} (h : p := by have := HJ2.out; have := HJ7.out; have := HJ9.out; first | omega | exact Nat.le_refl _) : p := h
theorem q187_ {p : Prop} (h : p := by (with_reducible repeat first | apply bN_ | apply bD_ | apply bA_); exact BK165.out) : p := h
theorem q188_ {p : Prop} (h : p := by (with_reducible repeat first | apply bN_ | apply bD_ | apply bA_); exact BK137.out) : p := h
theorem q189_ {p : Prop} (h : p := by (with_reducible repeat (first | apply Kd.R_alloc | apply Kd.R_drewN | apply Kd.R_drew)); exact HO409.out) : p := h
theorem q190_ {p : Prop} (h : p := by (with_reducible repeat first | apply bN_ | apply bD_ | apply bA_); exact BK324.out) : p := h
theorem q191_ {p : Prop} (h : p := by (with_reducible repeat first | apply bN_ | apply bD_ | apply bA_); exact BK318.out) : p := h
theorem q192_ {p : Prop} (h : p := by (with_reducible repeat first | apply bN_ | apply bD_ | apply bA_); exact BK176.out) : p := h
theorem q193_ {p : Prop} (h : p := by rw [hg]; exact Nat.ne_of_lt (blk_lt (g := gb343) (o := .cells #[.int .i64 a0_0, .int .i64 a0_1, .string a0_2] 23 (0, 0)) (by (with_reducible repeat first | apply bN_ | apply bD_ | apply bA_); exact BK343.out))) : p := h
theorem q194_ {p : Prop} (h : p := by rw [hg]; exact Nat.ne_of_lt (blk_lt (g := gb196) (o := .cells #[.int .i64 a1_0, .int .i64 a1_1, .string a1_2] 23 (0, 0)) (by (with_reducible repeat first | apply bN_ | apply bD_ | apply bA_); exact BK196.out))) : p := h
theorem q195_ {p : Prop} (h : p := by rw [hg]; exact Nat.ne_of_gt (blk_lt (g := gb343) (o := .cells #[.int .i64 a0_0, .int .i64 a0_1, .string a0_2] 23 (0, 0)) (by (with_reducible repeat first | apply bN_ | apply bD_ | apply bA_); exact BK343.out))) : p := h
theorem q196_ {p : Prop} (h : p := by rw [hg]; exact Nat.ne_of_gt (blk_lt (g := gb196) (o := .cells #[.int .i64 a1_0, .int .i64 a1_1, .string a1_2] 23 (0, 0)) (by (with_reducible repeat first | apply bN_ | apply bD_ | apply bA_); exact BK196.out))) : p := h
theorem q197_ {p : Prop} (h : p := by (with_reducible repeat (first | apply Kd.R_alloc | apply Kd.R_drewN | apply Kd.R_drew)); exact HO406.out) : p := h

end Go.Proofs.YtmdnnpahmoaicaaDoor.P
