-- HALVED
import Derived.Test.YtnggdcdiachkpaaDoorPure
import Derived.Test.YtnggdcdiachkpaaDoorPx79
namespace Go.Proofs.YtnggdcdiachkpaaDoor.Pure
open Go.ChangeShapes Go.WideShapes Go.ChangeAt Go.RowKit Go.Proofs.YtnggdcdiachkpaaDoorW.PrintWords Go.Proofs.YtnggdcdiachkpaaDoorW.PrintLast Go.Proofs.YtnggdcdiachkpaaDoor.P Go.Proofs.YtnggdcdiachkpaaDoor.Open
set_option linter.unusedVariables false
set_option linter.unusedSimpArgs false
def zev (op : Int) : Int := if op = 1 ∨ op = 2 then 0 else if op = 6 ∨ op = 15 ∨ op = 16 then 1 else 2
theorem takes_ev (op : Int) : Ev (fun k => zck.f k op) (zev op) := by
 unfold zck.f zev
 apply Ev.succ
 simp only [zck.j0]
 by_cases h1 : op = 1
 ·subst h1; exact Ev.of rfl
 ·by_cases h2 : op = 2
  ·subst h2; exact Ev.of rfl
  ·apply Ev.of
   simp only [h1, h2, or_self, if_false, beq_eq_false_iff_ne.mpr h2]
   by_cases h6 : op = 6
   ·simp [h6]
   ·by_cases h7 : op = 15
    ·simp [h7]
    ·by_cases h8 : op = 16
     ·simp [h8]
     ·simp [h6, h7, h8]
theorem takes_range (op : Int) : 0 ≤ zev op ∧ zev op ≤ 2 := by
 unfold zev
 split
 ·omega
 ·split <;> omega
def badI (n : Int) (i : S50) : Bool := decide (i.f0 < 1) || decide (i.f0 > 16) || (decide (i.f0 = 2) && !vR i.f2) || (decide (i.f0 = 1) && (decide (i.f1 < 0) || decide (i.f1 ≥ n)))
def zgk (n : Int) : List S50 → Int → Option Int
 | [], d => some d
 | i :: is, d => if badI n i = true then none else if d < zev i.f0 then none else zgk n is (d + (1 - zev i.f0))
def formedB (n : Int) (code : List S50) : Bool := match zgk n code 0 with
 | none => false
 | some d => decide (d = 1) && decide ((code.length : Int) ≤ 32)
theorem rd39 (pre : List S50) (i : S50) (is : List S50) : zan (pre ++ i :: is) (pre.length : Int) = i := by
 unfold zan
 simp
theorem formed_ev (n : Int) (code : List S50) (hc : (code.length : Int) ≤ 9223372036854775807) : ∀ (is pre : List S50) (d : Int), code = pre ++ is → 0 ≤ d → d ≤ pre.length →
  Ev (fun k => zbn.l0 k code n d code (code.length : Int) (pre.length : Int)) (match zgk n is d with | none => false | some d => decide (d = 1) && decide ((code.length : Int) ≤ 32))
 | [], pre, d, e, h0, hd => by
  apply Ev.succ
  simp only [zbn.l0]
  apply Ev.neg (by rw [e]; simp)
  simp only [zgk]
  by_cases h1 : d = 1
  ·exact Ev.of (by simp [h1])
  ·exact Ev.of (by simp [h1])
 | i :: is, pre, d, e, h0, hd => by
  have hl : code.length = pre.length + (is.length + 1) := by rw [e]; simp
  apply Ev.succ
  simp only [zbn.l0]
  have hr : zan code (pre.length : Int) = i := by rw [e]; exact rd39 pre i is
  rw [hr]
  apply Ev.pos (by omega)
  apply Ev.pos (by omega)
  apply Ev.pos (by omega)
  have join : Ev (fun k => zbn.j1 k code n d code (code.length : Int) (pre.length : Int) (badI n i) i.f0 i.f1 i.f2.f0 i.f2.f1 i.f2.f2) (match zgk n (i :: is) d with | none => false | some d => decide (d = 1) && decide ((code.length : Int) ≤ 32)) := by
   apply Ev.succ
   simp only [zbn.j1, zgk]
   by_cases hb : badI n i = true
   ·rw [if_pos hb]
    exact Ev.pos hb (Ev.pure _)
   ·rw [if_neg hb]
    apply Ev.neg hb
    apply Ev.bind (takes_ev i.f0)
    have tr := takes_range i.f0
    by_cases ht : d < zev i.f0
    ·rw [if_pos ht]
     exact Ev.pos ht (Ev.pure _)
    ·rw [if_neg ht]
     apply Ev.neg ht
     have e1 : wrap64 (d + wrap64 (1 - zev i.f0)) = d + (1 - zev i.f0) := by rw [w64 (n := 1 - zev i.f0) (by omega) (by omega)]; exact w64 (by omega) (by omega)
     have e2 : wrap64 ((pre.length : Int) + 1) = ((pre ++ [i]).length : Int) := by rw [w64 (by omega) (by omega)]; simp
     rw [e1, e2]
     exact formed_ev n code hc is (pre ++ [i]) (d + (1 - zev i.f0)) (by rw [e]; simp) (by omega) (by simp; omega)
  by_cases h1 : i.f0 < 1
  ·rw [show badI n i = true by simp [badI, h1]] at join
   exact Ev.pos h1 join
  ·apply Ev.neg h1
   by_cases h2 : i.f0 > 16
   ·rw [show badI n i = true by simp [badI, h2]] at join
    exact Ev.pos h2 join
   ·apply Ev.neg h2
    by_cases h3 : i.f0 = 2
    ·apply Ev.pos h3
     rw [show zcu.f i.f2.f0 i.f2.f1 i.f2.f2 = some (vR i.f2) from right_eq i.f2]
     simp only [Option.bind_some]
     by_cases h4 : vR i.f2 = true
     ·apply Ev.pos h4
      rw [show badI n i = false by simp [badI, h3, h4]] at join
      exact Ev.neg (by omega) join
     ·apply Ev.neg h4
      rw [show badI n i = true by simp [badI, h3, h4]] at join
      exact join
    ·apply Ev.neg h3
     by_cases h4 : i.f0 = 1
     ·apply Ev.pos h4
      by_cases h5 : i.f1 < 0
      ·apply Ev.pos h5
       rw [show badI n i = true by simp [badI, h4, h5]] at join
       exact join
      ·apply Ev.neg h5
       rw [show badI n i = decide (i.f1 ≥ n) by simp [badI, h4, h5]] at join
       exact join
     ·apply Ev.neg h4
      rw [show badI n i = false by simp [badI, h1, h2, h3, h4]] at join
      exact join
theorem formed_f (n : Int) (code : List S50) (hc : (code.length : Int) ≤ 9223372036854775807) : Ev (fun k => zbn.f k code n) (formedB n code) :=
 formed_ev n code hc code [] 0 (by simp) (by omega) (by simp)
def asksS (op : Int) : Int × Int := if op ≤ 6 then (2, 2) else if op ≤ 12 then (0, 1) else if op = 16 then (0, 1) else (1, 1)
theorem asks_eq (op : Int) : zeu.f op = some (asksS op) := by
 unfold zeu.f asksS
 by_cases h1 : op ≤ 6
 ·simp [h1]
 ·by_cases h2 : op ≤ 12
  ·simp [h1, h2]
  ·by_cases h3 : op = 16 <;> simp [h1, h2, h3]
def fitsS (op a b : Int) : Bool :=
 if op = 16 then true
 else if (asksS op).1 = 0 then decide (a = b) || decide (a = 0) || decide (b = 0)
 else (decide (a = (asksS op).1) || decide (a = 0)) && (decide (b = (asksS op).1) || decide (b = 0))
theorem efits_eq (op a b : Int) : zgl.f op a b = some (fitsS op a b) := by
 unfold zgl.f fitsS
 rw [asks_eq]
 simp only [Option.bind_some]
 by_cases h1 : op = 16
 ·simp [h1]
 ·simp only [if_neg h1]
  by_cases h2 : (asksS op).1 = 0
  ·simp only [if_pos h2]
   by_cases h3 : a = b
   ·simp [h3]
   ·by_cases h4 : a = 0
    ·simp [h4]
    ·by_cases h5 : b = 0 <;> simp [h3, h4, h5]
  ·simp only [if_neg h2]
   by_cases h3 : a = (asksS op).1
   ·by_cases h4 : b = (asksS op).1
    ·simp [h3, h4]
    ·by_cases h5 : b = 0 <;> simp [h3, h4, h5]
   ·by_cases h4 : a = 0
    ·by_cases h5 : b = (asksS op).1
     ·simp [h4, h5]
     ·by_cases h6 : b = 0
      ·simp [h4, h6]
      ·simp [h4, h5, h6]
    ·simp [h3, h4]
def tv (b : Bool) : S48 := if b = true then ⟨1, 1, ⟨#[]⟩⟩ else ⟨1, 0, ⟨#[]⟩⟩
theorem zjj (b : Bool) : zdr.f b = some ((tv b).f0, (tv b).f1, (tv b).f2) := by
 cases b <;> rfl
theorem same_eq (a b : S48) : (a.f0 == b.f0 && (a.f1 == b.f1 && (a.f2.toList == b.f2.toList))) = decide (a = b) := by
 rw [str_eq]
 rw [Bool.eq_iff_iff]
 simp only [Bool.and_eq_true, beq_iff_eq, decide_eq_true_eq]
 constructor
 ·rintro ⟨h1, h2, h3⟩
  cases a; cases b; simp_all
 ·rintro rfl
  exact ⟨rfl, rfl, rfl⟩
def Rep := S48 × Int
def out (r : S48 × Int) : Int × Int × ByteArray × Int := (r.1.f0, r.1.f1, r.1.f2, r.2)
def intsS (a b : S48) : Bool × Int :=
 if (vR a && vR b) = false then (true, 1)
 else if a.f0 = 0 ∨ b.f0 = 0 then (true, 0)
 else if a.f0 = 2 ∧ b.f0 = 2 then (false, 0)
 else (true, 10)
theorem ints_ev (a b : S48) : Ev (fun k => zbs.f k a.f0 a.f1 a.f2 b.f0 b.f1 b.f2) (intsS a b) := by
 unfold zbs.f intsS
 rw [right_eq, right_eq]
 simp only [Option.bind_some]
 by_cases ha : vR a = true
 ·apply Ev.pos ha
  apply Ev.succ
  simp only [zbs.j0]
  by_cases hb : vR b = true
  ·simp only [ha, hb, Bool.not_true, Bool.and_self]
   apply Ev.neg (by decide)
   simp only [if_neg (show ¬ (true = false) by decide)]
   by_cases h0 : a.f0 = 0
   ·apply Ev.pos h0
    apply Ev.succ
    simp only [zbs.j1]
    exact Ev.of (by simp [h0])
   ·apply Ev.neg h0
    apply Ev.succ
    simp only [zbs.j1]
    by_cases h1 : b.f0 = 0
    ·exact Ev.of (by simp [h1])
    ·by_cases h2 : a.f0 = 2
     ·by_cases h3 : b.f0 = 2
      ·exact Ev.of (by simp [h2, h3])
      ·exact Ev.of (by simp [h1, h2, h3])
     ·exact Ev.of (by simp [h0, h1, h2])
  ·simp only [ha, hb, Bool.not_false, Bool.and_false]
   exact Ev.pos trivial (Ev.of (by simp))
 ·apply Ev.neg ha
  apply Ev.succ
  simp only [zbs.j0]
  exact Ev.of (by simp [ha])
def intS (n : Int) (over : Bool) : S48 × Int := if over = true then (zv, 14) else (⟨2, n, ⟨#[]⟩⟩, 0)
theorem of_eq (n : Int) (b : Bool) : zei.f n b = some (out (intS n b)) := by
 cases b <;> rfl
def addS (a b : S48) : S48 × Int :=
 if (intsS a b).1 = true then (zv, (intsS a b).2)
 else if ((decide (a.f1 ≥ 0)) == (decide (b.f1 ≥ 0))) = true then intS (wrap64 (a.f1 + b.f1)) ((decide ((wrap64 (a.f1 + b.f1)) ≥ 0)) != (decide (a.f1 ≥ 0)))
 else intS (wrap64 (a.f1 + b.f1)) false
theorem add_ev (a b : S48) : Ev (fun k => zfd.f k a.f0 a.f1 a.f2 b.f0 b.f1 b.f2) (out (addS a b)) := by
 unfold zfd.f addS
 apply Ev.bind (ints_ev a b)
 by_cases h : (intsS a b).1 = true
 ·simp only [if_pos h]
  exact Ev.pure _
 ·simp only [if_neg h, of_eq, Option.bind_some]
  by_cases h2 : ((decide (a.f1 ≥ 0)) == (decide (b.f1 ≥ 0))) = true
  ·simp only [if_pos h2]; exact Ev.pure _
  ·simp only [if_neg h2]; exact Ev.pure _
def subS (a b : S48) : S48 × Int :=
 if (intsS a b).1 = true then (zv, (intsS a b).2)
 else if ((decide (a.f1 ≥ 0)) != (decide (b.f1 ≥ 0))) = true then intS (wrap64 (a.f1 - b.f1)) ((decide ((wrap64 (a.f1 - b.f1)) ≥ 0)) != (decide (a.f1 ≥ 0)))
 else intS (wrap64 (a.f1 - b.f1)) false
theorem sub_ev (a b : S48) : Ev (fun k => zdz.f k a.f0 a.f1 a.f2 b.f0 b.f1 b.f2) (out (subS a b)) := by
 unfold zdz.f subS
 apply Ev.bind (ints_ev a b)
 by_cases h : (intsS a b).1 = true
 ·simp only [if_pos h]
  exact Ev.pure _
 ·simp only [if_neg h, of_eq, Option.bind_some]
  by_cases h2 : ((decide (a.f1 ≥ 0)) != (decide (b.f1 ≥ 0))) = true
  ·simp only [if_pos h2]; exact Ev.pure _
  ·simp only [if_neg h2]; exact Ev.pure _
theorem neg_ev (a : S48) : Ev (fun k => zfh.f k a.f0 a.f1 a.f2) (out (subS ⟨2, 0, ⟨#[]⟩⟩ a)) := by
 unfold zfh.f
 exact Ev.bind (sub_ev ⟨2, 0, ⟨#[]⟩⟩ a) (Ev.pure _)
def mulS (a b : S48) : S48 × Int :=
 if (intsS a b).1 = true then (zv, (intsS a b).2)
 else if a.f1 = 0 ∨ b.f1 = 0 then intS 0 false
 else if a.f1 = -9223372036854775808 ∨ b.f1 = -9223372036854775808 then (if a.f1 = 1 then intS (-9223372036854775808) false else intS (-9223372036854775808) (b.f1 != 1))
 else intS (wrap64 (a.f1 * b.f1)) ((wrap64 (Int.tdiv (wrap64 (a.f1 * b.f1)) b.f1)) != a.f1)
theorem mul_ev (a b : S48) : Ev (fun k => zcb.f k a.f0 a.f1 a.f2 b.f0 b.f1 b.f2) (out (mulS a b)) := by
 unfold zcb.f mulS
 apply Ev.bind (ints_ev a b)
 by_cases h : (intsS a b).1 = true
 ·simp only [if_pos h]
  exact Ev.pure _
 ·simp only [if_neg h]
  have j0 : Ev (fun k => zcb.j0 k (decide (a.f1 = 0 ∨ b.f1 = 0)) a.f0 a.f1 a.f2 b.f0 b.f1 b.f2) (out (if a.f1 = 0 ∨ b.f1 = 0 then intS 0 false
    else if a.f1 = -9223372036854775808 ∨ b.f1 = -9223372036854775808 then (if a.f1 = 1 then intS (-9223372036854775808) false else intS (-9223372036854775808) (b.f1 != 1))
    else intS (wrap64 (a.f1 * b.f1)) ((wrap64 (Int.tdiv (wrap64 (a.f1 * b.f1)) b.f1)) != a.f1))) := by
   apply Ev.succ
   simp only [zcb.j0, of_eq, Option.bind_some]
   by_cases h0 : a.f1 = 0 ∨ b.f1 = 0
   ·simp only [if_pos h0, decide_eq_true h0]
    exact Ev.pos trivial (Ev.pure _)
   ·simp only [if_neg h0, decide_eq_false h0]
    apply Ev.neg (by decide)
    have j1 : Ev (fun k => zcb.j1 k (decide (a.f1 = -9223372036854775808 ∨ b.f1 = -9223372036854775808)) a.f0 a.f1 a.f2 b.f0 b.f1 b.f2) (out (if a.f1 = -9223372036854775808 ∨ b.f1 = -9223372036854775808 then (if a.f1 = 1 then intS (-9223372036854775808) false else intS (-9223372036854775808) (b.f1 != 1))
      else intS (wrap64 (a.f1 * b.f1)) ((wrap64 (Int.tdiv (wrap64 (a.f1 * b.f1)) b.f1)) != a.f1))) := by
     apply Ev.succ
     simp only [zcb.j1, of_eq, Option.bind_some]
     by_cases h1 : a.f1 = -9223372036854775808 ∨ b.f1 = -9223372036854775808
     ·simp only [if_pos h1, decide_eq_true h1]
      apply Ev.pos trivial
      by_cases h2 : a.f1 = 1
      ·simp only [if_pos h2]; exact Ev.pure _
      ·simp only [if_neg h2]; exact Ev.pure _
     ·simp only [if_neg h1, decide_eq_false h1]
      apply Ev.neg (by decide)
      apply Ev.neg (by omega)
      exact Ev.pure _
    by_cases h1 : a.f1 = -9223372036854775808
    ·apply Ev.pos h1
     rw [show decide (a.f1 = -9223372036854775808 ∨ b.f1 = -9223372036854775808) = true by simp [h1]] at j1
     exact j1
    ·apply Ev.neg h1
     rw [show decide (a.f1 = -9223372036854775808 ∨ b.f1 = -9223372036854775808) = (b.f1 == -9223372036854775808) by rw [Bool.eq_iff_iff]; simp [h1]] at j1
     exact j1
  by_cases h0 : a.f1 = 0
  ·apply Ev.pos h0
   rw [show decide (a.f1 = 0 ∨ b.f1 = 0) = true by simp [h0]] at j0
   exact j0
  ·apply Ev.neg h0
   rw [show decide (a.f1 = 0 ∨ b.f1 = 0) = (b.f1 == 0) by rw [Bool.eq_iff_iff]; simp [h0]] at j0
   exact j0
def logicS (op : Int) (a b : S48) : S48 :=
 if a = tv (op == 14) ∨ b = tv (op == 14) then tv (op == 14)
 else if a.f0 = 0 ∨ b.f0 = 0 then zv
 else tv (op == 13)
theorem logic_ev (op : Int) (a b : S48) : Ev (fun k => zcp.f k op a.f0 a.f1 a.f2 b.f0 b.f1 b.f2) ((logicS op a b).f0, (logicS op a b).f1, (logicS op a b).f2) := by
 unfold zcp.f logicS
 rw [zjj]
 simp only [Option.bind_some]
 rw [same_eq a (tv (op == 14)), same_eq b (tv (op == 14))]
 by_cases ha : a = tv (op == 14)
 ·apply Ev.pos (decide_eq_true ha)
  apply Ev.succ
  simp only [zcp.j0]
  apply Ev.pos trivial
  rw [if_pos (.inl ha)]
  exact Ev.pure _
 ·apply Ev.neg (by simpa using ha)
  apply Ev.succ
  simp only [zcp.j0]
  by_cases hb : b = tv (op == 14)
  ·have hP : a = tv (op == 14) ∨ b = tv (op == 14) := .inr hb
   simp only [if_pos hP]
   exact Ev.pos (decide_eq_true hb) (Ev.pure _)
  ·have hP : ¬ (a = tv (op == 14) ∨ b = tv (op == 14)) := by simp [ha, hb]
   simp only [if_neg hP]
   apply Ev.neg (by simpa using hb)
   by_cases h0 : a.f0 = 0
   ·have hQ : a.f0 = 0 ∨ b.f0 = 0 := .inl h0
    simp only [if_pos hQ]
    exact Ev.pos h0 (Ev.pure _)
   ·apply Ev.neg h0
    by_cases h1 : b.f0 = 0
    ·have hQ : a.f0 = 0 ∨ b.f0 = 0 := .inr h1
     simp only [if_pos hQ]
     exact Ev.pos h1 (Ev.pure _)
    ·have hQ : ¬ (a.f0 = 0 ∨ b.f0 = 0) := by simp [h0, h1]
     simp only [if_neg hQ]
     apply Ev.neg h1
     rw [zjj]
     exact Ev.pure _
def compareS (op c : Int) : Bool := if op = 7 then c == 0 else if op = 8 then c != 0 else if op = 9 then decide (c < 0) else if op = 10 then decide (c ≤ 0) else if op = 11 then decide (c > 0) else decide (c ≥ 0)
theorem compare_eq (op c : Int) : zfp.f op c = some (compareS op c) := by
 unfold zfp.f compareS
 by_cases h7 : op = 7
 ·simp [h7]
 ·by_cases h8 : op = 8
  ·simp [h8]
  ·by_cases h9 : op = 9
   ·simp [h9]
   ·by_cases h10 : op = 10
    ·simp [h10]
    ·by_cases h11 : op = 11
     ·simp [h11]
     ·simp [h7, h8, h9, h10, h11]
def doS (op : Int) (a b : S48) : S48 × Int :=
 if op = 3 then addS a b
 else if op = 4 then subS a b
 else if op = 5 then mulS a b
 else if op = 6 then subS ⟨2, 0, ⟨#[]⟩⟩ a
 else if op = 13 ∨ op = 14 then (logicS op a b, 0)
 else if op = 16 then (tv (a.f0 == 0), 0)
 else if a.f0 = 0 ∨ b.f0 = 0 then (zv, 0)
 else if op = 15 then (tv (a.f1 == 0), 0)
 else (tv (compareS op (cmpS a b)), 0)
theorem do_ev (op : Int) (a b : S48) : Ev (fun k => zcx.f k op a.f0 a.f1 a.f2 b.f0 b.f1 b.f2) (out (doS op a b)) := by
 unfold zcx.f doS
 by_cases h3 : op = 3
 ·simp only [if_pos h3]; exact Ev.bind (add_ev a b) (Ev.pure _)
 ·simp only [if_neg h3]
  by_cases h4 : op = 4
  ·simp only [if_pos h4]; exact Ev.bind (sub_ev a b) (Ev.pure _)
  ·simp only [if_neg h4]
   by_cases h5 : op = 5
   ·simp only [if_pos h5]; exact Ev.bind (mul_ev a b) (Ev.pure _)
   ·simp only [if_neg h5]
    by_cases h6 : op = 6
    ·simp only [if_pos h6]; exact Ev.bind (neg_ev a) (Ev.pure _)
    ·simp only [if_neg h6]
     have j0 : Ev (fun k => zcx.j0 k op (a.f0 == 0) op (decide (op = 13 ∨ op = 14)) a.f0 a.f1 a.f2 b.f0 b.f1 b.f2) (out (if op = 13 ∨ op = 14 then (logicS op a b, 0)
       else if op = 16 then (tv (a.f0 == 0), 0)
       else if a.f0 = 0 ∨ b.f0 = 0 then (zv, 0)
       else if op = 15 then (tv (a.f1 == 0), 0)
       else (tv (compareS op (cmpS a b)), 0))) := by
      apply Ev.succ
      simp only [zcx.j0]
      by_cases hl : op = 13 ∨ op = 14
      ·simp only [if_pos hl, decide_eq_true hl]
       exact Ev.pos trivial (Ev.bind (logic_ev op a b) (Ev.pure _))
      ·simp only [if_neg hl, decide_eq_false hl]
       apply Ev.neg (by decide)
       by_cases h16 : op = 16
       ·simp only [if_pos h16, zjj, Option.bind_some]
        exact Ev.pure _
       ·simp only [if_neg h16]
        have j1 : Ev (fun k => zcx.j1 k op (decide (a.f0 = 0 ∨ b.f0 = 0)) a.f0 a.f1 a.f2 b.f0 b.f1 b.f2) (out (if a.f0 = 0 ∨ b.f0 = 0 then (zv, 0)
          else if op = 15 then (tv (a.f1 == 0), 0)
          else (tv (compareS op (cmpS a b)), 0))) := by
         apply Ev.succ
         simp only [zcx.j1]
         by_cases hn : a.f0 = 0 ∨ b.f0 = 0
         ·simp only [if_pos hn, decide_eq_true hn]
          exact Ev.pos trivial (Ev.pure _)
         ·simp only [if_neg hn, decide_eq_false hn]
          apply Ev.neg (by decide)
          by_cases h15 : op = 15
          ·simp only [if_pos h15, zjj, Option.bind_some]
           exact Ev.pure _
          ·simp only [if_neg h15]
           apply Ev.bind (cmp_ev a b)
           simp only [compare_eq, zjj, Option.bind_some]
           exact Ev.pure _
        by_cases hn : a.f0 = 0
        ·apply Ev.pos (by simpa using hn)
         rw [show decide (a.f0 = 0 ∨ b.f0 = 0) = true by simp [hn]] at j1
         exact j1
        ·apply Ev.neg (by simpa using hn)
         rw [show decide (a.f0 = 0 ∨ b.f0 = 0) = (b.f0 == 0) by rw [Bool.eq_iff_iff]; simp [hn]] at j1
         exact j1
     by_cases h13 : op = 13
     ·apply Ev.pos h13
      rw [show decide (op = 13 ∨ op = 14) = (op == 13) by rw [Bool.eq_iff_iff]; simp [h13]] at j0
      exact j0
     ·apply Ev.neg h13
      rw [show decide (op = 13 ∨ op = 14) = (op == 14) by rw [Bool.eq_iff_iff]; simp [h13]] at j0
      exact j0
def evalS (row : List S48) : List S50 → List S48 → S48 × Int
 | [], st => (zak st 0, 0)
 | i :: is, st =>
  if i.f0 = 1 then evalS row is (st ++ [zak row i.f1])
  else if i.f0 = 2 then evalS row is (st ++ [i.f2])
  else
   let a := zak st ((st.length : Int) - zev i.f0)
   let b := zak st ((st.length : Int) - 1)
   if fitsS i.f0 a.f0 b.f0 = true then
    let r := doS i.f0 a b
    if r.2 = 0 then evalS row is (st.take ((st.length : Int) - zev i.f0).toNat ++ [r.1]) else (zv, r.2)
   else (zv, 10)
theorem takes_pos (op : Int) (h1 : op ≠ 1) (h2 : op ≠ 2) : 1 ≤ zev op := by
 unfold zev
 rw [if_neg (by omega)]
 split <;> omega
theorem eval_ev (row : List S48) (hrow : (row.length : Int) ≤ 9223372036854775807) (code : List S50) (hc : (code.length : Int) ≤ 32) : ∀ (is pre : List S50) (st : List S48) (e : Int), code = pre ++ is → st.length ≤ pre.length → zgk (row.length : Int) is (st.length : Int) = some e → 0 < e →
  Ev (fun k => zav.l0 k row st code (code.length : Int) (pre.length : Int)) (out (evalS row is st))
 | [], pre, st, e, ec, hd, hf, he => by
  simp only [zgk, Option.some.injEq] at hf
  apply Ev.succ
  simp only [zav.l0, evalS]
  apply Ev.neg (by rw [ec]; simp)
  exact Ev.pos (by omega) (Ev.pure _)
 | i :: is, pre, st, e, ec, hd, hf, he => by
  have hl : code.length = pre.length + (is.length + 1) := by rw [ec]; simp
  have hr : zan code (pre.length : Int) = i := by rw [ec]; exact rd39 pre i is
  have e2 : wrap64 ((pre.length : Int) + 1) = ((pre ++ [i]).length : Int) := by rw [w64 (by omega) (by omega)]; simp
  have ec' : code = (pre ++ [i]) ++ is := by rw [ec]; simp
  simp only [zgk] at hf
  have hb : ¬ badI (row.length : Int) i = true := by intro hb; rw [if_pos hb] at hf; cases hf
  rw [if_neg hb] at hf
  have ht : ¬ (st.length : Int) < zev i.f0 := by intro ht; rw [if_pos ht] at hf; cases hf
  rw [if_neg ht] at hf
  have tr := takes_range i.f0
  apply Ev.succ
  simp only [zav.l0]
  apply Ev.pos (by omega)
  apply Ev.succ
  simp only [zav.j3]
  rw [hr]
  apply Ev.pos (by omega)
  apply Ev.pos (by omega)
  simp only [evalS]
  by_cases h1 : i.f0 = 1
  ·have hn : 0 ≤ i.f1 ∧ i.f1 < (row.length : Int) := by
    simp [badI, h1] at hb
    omega
   rw [if_pos h1]
   apply Ev.pos h1
   apply Ev.pos hn.1
   apply Ev.pos hn.2
   apply Ev.pos (by omega)
   rw [e2]
   have ht1 : zev i.f0 = 0 := by simp [zev, h1]
   exact eval_ev row hrow code hc is (pre ++ [i]) (st ++ [zak row i.f1]) e ec' (by simp; omega) (by rw [← hf, ht1]; simp) he
  ·rw [if_neg h1]
   apply Ev.neg h1
   by_cases h2 : i.f0 = 2
   ·rw [if_pos h2]
    apply Ev.pos h2
    apply Ev.pos (by omega)
    rw [e2]
    have ht1 : zev i.f0 = 0 := by simp [zev, h2]
    exact eval_ev row hrow code hc is (pre ++ [i]) (st ++ [i.f2]) e ec' (by simp; omega) (by rw [← hf, ht1]; simp) he
   ·rw [if_neg h2]
    apply Ev.neg h2
    have tp := takes_pos i.f0 h1 h2
    apply Ev.succ
    simp only [zav.j4]
    apply Ev.bind (takes_ev i.f0)
    rw [show wrap64 ((st.length : Int) - zev i.f0) = (st.length : Int) - zev i.f0 from w64 (by omega) (by omega), show wrap64 ((st.length : Int) - 1) = (st.length : Int) - 1 from w64 (by omega) (by omega), efits_eq]
    simp only [Option.bind_some]
    apply Ev.pos (by omega)
    apply Ev.pos (by omega)
    apply Ev.pos (by omega)
    apply Ev.pos (by omega)
    by_cases hfit : fitsS i.f0 (zak st ((st.length : Int) - zev i.f0)).f0 (zak st ((st.length : Int) - 1)).f0 = true
    ·rw [if_pos hfit]
     apply Ev.pos hfit
     apply Ev.succ
     simp only [zav.j5]
     apply Ev.bind (do_ev i.f0 (zak st ((st.length : Int) - zev i.f0)) (zak st ((st.length : Int) - 1)))
     simp only [out]
     by_cases hz : (doS i.f0 (zak st ((st.length : Int) - zev i.f0)) (zak st ((st.length : Int) - 1))).2 = 0
     ·rw [if_pos hz]
      apply Ev.pos hz
      apply Ev.pos (by omega)
      apply Ev.pos (by omega)
      simp only [Option.bind_some]
      have hlen : (st.take ((st.length : Int) - zev i.f0).toNat).length = st.length - (zev i.f0).toNat := by rw [List.length_take]; omega
      apply Ev.pos (by omega)
      rw [e2]
      refine eval_ev row hrow code hc is (pre ++ [i]) _ e ec' ?_ ?_ he
      ·rw [List.length_append, List.length_append, hlen]; simp; omega
      ·rw [← hf, List.length_append, hlen]; congr 1; simp; omega
     ·rw [if_neg hz]
      apply Ev.neg hz
      exact Ev.pure _
    ·rw [if_neg hfit]
     apply Ev.neg hfit
     exact Ev.pure _
theorem evalAny_ev (row : List S48) (hrow : (row.length : Int) ≤ 9223372036854775807) : ∀ (is pre : List S48), row = pre ++ is →
  Ev (fun k => zap.l0 k row (row.length : Int) (pre.length : Int)) (if is.all vR = true then (-1) else ((pre.length : Int) + is.findIdx (fun v => !vR v)))
 | [], pre, e => by
  apply Ev.succ
  simp only [zap.l0]
  apply Ev.neg (by rw [e]; simp)
  exact Ev.of (by simp)
 | i :: is, pre, e => by
  have hl : row.length = pre.length + (is.length + 1) := by rw [e]; simp
  have hr : zak row (pre.length : Int) = i := by rw [e]; exact rdv pre i is
  apply Ev.succ
  simp only [zap.l0]
  apply Ev.pos (by omega)
  apply Ev.pos (by omega)
  apply Ev.pos (by omega)
  rw [hr]
  unfold zgr.f
  rw [right_eq]
  simp only [Option.bind_some]
  by_cases hv : vR i = true
  ·apply Ev.neg (by simp [hv])
   rw [show wrap64 ((pre.length : Int) + 1) = ((pre ++ [i]).length : Int) by rw [w64 (by omega) (by omega)]; simp]
   have ih := evalAny_ev row hrow is (pre ++ [i]) (by rw [e]; simp)
   have : (if (i :: is).all vR = true then (-1 : Int) else ((pre.length : Int) + (i :: is).findIdx (fun v => !vR v))) = (if is.all vR = true then (-1 : Int) else (((pre ++ [i]).length : Int) + is.findIdx (fun v => !vR v))) := by
    by_cases ha : is.all vR = true
    ·simp [hv, ha]
    ·rw [if_neg (by simp [hv]; simpa using ha), if_neg ha, List.findIdx_cons]
     simp [hv]
     omega
   rw [this]
   exact ih
  ·apply Ev.pos (by simp [hv])
   exact Ev.of (by simp [hv, List.findIdx_cons])
def zgd (code : List S50) (row : List S48) : S48 × Int := if (row.all vR && formedB (row.length : Int) code) = true then evalS row code [] else (zv, 1)
theorem Eval_ev (code : List S50) (row : List S48) (hc : (code.length : Int) ≤ 9223372036854775807) (hrow : (row.length : Int) ≤ 9223372036854775807) : Ev (fun k => zav.f k code row) (out (zgd code row)) := by
 unfold zav.f zgd
 have h1 : Ev (fun k => zbv.f k row) (!row.all vR) := by
  unfold zbv.f zap.f
  refine Ev.bind (evalAny_ev row hrow row [] (by simp)) ?_
  by_cases ha : row.all vR = true
  ·exact Ev.of (by simp [ha])
  ·rw [if_neg ha]
   apply Ev.of
   rw [Bool.not_eq_true] at ha
   rw [ha, decide_eq_true (by first | omega | (simp; done) | (simp; omega))]
   rfl
 refine Ev.bind h1 ?_
 by_cases ha : row.all vR = true
 ·apply Ev.neg (by simp [ha])
  apply Ev.bind (formed_f (row.length : Int) code hc)
  apply Ev.succ
  simp only [zav.j0]
  by_cases hf : formedB (row.length : Int) code = true
  ·rw [if_pos (by simp [ha, hf])]
   apply Ev.neg (by simp [hf])
   apply Ev.succ
   simp only [zav.j1]
   unfold formedB at hf
   cases hS : zgk (row.length : Int) code 0 with
   | none => rw [hS] at hf; cases hf
   | some d =>
    rw [hS] at hf
    simp at hf
    exact eval_ev row hrow code (by omega) code [] [] d (by simp) (by simp) hS (by omega)
  ·rw [if_neg (by simp [hf])]
   apply Ev.pos (by simpa using hf)
   exact Ev.pure _
 ·apply Ev.pos (by simpa using ha)
  apply Ev.succ
  simp only [zav.j0]
  rw [if_neg (by simp [ha])]
  exact Ev.pos trivial (Ev.pure _)
theorem vR_tv (b : Bool) : vR (tv b) = true := by
 cases b <;> (unfold vR tv; simp only [str_nil]; rfl)
theorem vR_rd {xs : List S48} (h : ∀ v ∈ xs, vR v = true) (i : Int) : vR (zak xs i) = true := by
 unfold zak
 rw [List.getD_eq_getElem?_getD]
 cases hg : xs[i.toNat]? with
 | none => exact vR_zv
 | some v => exact h v (List.mem_of_getElem? hg)
theorem zjk (n : Int) (b : Bool) : vR (intS n b).1 = true := by
 unfold intS
 split
 ·exact vR_zv
 ·exact vR_int n
theorem right_do (op : Int) (a b : S48) : vR (doS op a b).1 = true := by
 unfold doS
 split
 ·unfold addS
  split
  ·exact vR_zv
  ·split <;> exact zjk _ _
 ·split
  ·unfold subS
   split
   ·exact vR_zv
   ·split <;> exact zjk _ _
  ·split
   ·unfold mulS
    split
    ·exact vR_zv
    ·split
     ·exact zjk _ _
     ·split
      ·split <;> exact zjk _ _
      ·exact zjk _ _
   ·split
    ·unfold subS
     split
     ·exact vR_zv
     ·split <;> exact zjk _ _
    ·split
     ·show vR (logicS op a b) = true
      unfold logicS
      split
      ·exact vR_tv _
      ·split
       ·exact vR_zv
       ·exact vR_tv _
     ·split
      ·exact vR_tv _
      ·split
       ·exact vR_zv
       ·split <;> exact vR_tv _
theorem badI_val {n : Int} {i : S50} (h : ¬ badI n i = true) (h2 : i.f0 = 2) : vR i.f2 = true := by
 cases hv : vR i.f2 with
 | true => rfl
 | false => exact absurd (by simp [badI, h2, hv]) h
theorem ziq (row : List S48) (hrow : ∀ v ∈ row, vR v = true) (n : Int) : ∀ (is : List S50) (st : List S48) (d e : Int), (∀ v ∈ st, vR v = true) → zgk n is d = some e → vR (evalS row is st).1 = true
 | [], st, d, e, hst, _ => by
  simp only [evalS]
  exact vR_rd hst 0
 | i :: is, st, d, e, hst, hf => by
  simp only [zgk] at hf
  have hb : ¬ badI n i = true := by intro hb; rw [if_pos hb] at hf; cases hf
  rw [if_neg hb] at hf
  have ht : ¬ d < zev i.f0 := by intro ht; rw [if_pos ht] at hf; cases hf
  rw [if_neg ht] at hf
  simp only [evalS]
  split
  ·refine ziq row hrow n is _ _ e ?_ hf
   intro v hv
   rw [List.mem_append, List.mem_singleton] at hv
   rcases hv with hv | rfl
   ·exact hst v hv
   ·exact vR_rd hrow _
  ·split
   ·rename_i h1 h2
    refine ziq row hrow n is _ _ e ?_ hf
    intro v hv
    rw [List.mem_append, List.mem_singleton] at hv
    rcases hv with hv | rfl
    ·exact hst v hv
    ·exact badI_val hb h2
   ·split
    ·split
     ·refine ziq row hrow n is _ _ e ?_ hf
      intro v hv
      rw [List.mem_append, List.mem_singleton] at hv
      rcases hv with hv | rfl
      ·exact hst v (List.mem_of_mem_take hv)
      ·exact right_do _ _ _
     ·exact vR_zv
    ·exact vR_zv
theorem formedB_some {n : Int} {code : List S50} (h : formedB n code = true) : zgk n code 0 = some 1 ∧ (code.length : Int) ≤ 32 := by
 unfold formedB at h
 cases hS : zgk n code 0 with
 | none => rw [hS] at h; cases h
 | some d =>
  rw [hS] at h
  simp at h
  exact ⟨by rw [h.1], by omega⟩
theorem evalTop_right (code : List S50) (row : List S48) : vR (zgd code row).1 = true := by
 unfold zgd
 split
 ·rename_i h
  rw [Bool.and_eq_true] at h
  obtain ⟨h1, h2⟩ := h
  exact ziq row (fun v hv => List.all_eq_true.mp h1 v hv) row.length code [] 0 1 (by simp) (formedB_some h2).1
 ·exact vR_zv
def holdsS (code : List S50) (row : List S48) : Bool × Int := (decide ((zgd code row).1 = tv true), (zgd code row).2)
theorem Holds_ev (code : List S50) (row : List S48) (h0 : code ≠ []) (hc : (code.length : Int) ≤ 9223372036854775807) (hrow : (row.length : Int) ≤ 9223372036854775807) : Ev (fun k => zdi.f k code row) (holdsS code row) := by
 unfold zdi.f
 apply Ev.neg (by cases code with | nil => exact absurd rfl h0 | cons _ _ => simp; omega)
 refine Ev.bind (Eval_ev code row hc hrow) ?_
 rw [zjj]
 simp only [Option.bind_some]
 apply Ev.of
 have := same_eq (zgd code row).1 (tv true)
 simp only [out, holdsS]
 rw [← this]
end Go.Proofs.YtnggdcdiachkpaaDoor.Pure
