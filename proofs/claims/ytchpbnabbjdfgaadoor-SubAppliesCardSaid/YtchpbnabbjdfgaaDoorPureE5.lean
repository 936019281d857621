-- HALVED
import Derived.Test.YtchpbnabbjdfgaaDoorPureE3
namespace Go.Proofs.YtchpbnabbjdfgaaDoor.Pure
open Go.ChangeShapes Go.WideShapes Go.ChangeAt Go.RowKit Go.Proofs.YtchpbnabbjdfgaaDoorW.PrintWords Go.Proofs.YtchpbnabbjdfgaaDoorW.PrintLast Go.Proofs.YtchpbnabbjdfgaaDoor.P Go.Proofs.YtchpbnabbjdfgaaDoor.Open
set_option linter.unusedVariables false
set_option linter.unusedSimpArgs false
def insP (n : S41) : List S41 → List S41
 | [] => [n]
 | x :: l => if x.f3 < n.f3 then x :: insP n l else if x.f3 = n.f3 then x :: l else n :: x :: l
def tupS (s : S33) : Int × Int × List S56 × Int × Int × List S41 := (s.f0, s.f1, s.f2, s.f3, s.f4, s.f5)
def ahead (s : S33) (n : S41) : S33 := if s.f3 = 0 ∨ n.f2 > s.f3 then ⟨s.f0, s.f1, s.f2, n.f2, n.f4, []⟩ else s
def allC (g : List S41) : List S56 := (g.map (·.f5)).flatten
noncomputable def fullS (s : S33) (g : List S41) : S33 := if (g.length : Int) < s.f4 then ⟨s.f0, s.f1, s.f2, s.f3, s.f4, g⟩ else if (zfo [] (allC g)).2 = 0 then ⟨s.f0, s.f3, (zfo [] (allC g)).1, 0, 0, []⟩ else ⟨s.f0, s.f1, s.f2, 0, 0, []⟩
noncomputable def gatherS (s : S33) (n : S41) : S33 := if n.f2 = (ahead s n).f3 ∧ n.f4 = (ahead s n).f4 then fullS (ahead s n) (insP n (ahead s n).f5) else ahead s n
noncomputable def nextS (s : S33) (n : S41) : S33 := if n.f2 = s.f1 + 1 ∧ (zfo s.f2 n.f5).2 = 0 then (if s.f3 ≤ n.f2 then ⟨s.f0, n.f2, (zfo s.f2 n.f5).1, 0, 0, []⟩ else ⟨s.f0, n.f2, (zfo s.f2 n.f5).1, s.f3, s.f4, s.f5⟩) else s
noncomputable def hearS (s : S33) (n : S41) : S33 := if rightS s = true ∧ rnS n = true ∧ n.f1 = s.f0 then (if n.f0 = 1 then nextS s n else if n.f0 = 2 then (if n.f2 > s.f1 then gatherS s n else s) else s) else s
structure Right (s : S33) : Prop where
 id : 1 ≤ s.f0 ∧ s.f0 ≤ 4
 pos : 0 ≤ s.f1 ∧ s.f1 ≤ 549755813888
 st : zed s.f2 = true
 got : (s.f3 = 0 ∧ s.f4 = 0 ∧ s.f5 = []) ∨ (s.f5.Pairwise (fun a b => a.f3 < b.f3) ∧ (∀ n ∈ s.f5, pieceS s n = true) ∧ s.f3 > s.f1 ∧ 1 ≤ s.f4 ∧ s.f4 ≤ 16 ∧ 1 ≤ s.f5.length ∧ (s.f5.length : Int) < s.f4)
theorem state_len {l : List S56} (h : zed l = true) : l.length ≤ 16 := by
 unfold zed zfj at h
 simp only [Bool.and_eq_true, decide_eq_true_eq] at h
 exact h.2.1
def okSb (Bs Bn : Nat) (s : S33) : Prop := okG Bs s.f2 ∧ s.f5.length ≤ 1000 ∧ ∀ n ∈ s.f5, okG Bn n.f5
theorem okSb.sub {Bs Bn : Nat} {s : S33} (h : okSb Bs Bn s) : okSub (max Bs Bn) s := ⟨h.1.mono (Nat.le_max_left _ _), h.2.1, fun n hn => (h.2.2 n hn).mono (Nat.le_max_right _ _)⟩
theorem foldA_ok {M : Nat} : ∀ {r out : List S56} {N B : Nat}, okA N B out → (∀ c ∈ r, c.f0.size ≤ 100 ∧ okL c.f1 ∧ c.f1.length ≤ M) → B + M * r.length ≤ 1000000 → okA (N + r.length) (B + M * r.length) (zik out r).1
 | [], out, N, B, h, _, _ => by simpa [zik] using h
 | c :: r, out, N, B, h, hr, hB => by
  rw [List.length_cons] at hB ⊢
  have hMr : M * (r.length + 1) = M * r.length + M := Nat.mul_succ _ _
  simp only [zik]
  split
  ·have := foldA_ok (addC_ok h (hr c List.mem_cons_self) (by omega)) (fun d hd => hr d (List.mem_cons_of_mem _ hd)) (by omega : B + M + M * r.length ≤ 1000000)
   refine ⟨by have := this.1; omega, fun d hd => ?_⟩
   have := this.2 d hd
   exact ⟨this.1, this.2.1, by omega⟩
  ·exact ⟨Nat.zero_le _, fun d hd => by cases hd⟩
theorem item_len {l : List S56} (h : zfj l = true) : l.length ≤ 16 := by
 unfold zfj at h
 rw [Bool.and_eq_true] at h
 exact of_decide_eq_true h.1
theorem applyS_state {old more : List S56} (h : (zfo old more).2 = 0) : zed (zfo old more).1 = true ∧ zed old = true ∧ zfj more = true ∧ (zik old more).2 = 0 ∧ (zfo old more).1 = (zik old more).1.filter ne0 := by
 unfold zfo finA at h ⊢
 by_cases h1 : zed old = true
 ·rw [if_pos h1] at h ⊢
  by_cases h2 : zfj more = true
  ·rw [if_pos h2] at h ⊢
   by_cases h3 : (zik old more).2 = 0
   ·rw [if_pos h3] at h ⊢
    by_cases h4 : zed ((zik old more).1.filter ne0) = true
    ·rw [if_pos h4]; exact ⟨h4, h1, h2, h3, rfl⟩
    ·rw [if_neg h4] at h; exact absurd h (by decide)
   ·rw [if_neg h3] at h; exact absurd h h3
  ·rw [if_neg h2] at h; exact absurd h (by decide)
 ·rw [if_neg h1] at h; exact absurd h (by decide)
theorem applyS_err {old more : List S56} (h : (zfo old more).2 ≠ 0) : (zfo old more).1 = [] := by
 unfold zfo finA at h ⊢
 by_cases h1 : zed old = true
 ·rw [if_pos h1] at h ⊢
  by_cases h2 : zfj more = true
  ·rw [if_pos h2] at h ⊢
   by_cases h3 : (zik old more).2 = 0
   ·rw [if_pos h3] at h ⊢
    by_cases h4 : zed ((zik old more).1.filter ne0) = true
    ·rw [if_pos h4] at h; exact absurd rfl h
    ·rw [if_neg h4]
   ·rw [if_neg h3]
  ·rw [if_neg h2]
 ·rw [if_neg h1]
theorem applyS_ok {B M : Nat} {old more : List S56} (ho : okG B old) (hm : okG M more) (hB : B + M * 16 ≤ 1000000) : okG (B + M * 16) (zfo old more).1 ∧ (zfo old more).1.length ≤ 16 := by
 by_cases h : (zfo old more).2 = 0
 ·obtain ⟨h1, h2, h3, h4, h5⟩ := applyS_state h
  have h16 := item_len h3
  have hl := state_len h1
  have := Nat.mul_le_mul_left M h16
  have h6 := foldA_ok (N := 1000) (r := more) (out := old) ho hm.2 (by omega)
  refine ⟨⟨by omega, fun c hc => ?_⟩, hl⟩
  rw [h5] at hc
  have h7 := h6.2 c (List.mem_filter.1 hc).1
  exact ⟨h7.1, h7.2.1, by omega⟩
 ·rw [applyS_err h]
  exact ⟨⟨Nat.zero_le _, fun c hc => by cases hc⟩, Nat.zero_le _⟩
end Go.Proofs.YtchpbnabbjdfgaaDoor.Pure
