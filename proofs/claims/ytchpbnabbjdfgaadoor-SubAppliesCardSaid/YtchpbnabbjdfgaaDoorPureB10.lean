-- HALVED
import Derived.Test.YtchpbnabbjdfgaaDoorPureRef
import Derived.Test.YtchpbnabbjdfgaaDoorPureRefN
import Derived.Test.YtchpbnabbjdfgaaDoorPx0
import Derived.Test.YtchpbnabbjdfgaaDoorPx112
namespace Go.Proofs.YtchpbnabbjdfgaaDoor.Pure
open Go.ChangeShapes Go.WideShapes Go.ChangeAt Go.RowKit Go.Proofs.YtchpbnabbjdfgaaDoorW.PrintWords Go.Proofs.YtchpbnabbjdfgaaDoorW.PrintLast Go.Proofs.YtchpbnabbjdfgaaDoor.P Go.Proofs.YtchpbnabbjdfgaaDoor.Open
set_option linter.unusedVariables false
set_option linter.unusedSimpArgs false
def zhd (seen : List (List S105)) (r : List S105) : Prop := match seen.getLast? with | none => True | some x => LtR x r
instance (seen : List (List S105)) (r : List S105) : Decidable (zhd seen r) := by unfold zhd; split <;> infer_instance
def lessOf (r : List S105) : Option (List S105) → Option (List S105)
 | none => some r
 | some x => if LtR r x then some r else some x
def bestOf (seen : List (List S105)) : Option (List S105) → List S81 → Option (List S105)
 | b, [] => b
 | b, c :: t => bestOf seen (if zhd seen c.f0 then lessOf c.f0 b else b) t
def relB (l : List S81) (b : Int) (br : Option (List S105)) : Prop := match br with | none => b = -1 | some r => ∃ j : Nat, b = (j : Int) ∧ ∃ c, l[j]? = some c ∧ c.f0 = r
theorem rdT {l : List S81} {j : Nat} {c : S81} (h : l[j]? = some c) : zal l (j : Int) = c ∧ j < l.length := by
 refine ⟨?_, (List.getElem?_eq_some_iff.1 h).1⟩
 unfold zal
 rw [Int.toNat_natCast, List.getD_eq_getElem?_getD, h]
 rfl
theorem getLast_rd {seen : List (List S105)} {x : List S105} (h : seen.getLast? = some x) (hl : seen.length ≤ 1000000) : 0 < seen.length ∧ rd_L3 seen (wrap64 ((seen.length : Int) - 1)) = x ∧ 0 ≤ wrap64 ((seen.length : Int) - 1) ∧ wrap64 ((seen.length : Int) - 1) < (seen.length : Int) := by
 have hne : seen ≠ [] := fun e => by rw [e] at h; cases h
 have hpos : 0 < seen.length := List.length_pos_iff.2 hne
 rw [w64 (by omega) (by omega)]
 refine ⟨hpos, ?_, by omega, by omega⟩
 unfold rd_L3
 rw [show ((seen.length : Int) - 1).toNat = seen.length - 1 by omega, List.getD_eq_getElem?_getD]
 rw [List.getLast?_eq_getElem?] at h
 rw [h]
 rfl
theorem best_go (l : List S81) (hl : okL l) (out : List S81) (seen : List (List S105)) (hs : seen.length ≤ 1000000) (hso : ∀ r ∈ seen, okR r) (V : List S81 × Int) (F : Nat → Int → Option (List S81 × Int))
  (hF : ∀ k b, zab.l2 (k + 1) l out seen b (l.length : Int) = F k b) :
  ∀ (t : List S81) (i : Nat) (b : Int) (br : Option (List S105)), l.drop i = t → i ≤ l.length → relB l b br → (∀ b', relB l b' (bestOf seen br t) → Ev (fun k => F k b') V) → Ev (fun k => zab.l2 k l out seen b (i : Int)) V
 | [], i, b, br, h, hi, hr, hk => by
  have : i = l.length := by have := List.drop_eq_nil_iff.1 h; omega
  subst this
  apply Ev.succ
  simp only [hF]
  exact hk b hr
 | c :: t, i, b, br, h, hi, hr, hk => by
  obtain ⟨h1, h2, h3, h4, h5⟩ := ds h
  have hll := hl.1
  have hc := hl.2 c (List.mem_of_getElem? h5)
  have e : zal l (i : Int) = c := h2 _
  have step : ∀ b' br', relB l b' br' → br' = (if zhd seen c.f0 then lessOf c.f0 br else br) → Ev (fun k => zab.l2 k l out seen b' ((i + 1 : Nat) : Int)) V := by
   intro b' br' hr' he
   refine best_go l hl out seen hs hso V F hF t (i + 1) b' br' h3 (by omega) hr' (fun b'' hb'' => hk b'' ?_)
   rw [he] at hb''
   exact hb''
  have take_ : zhd seen c.f0 → Ev (fun k => zab.j3 k l out seen b (i : Int) false) V := by
   intro hcand
   apply Ev.succ
   simp only [zab.j3]
   rw [ws (by omega), e]
   apply Ev.neg (by decide)
   cases br with
   | none =>
    have hb : b = -1 := hr
    subst hb
    refine Ev.pos (by decide) (step _ (some c.f0) ⟨i, rfl, c, h5, rfl⟩ ?_)
    rw [if_pos hcand]; rfl
   | some r =>
    obtain ⟨j, rfl, d, hd, rfl⟩ := hr
    obtain ⟨ed, hj⟩ := rdT hd
    have hdo := hl.2 d (List.mem_of_getElem? hd)
    rw [ed]
    refine Ev.neg (by omega) (Ev.pos (nn i) (Ev.pos h1 (Ev.pos (nn j) (Ev.pos (by omega) (Ev.bind (refrows_ev c.f0 d.f0 hc.1 hdo.1) ?_)))))
    by_cases hlt : LtR c.f0 d.f0
    ·refine Ev.pos (rowsS_m1.2 hlt) (step _ (some c.f0) ⟨i, rfl, c, h5, rfl⟩ ?_)
     rw [if_pos hcand]; simp only [lessOf, if_pos hlt]
    ·refine Ev.neg (fun h => hlt (rowsS_m1.1 h)) (step _ (some d.f0) ⟨j, rfl, d, hd, rfl⟩ ?_)
     rw [if_pos hcand]; simp only [lessOf, if_neg hlt]
  apply Ev.succ
  simp only [zab.l2]
  rw [e]
  apply Ev.pos h1
  cases hlast : seen.getLast? with
  | none =>
   have : seen = [] := List.getLast?_eq_none_iff.1 hlast
   subst this
   exact Ev.neg (by decide) (take_ (by unfold zhd; rw [hlast]; trivial))
  | some x =>
   obtain ⟨g1, g2, g3, g4⟩ := getLast_rd hlast hs
   have hxo := hso x (List.mem_of_getLast? hlast)
   rw [g2]
   refine Ev.pos (by omega) (Ev.pos (nn i) (Ev.pos g3 (Ev.pos g4 (Ev.bind (refrows_ev c.f0 x hc.1 hxo) ?_))))
   by_cases hcand : LtR x c.f0
   ·have : (zeh c.f0 x != 1) = false := by rw [rowsS_p1.2 hcand]; rfl
    rw [this]
    exact take_ (by unfold zhd; rw [hlast]; exact hcand)
   ·have : (zeh c.f0 x != 1) = true := by rw [bne_iff_ne]; exact fun h => hcand (rowsS_p1.1 h)
    rw [this]
    apply Ev.succ
    simp only [zab.j3]
    rw [ws (by omega)]
    refine Ev.pos trivial (step b br hr ?_)
    rw [if_neg (by unfold zhd; rw [hlast]; exact hcand)]
theorem zgg (seen : List (List S105)) : ∀ (t : List S81) (b : Option (List S105)), match bestOf seen b t with
  | none => b = none ∧ ∀ c ∈ t, ¬ zhd seen c.f0
  | some r => (b = some r ∨ ∃ c ∈ t, c.f0 = r ∧ zhd seen r) ∧ (∀ x, b = some x → ¬ LtR x r) ∧ (∀ c ∈ t, zhd seen c.f0 → ¬ LtR c.f0 r)
 | [], none => ⟨rfl, fun c hc => by cases hc⟩
 | [], some r => ⟨.inl rfl, fun x hx => by injection hx with hx; rw [hx]; exact LtR.irr _, fun c hc => by cases hc⟩
 | c :: t, b => by
  simp only [bestOf]
  by_cases hc : zhd seen c.f0
  ·rw [if_pos hc]
   cases b with
   | none =>
    have ih := zgg seen t (some c.f0)
    simp only [lessOf]
    split at ih
    ·exact absurd ih.1 (by simp)
    ·obtain ⟨i1, i2, i3⟩ := ih
     rename_i r heq
     refine ⟨.inr ?_, (fun x hx => by cases hx), fun d hd => ?_⟩
     ·rcases i1 with h | ⟨d, hd, e⟩
      ·injection h with h; exact ⟨c, List.mem_cons_self, h, h ▸ hc⟩
      ·exact ⟨d, List.mem_cons_of_mem _ hd, e⟩
     ·rcases List.mem_cons.1 hd with rfl | hd
      ·exact fun _ => i2 _ rfl
      ·exact i3 d hd
   | some x =>
    simp only [lessOf]
    by_cases hlt : LtR c.f0 x
    ·rw [if_pos hlt]
     have ih := zgg seen t (some c.f0)
     split at ih
     ·exact absurd ih.1 (by simp)
     ·obtain ⟨i1, i2, i3⟩ := ih
      rename_i r heq
      refine ⟨.inr ?_, fun y hy => ?_, fun d hd => ?_⟩
      ·rcases i1 with h | ⟨d, hd, e⟩
       ·injection h with h; exact ⟨c, List.mem_cons_self, h, h ▸ hc⟩
       ·exact ⟨d, List.mem_cons_of_mem _ hd, e⟩
      ·injection hy with hy
       subst hy
       exact fun h => i2 _ rfl (hlt.tr h)
      ·rcases List.mem_cons.1 hd with rfl | hd
       ·exact fun _ => i2 _ rfl
       ·exact i3 d hd
    ·rw [if_neg hlt]
     have ih := zgg seen t (some x)
     split at ih
     ·exact absurd ih.1 (by simp)
     ·obtain ⟨i1, i2, i3⟩ := ih
      rename_i r heq
      refine ⟨?_, i2, fun d hd => ?_⟩
      ·rcases i1 with h | ⟨d, hd, e⟩
       ·exact .inl h
       ·exact .inr ⟨d, List.mem_cons_of_mem _ hd, e⟩
      ·rcases List.mem_cons.1 hd with rfl | hd
       ·intro _ h
        rcases LtR.tri x r with h' | h' | h'
        ·exact i2 x rfl h'
        ·rw [h'] at hlt; exact hlt h
        ·exact hlt (h.tr h')
       ·exact i3 d hd
  ·rw [if_neg hc]
   have ih := zgg seen t b
   split at ih
   ·rename_i heq
    refine ⟨ih.1, fun d hd => ?_⟩
    rcases List.mem_cons.1 hd with rfl | hd
    ·exact hc
    ·exact ih.2 d hd
   ·obtain ⟨i1, i2, i3⟩ := ih
    rename_i r heq
    refine ⟨?_, i2, fun d hd => ?_⟩
    ·rcases i1 with h | ⟨d, hd, e⟩
     ·exact .inl h
     ·exact .inr ⟨d, List.mem_cons_of_mem _ hd, e⟩
    ·rcases List.mem_cons.1 hd with rfl | hd
     ·exact fun h => absurd h hc
     ·exact i3 d hd
theorem cand_iff {pre rest : List (List S105)} (hp : (pre ++ rest).Pairwise LtR) {x : List S105} (hx : x ∈ pre ++ rest) : zhd pre x ↔ x ∈ rest := by
 obtain ⟨p1, p2, p3⟩ := List.pairwise_append.1 hp
 unfold zhd
 cases hlast : pre.getLast? with
 | none =>
  have : pre = [] := List.getLast?_eq_none_iff.1 hlast
  subst this
  simpa using hx
 | some y =>
  have hy := List.mem_of_getLast? hlast
  constructor
  ·intro hlt
   rcases List.mem_append.1 hx with h | h
   ·exfalso
    obtain ⟨q, hq⟩ := List.getLast?_eq_some_iff.1 hlast
    rw [hq] at h p1
    rcases List.mem_append.1 h with h | h
    ·exact hlt.asym ((List.pairwise_append.1 p1).2.2 x h y (by simp))
    ·rw [List.mem_singleton.1 h] at hlt; exact LtR.irr _ hlt
   ·exact h
  ·intro h
   exact p3 y hy x h
theorem refS_go (l : List S81) (hl : okL l) (hf : ∀ c ∈ l, fit c.f1 = true) : ∀ (rest pre : List (List S105)) (out : List S81), pre ++ rest = dis l → out.length ≤ pre.length → Ev (fun k => zab.l1 k l out pre) (more out (zfk (cnt l) rest)) := by
 intro rest
 induction rest with
 | nil =>
  intro pre out hd ho
  have hpw : (pre ++ ([] : List (List S105))).Pairwise LtR := by rw [hd]; exact dis_pw
  have hpl : pre.length ≤ 1000000 := by have := dis_len l; rw [← hd] at this; simp at this; have := hl.1; omega
  apply Ev.succ
  simp only [zab.l1]
  refine best_go l hl out pre hpl (fun r hr => ?_) _ (fun k b => zab.l2 (k + 1) l out pre b (l.length : Int)) (fun _ _ => rfl) l 0 (-1) none rfl (Nat.zero_le _) rfl (fun b' hb' => ?_)
  ·obtain ⟨c, hc, e⟩ := zfy.1 (show r ∈ dis l by rw [← hd]; exact List.mem_append_left _ hr)
   exact e ▸ (hl.2 c hc).1
  ·have hs := zgg pre l none
   have hnone : bestOf pre none l = none := by
    cases hb : bestOf pre none l with
    | none => rfl
    | some r =>
     rw [hb] at hs
     obtain ⟨h1, _, _⟩ := hs
     rcases h1 with h | ⟨c, hc, e, hcand⟩
     ·cases h
     ·have : r ∈ pre ++ [] := by rw [hd, zfy]; exact ⟨c, hc, e⟩
      have := (cand_iff hpw this).1 hcand
      cases this
   rw [hnone] at hb'
   have hb1 : b' = -1 := hb'
   subst hb1
   simp only [zab.l2]
   have : more out (zfk (cnt l) []) = (out, 0) := by simp [more, zfk]
   rw [this]
   exact Ev.neg (by omega) (Ev.pos (by decide) (Ev.pure _))
 | cons r rest ih =>
  intro pre out hd ho
  have hpw : (pre ++ r :: rest).Pairwise LtR := by rw [hd]; exact dis_pw
  have hdl : (pre ++ r :: rest).length ≤ 1000000 := by rw [hd]; have := dis_len l; have := hl.1; omega
  rw [List.length_append, List.length_cons] at hdl
  apply Ev.succ
  simp only [zab.l1]
  refine best_go l hl out pre (by omega) (fun x hx => ?_) _ (fun k b => zab.l2 (k + 1) l out pre b (l.length : Int)) (fun _ _ => rfl) l 0 (-1) none rfl (Nat.zero_le _) rfl (fun b' hb' => ?_)
  ·obtain ⟨c, hc, e⟩ := zfy.1 (show x ∈ dis l by rw [← hd]; exact List.mem_append_left _ hx)
   exact e ▸ (hl.2 c hc).1
  ·have hs := zgg pre l none
   have hrm : r ∈ dis l := by rw [← hd]; simp
   obtain ⟨c0, hc0, e0⟩ := zfy.1 hrm
   have hcr : zhd pre r := (cand_iff hpw (by simp)).2 (by simp)
   have hsome : bestOf pre none l = some r := by
    cases hb : bestOf pre none l with
    | none =>
     rw [hb] at hs
     exact absurd (e0 ▸ hcr) (hs.2 c0 hc0)
    | some x =>
     rw [hb] at hs
     obtain ⟨h1, _, h3⟩ := hs
     rcases h1 with h | ⟨c, hc, e, hcand⟩
     ·cases h
     ·have hx : x ∈ pre ++ r :: rest := by rw [hd, zfy]; exact ⟨c, hc, e⟩
      have hx' := (cand_iff hpw hx).1 hcand
      rcases List.mem_cons.1 hx' with rfl | hx'
      ·rfl
      ·have h4 := h3 c0 hc0 (by rw [e0]; exact hcr)
       rw [e0] at h4
       exact absurd ((List.pairwise_cons.1 (List.pairwise_append.1 hpw).2.1).1 x hx') h4
   rw [hsome] at hb'
   obtain ⟨j, rfl, c, hcj, rfl⟩ := hb'
   obtain ⟨ec, hj⟩ := rdT hcj
   have hco := hl.2 c (List.mem_of_getElem? hcj)
   simp only [zab.l2]
   rw [ec]
   have hseen : pre ++ [c.f0] ++ rest = dis l := by rw [← hd]; simp
   refine Ev.neg (by omega) (Ev.neg (by omega) (Ev.pos (nn j) (Ev.pos (by omega) (Ev.pos (by omega) (Ev.bind (Ev.of rfl) (Ev.bind (refN_ev l hl c.f0 hf) ?_))))))
   rw [rfits_eq]
   refine Ev.bind (Ev.of rfl) ?_
   simp only [zfk]
   by_cases hfi : fit (cnt l c.f0) = true
   ·rw [if_pos hfi]
    refine Ev.pos hfi ?_
    by_cases h0 : cnt l c.f0 = 0
    ·have h2 := ih (pre ++ [c.f0]) out hseen (by rw [List.length_append]; omega)
     refine Ev.pos h0 ?_
     have e2 : more out ((zfk (cnt l) rest).map (fun o => if cnt l c.f0 = 0 then o else ⟨c.f0, cnt l c.f0⟩ :: o)) = more out (zfk (cnt l) rest) := by
      cases zfk (cnt l) rest with
      | none => rfl
      | some o => simp only [Option.map_some, if_pos h0]
     rw [e2]
     exact h2
    ·have h2 := ih (pre ++ [c.f0]) (out ++ [⟨c.f0, cnt l c.f0⟩]) hseen (by rw [List.length_append, List.length_append]; simp only [List.length_cons, List.length_nil]; omega)
     refine Ev.neg h0 (Ev.pos (by omega) ?_)
     have e2 : more out ((zfk (cnt l) rest).map (fun o => if cnt l c.f0 = 0 then o else ⟨c.f0, cnt l c.f0⟩ :: o)) = more (out ++ [⟨c.f0, cnt l c.f0⟩]) (zfk (cnt l) rest) := by
      cases zfk (cnt l) rest with
      | none => rfl
      | some o => simp only [Option.map_some, if_neg h0, more, List.append_assoc, List.cons_append, List.nil_append]
     rw [e2]
     exact h2
   ·rw [if_neg hfi]
    exact Ev.neg hfi (Ev.pure _)
theorem refS0_go (l : List S81) (hl : okL l) : ∀ (t : List S81) (i : Nat), l.drop i = t → (∀ c ∈ l.take i, zgk c = true) → Ev (fun k => zab.l0 k l (i : Int)) (zgb l)
 | [], i, h, hpre => by
  have hall : l.all zgk = true := by
   rw [List.all_eq_true]
   intro c hc
   refine hpre c ?_
   rw [List.take_of_length_le (List.drop_eq_nil_iff.1 h)]
   exact hc
  apply Ev.succ
  simp only [zab.l0]
  apply Ev.neg (dn h)
  unfold zgb
  rw [if_pos hall]
  have e : ∀ o, more [] o = fin o := fun o => by cases o <;> rfl
  rw [← e]
  refine refS_go l hl (fun c hc => ?_) _ [] [] rfl (Nat.le_refl _)
  have := List.all_eq_true.1 hall c hc
  unfold zgk at this
  rw [Bool.and_eq_true] at this
  exact this.1
 | c :: t, i, h, hpre => by
  obtain ⟨h1, h2, h3, h4, h5⟩ := ds h
  have hll := hl.1
  have hm := List.mem_of_getElem? h5
  have hc := hl.2 c hm
  apply Ev.succ
  simp only [zab.l0]
  have e : zal l (i : Int) = c := h2 _
  rw [e, ws (by omega), rfits_eq]
  refine Ev.pos h1 (Ev.pos (nn i) (Ev.bind (refright_ev c.f0 hc.1) ?_))
  have bad : zgk c = false → zgb l = ([], 1) := by
   intro hb
   unfold zgb
   rw [if_neg]
   intro hall
   have := List.all_eq_true.1 hall c hm
   rw [hb] at this; cases this
  by_cases hr : rowR c.f0 = true
  ·refine Ev.pos hr (Ev.bind (Ev.of rfl) ?_)
   by_cases hfi : fit c.f1 = true
   ·refine Ev.pos hfi (refS0_go l hl t (i + 1) h3 (fun d hd => ?_))
    rw [List.take_succ_eq_append_getElem h4] at hd
    rcases List.mem_append.1 hd with hd | hd
    ·exact hpre d hd
    ·rw [List.mem_singleton.1 hd]
     have : l[i] = c := by rw [List.getElem?_eq_getElem h4] at h5; exact Option.some.inj h5
     rw [this]
     unfold zgk
     rw [hfi, hr]; rfl
   ·rw [bad (by unfold zgk; rw [Bool.eq_false_iff.2 hfi]; rfl)]
    exact Ev.neg hfi (Ev.pure _)
  ·rw [bad (by unfold zgk; rw [Bool.eq_false_iff.2 hr, Bool.and_false])]
   exact Ev.neg hr (Ev.pure _)
theorem refS_ev (l : List S81) (hl : okL l) : Ev (fun k => zab.f k l) (zgb l) := refS0_go l hl l 0 rfl (fun c hc => by cases hc)
end Go.Proofs.YtchpbnabbjdfgaaDoor.Pure
