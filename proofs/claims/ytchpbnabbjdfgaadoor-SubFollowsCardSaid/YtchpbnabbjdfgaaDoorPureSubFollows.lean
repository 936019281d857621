-- HALVED
import Derived.Test.YtchpbnabbjdfgaaDoorPureE8
import Derived.Test.YtchpbnabbjdfgaaDoorStatSubFollows
import Derived.Test.YtchpbnabbjdfgaaDoorPx0
import Derived.Test.YtchpbnabbjdfgaaDoorPx98
import Derived.Test.YtchpbnabbjdfgaaDoorPx103
namespace Go.Proofs.YtchpbnabbjdfgaaDoor.Pure
open Go.ChangeShapes Go.WideShapes Go.ChangeAt Go.RowKit Go.Proofs.YtchpbnabbjdfgaaDoorW.PrintWords Go.Proofs.YtchpbnabbjdfgaaDoorW.PrintLast Go.Proofs.YtchpbnabbjdfgaaDoor.P Go.Proofs.YtchpbnabbjdfgaaDoor.Open
set_option linter.unusedVariables false
set_option linter.unusedSimpArgs false
theorem outOf_some {g : List S105 → Int} : ∀ {D : List (List S105)}, (∀ r ∈ D, fit (g r) = true) → ∃ o, zgk g D = some o
 | [], _ => ⟨[], rfl⟩
 | r :: D, h => by
  obtain ⟨o, ho⟩ := outOf_some (D := D) (fun x hx => h x (List.mem_cons_of_mem _ hx))
  simp only [zgk]
  rw [if_pos (h r List.mem_cons_self), ho]
  exact ⟨_, rfl⟩
theorem sortS_id {l : List S81} (h : bagR l = true) : zhd l = (l, 0) := by
 obtain ⟨h1, h2⟩ := bagR_all h
 have hp := rise_lt l h2
 have ha : l.all zik = true := List.all_eq_true.2 fun c hc => by
  unfold zik
  rw [(h1 c hc).1, (h1 c hc).2.2]; rfl
 have hf : ∀ r, fit (cnt l r) = true := fun r => by
  by_cases hx : ∃ c ∈ l, c.f0 = r
  ·obtain ⟨c, hc, e⟩ := hx
   obtain ⟨i, hi, rfl⟩ := List.getElem_of_mem hc
   rw [cnt_at hp (List.getElem?_eq_getElem hi) e]
   exact (h1 _ hc).1
  ·rw [zih fun c hc e => hx ⟨c, hc, e⟩]; rfl
 obtain ⟨o, ho⟩ := outOf_some (g := cnt l) (D := dis l) (fun r _ => hf r)
 have e0 : (zhd l).2 = 0 := by unfold zhd; rw [if_pos ha, ho]; rfl
 have e1 : (zhd l).1 = l := bag_uniq sortS_right h (fun r => sortS_cnt e0 r)
 exact Prod.ext e1 e0
theorem sum_two {a b : List S81} (ha : bagR a = true) (hb : bagR b = true) : sumS [a, b] = zhd (a ++ b) := by
 unfold sumS
 rw [if_pos (by simp [ha, hb])]
 simp
theorem good_parts {c : S56} (h : goodC c = true) : nm c.f0 = true ∧ ne0 c = true ∧ c.f1.length ≠ 0 ∧ bagR c.f1 = true := by
 unfold goodC at h
 simp only [Bool.and_eq_true] at h
 have : c.f1.length ≠ 0 := fun e => by
  have := List.eq_nil_of_length_eq_zero e
  rw [this] at h; exact absurd h.2.1 (by decide)
 exact ⟨h.1, by unfold ne0; simpa using this, this, h.2.2⟩
theorem addC_last (c : S56) (hb : bagR c.f1 = true) : ∀ out : List S56, (∀ x ∈ out, ltN x.f0 c.f0) → addC out c = (out ++ [c], 0)
 | [], _ => by simp only [addC]; rw [sum_two rfl hb, List.nil_append, sortS_id hb]; rfl
 | d :: l, h => by
  simp only [addC]
  rw [if_pos (h d List.mem_cons_self), addC_last c hb l fun x hx => h x (List.mem_cons_of_mem _ hx)]
  rfl
theorem foldA_self : ∀ (r out : List S56), (out ++ r).Pairwise (fun a b => ltN a.f0 b.f0) → (∀ c ∈ r, goodC c = true) → zil out r = (out ++ r, 0)
 | [], out, _, _ => by simp only [zil, List.append_nil]
 | c :: r, out, hp, hg => by
  have h1 := addC_last c (good_parts (hg c List.mem_cons_self)).2.2.2 out fun x hx => (List.pairwise_append.1 hp).2.2 x hx c List.mem_cons_self
  simp only [zil]
  rw [h1, if_pos rfl, foldA_self r (out ++ [c]) (by rw [List.append_assoc]; exact hp) (fun d hd => hg d (List.mem_cons_of_mem _ hd)), List.append_assoc]
  rfl
theorem apply_self {x : List S56} (h : zef x = true) : zdr [] x = (x, 0) := by
 obtain ⟨hp, hg⟩ := state_parts h
 have hi : zgd x = true := by unfold zef at h; simp only [Bool.and_eq_true] at h; exact h.2
 unfold zdr
 rw [if_pos zhe, if_pos hi, foldA_self x [] hp hg]
 unfold finA
 have e0 : x.filter ne0 = x := List.filter_eq_self.2 fun y hy => (good_parts (hg y hy)).2.1
 simp only [List.nil_append, e0]
 rw [if_pos trivial, if_pos h]
def cutN (p : Int) (x : List S56) : List S41 := if x = [] then [⟨2, 1, p, 0, 1, []⟩] else (List.range x.length).map fun i : Nat => ⟨2, 1, p, (i : Int), (x.length : Int), (x.drop i).take 1⟩
theorem cutN_mem {p : Int} {x : List S56} {n : S41} (h : n ∈ cutN p x) : n.f0 = 2 ∧ n.f1 = 1 ∧ n.f2 = p ∧ (x = [] → n.f3 = 0 ∧ n.f4 = 1 ∧ n.f5 = []) ∧ (x ≠ [] → 0 ≤ n.f3 ∧ n.f3 < x.length ∧ n.f4 = x.length ∧ n.f5 = (x.drop n.f3.toNat).take 1) := by
 unfold cutN at h
 by_cases hx : x = []
 ·rw [if_pos hx, List.mem_singleton] at h
  subst h
  exact ⟨rfl, rfl, rfl, fun _ => ⟨rfl, rfl, rfl⟩, fun h => absurd hx h⟩
 ·rw [if_neg hx] at h
  obtain ⟨i, hi, rfl⟩ := List.mem_map.1 h
  have := List.mem_range.1 hi
  exact ⟨rfl, rfl, rfl, fun h => absurd h hx, fun _ => ⟨nn i, by show (i : Int) < _; omega, rfl, rfl⟩⟩
theorem cut_go {p : Int} (x : List S56) (hl : x.length ≤ 1000) : ∀ (d i : Nat), x.length - i = d → i ≤ x.length → Ev (fun k => zbv.l0 k 1 p x ((List.range i).map fun i : Nat => ⟨2, 1, p, (i : Int), (x.length : Int), (x.drop i).take 1⟩) (x.length : Int) (i : Int)) ((List.range x.length).map fun i : Nat => ⟨2, 1, p, (i : Int), (x.length : Int), (x.drop i).take 1⟩)
 | 0, i, hd, hi => by
  apply Ev.succ
  simp only [zbv.l0]
  obtain rfl : i = x.length := by omega
  exact Ev.neg (by omega) (Ev.pure _)
 | d + 1, i, hd, hi => by
  have ih := cut_go (p := p) x hl d (i + 1) (by omega) (by omega)
  apply Ev.succ
  simp only [zbv.l0]
  rw [ws (by omega)]
  refine Ev.pos (by omega) (Ev.pos (nn i) (Ev.pos (by omega) (Ev.pos (by omega) (Ev.pos (by rw [List.length_map, List.length_range]; omega) ?_))))
  have e : (x.take (((i + 1 : Nat) : Int)).toNat).drop ((i : Int)).toNat = (x.drop i).take 1 := by
   rw [Int.toNat_natCast, Int.toNat_natCast, List.drop_take]
   congr 1; omega
  rw [e]
  rw [List.range_succ, List.map_append] at ih
  exact ih
theorem cut_ev {B : Nat} (p : Int) (h0 : 0 ≤ p) (h1 : p ≤ 549755813888) (x : List S56) (hx : okG B x) (hi : zgd x = true) : Ev (fun k => zbv.f k 1 p x) (cutN p x) := by
 unfold zbv.f cutN
 have e : zgu.f 1 = some true := rfl
 rw [e]
 refine Ev.bind (Ev.of rfl) (Ev.pos rfl (Ev.neg (by omega) (Ev.neg (by omega) (Ev.bind (fitem_ev _ hx) ?_))))
 rw [hi]
 apply Ev.succ
 simp only [zbv.j0]
 refine Ev.neg (by decide) ?_
 by_cases hn : x = []
 ·rw [if_pos hn]; subst hn; exact Ev.pos rfl (Ev.pure _)
 ·rw [if_neg hn]
  refine Ev.neg (fun h => hn (List.eq_nil_of_length_eq_zero (by omega))) ?_
  exact cut_go x hx.1 x.length 0 rfl (Nat.zero_le _)
theorem pw_len : ∀ (g : List S41) (lo hi : Int), g.Pairwise (fun a b => a.f3 < b.f3) → (∀ n ∈ g, lo ≤ n.f3 ∧ n.f3 < hi) → lo ≤ hi → (g.length : Int) ≤ hi - lo
 | [], lo, hi, _, _, h => by simp; omega
 | n :: g, lo, hi, hp, hb, h => by
  obtain ⟨p1, p2⟩ := List.pairwise_cons.1 hp
  have hn := hb n List.mem_cons_self
  have := pw_len g (n.f3 + 1) hi p2 (fun m hm => ⟨by have := p1 m hm; omega, (hb m (List.mem_cons_of_mem _ hm)).2⟩) (by omega)
  rw [List.length_cons]; omega
theorem pieces_all (x : List S56) : ∀ (m : Nat) (g : List S41) (lo : Nat), lo + m = x.length → g.Pairwise (fun a b => a.f3 < b.f3) → (∀ n ∈ g, (lo : Int) ≤ n.f3 ∧ n.f3 < x.length) → m ≤ g.length → (∀ n ∈ g, n.f5 = (x.drop n.f3.toNat).take 1) → allC g = x.drop lo
 | 0, g, lo, hlo, hp, hb, hm, hf => by
  cases g with
  | nil => rw [List.drop_of_length_le (by omega)]; rfl
  | cons n g => have := hb n List.mem_cons_self; omega
 | m + 1, g, lo, hlo, hp, hb, hm, hf => by
  cases g with
  | nil => simp at hm
  | cons n g =>
   obtain ⟨p1, p2⟩ := List.pairwise_cons.1 hp
   have hn := hb n List.mem_cons_self
   rw [List.length_cons] at hm
   have hl := pw_len g (n.f3 + 1) x.length p2 (fun k hk => ⟨by have := p1 k hk; omega, (hb k (List.mem_cons_of_mem _ hk)).2⟩) (by omega)
   have e : n.f3 = (lo : Int) := by omega
   have ih := pieces_all x m g (lo + 1) (by omega) p2 (fun k hk => ⟨by have := p1 k hk; omega, (hb k (List.mem_cons_of_mem _ hk)).2⟩) (by omega) (fun k hk => hf k (List.mem_cons_of_mem _ hk))
   have e2 : allC (n :: g) = n.f5 ++ allC g := by simp [allC]
   rw [e2, ih, hf n List.mem_cons_self, e, Int.toNat_natCast]
   have hlt : lo < x.length := by omega
   rw [List.drop_eq_getElem_cons hlt]
   rfl
structure Chain (B : Nat) (st it : List (List S56)) : Prop where
 len : st.length = it.length + 1
 st0 : st[0]? = some []
 step : ∀ (i : Nat) x c, st[i]? = some x → it[i]? = some c → ∃ y, st[i + 1]? = some y ∧ zdr x c = (y, 0)
 ok : ∀ x ∈ st, okG B x ∧ zef x = true
 oki : ∀ c ∈ it, okG 60 c
structure Fol (st : List (List S56)) (s : S33) : Prop where
 right : Right s
 id : s.f0 = 1
 pos : s.f1 < st.length
 eq : st[s.f1.toNat]? = some s.f2
 got : ∀ n ∈ s.f5, ∃ x, st[s.f3.toNat]? = some x ∧ n ∈ cutN s.f3 x
theorem Fol.of {st : List (List S56)} {s : S33} (h1 : Right s) (h2 : s.f0 = 1) (h3 : s.f1 < st.length ∧ st[s.f1.toNat]? = some s.f2 ∧ ∀ n ∈ s.f5, ∃ x, st[s.f3.toNat]? = some x ∧ n ∈ cutN s.f3 x) : Fol st s := ⟨h1, h2, h3.1, h3.2.1, h3.2.2⟩
theorem fol_next {B : Nat} {st it : List (List S56)} (hc : Chain B st it) {s : S33} (hf : Fol st s) {p : Nat} (h0 : 0 < p) (hp : p < st.length) {c : List S56} (hi : it[p - 1]? = some c) : Fol st (zim s ⟨1, 1, p, 0, 0, c⟩) := by
 have hr := hear_right (⟨1, 1, p, 0, 0, c⟩ : S41) hf.right
 refine Fol.of hr.1 (hr.2.2.trans hf.id) ?_
 unfold zim
 split
 ·rw [if_pos rfl]
  unfold nextS
  split
  ·rename_i hq
   have e : (p : Int) = s.f1 + 1 := hq.1
   have hs0 := hf.right.pos.1
   obtain ⟨y, hy, ha⟩ := hc.step (p - 1) s.f2 c (by rw [show p - 1 = s.f1.toNat by omega]; exact hf.eq) hi
   rw [show p - 1 + 1 = p by omega] at hy
   have ha' : zdr s.f2 (⟨1, 1, p, 0, 0, c⟩ : S41).f5 = (y, 0) := ha
   rw [ha']
   split
   ·exact ⟨by show (p : Int) < _; omega, by show st[((p : Int)).toNat]? = _; rw [Int.toNat_natCast]; exact hy, fun n hn => by cases hn⟩
   ·exact ⟨by show (p : Int) < _; omega, by show st[((p : Int)).toNat]? = _; rw [Int.toNat_natCast]; exact hy, hf.got⟩
  ·exact ⟨hf.pos, hf.eq, hf.got⟩
 ·exact ⟨hf.pos, hf.eq, hf.got⟩
theorem fol_snap {B : Nat} {st it : List (List S56)} (hc : Chain B st it) {s : S33} (hf : Fol st s) {p : Nat} {x : List S56} (hx : st[p]? = some x) {n : S41} (hn : n ∈ cutN p x) : Fol st (zim s n) := by
 have hr := hear_right n hf.right
 obtain ⟨n0, n1, n2, n3, n4⟩ := cutN_mem hn
 have hpl : p < st.length := (List.getElem?_eq_some_iff.1 hx).1
 have hxs := hc.ok x (List.mem_of_getElem? hx)
 refine Fol.of hr.1 (hr.2.2.trans hf.id) ?_
 unfold zim
 split
 ·rename_i hh
  simp only [if_neg (show ¬ n.f0 = 1 by omega), if_pos n0]
  split
  ·rename_i hp
   obtain ⟨a1, a2, a3, a4, a5, a6, a7, a8, a9, a10, a11⟩ := ahead_got hf.right hh.2.1 n0 hp
   have hg : ∀ m ∈ (ahead s n).f5, ∃ y, st[(ahead s n).f3.toNat]? = some y ∧ m ∈ cutN (ahead s n).f3 y := fun m hm => by
    unfold ahead at hm ⊢
    split at hm
    ·cases hm
    ·rename_i hq
     rw [if_neg hq]
     exact hf.got m hm
   unfold zhl
   split
   ·rename_i hm
    generalize ahead s n = t at a1 a2 a3 a4 a5 a6 a7 a8 a9 a10 a11 hm hg ⊢
    have e3 : t.f3 = (p : Int) := by rw [← hm.1, n2]
    have hall : ∀ m ∈ insP n t.f5, m ∈ cutN p x := fun m hm' => by
     rcases insP_mem n _ m hm' with rfl | h
     ·exact hn
     ·obtain ⟨y, hy, hy2⟩ := hg m h
      rw [e3, Int.toNat_natCast, hx] at hy
      injection hy with hy
      rw [e3, ← hy] at hy2; exact hy2
    have hpw := insP_pw n a1
    unfold fullS
    by_cases hl : ((insP n t.f5).length : Int) < t.f4
    ·rw [if_pos hl]
     refine ⟨by show t.f1 < _; rw [a8]; exact hf.pos, by show st[t.f1.toNat]? = some t.f2; rw [a8, a9]; exact hf.eq, fun m hm' => ⟨x, ?_, ?_⟩⟩
     ·show st[t.f3.toNat]? = _; rw [e3, Int.toNat_natCast]; exact hx
     ·show m ∈ cutN t.f3 x; rw [e3]; exact hall m hm'
    ·rw [if_neg hl]
     have hC : allC (insP n t.f5) = x := by
      by_cases h0 : x = []
      ·have : ∀ m ∈ insP n t.f5, m.f5 = [] := fun m hm' => ((cutN_mem (hall m hm')).2.2.2.1 h0).2.2
       rw [h0]
       unfold allC
       refine List.flatten_eq_nil_iff.2 fun l hl => ?_
       obtain ⟨m, hm', rfl⟩ := List.mem_map.1 hl
       exact this m hm'
      ·have hb := fun m hm' => (cutN_mem (hall m hm')).2.2.2.2 h0
       have hf4 : t.f4 = x.length := by rw [← hm.2]; exact (n4 h0).2.2.1
       have := pieces_all x x.length (insP n t.f5) 0 (Nat.zero_add _) hpw (fun m hm' => ⟨(hb m hm').1, (hb m hm').2.1⟩) (by omega) (fun m hm' => (hb m hm').2.2.2)
       rw [this]; rfl
     rw [hC, apply_self hxs.2]
     rw [if_pos (show (x, (0 : Int)).2 = 0 from rfl)]
     exact ⟨by show t.f3 < _; rw [e3]; omega, by show st[t.f3.toNat]? = some x; rw [e3, Int.toNat_natCast]; exact hx, fun m hm' => by cases hm'⟩
   ·have e : ahead s n = s := by
     rename_i hm
     unfold ahead at hm ⊢
     by_cases h : s.f3 = 0 ∨ n.f2 > s.f3
     ·rw [if_pos h] at hm; exact absurd ⟨rfl, rfl⟩ hm
     ·rw [if_neg h]
    rw [e]
    exact ⟨hf.pos, hf.eq, hf.got⟩
  ·exact ⟨hf.pos, hf.eq, hf.got⟩
 ·exact ⟨hf.pos, hf.eq, hf.got⟩
theorem cutN_ok {B : Nat} {p : Int} {x : List S56} (hx : okG B x) {n : S41} (hn : n ∈ cutN p x) : okG B n.f5 := by
 obtain ⟨_, _, _, n3, n4⟩ := cutN_mem hn
 by_cases h : x = []
 ·rw [(n3 h).2.2]; exact okG_nil B
 ·rw [(n4 h).2.2.2]
  refine ⟨by rw [List.length_take]; omega, fun c hc => hx.2 c (List.mem_of_mem_drop (List.mem_of_mem_take hc))⟩
theorem fol_ok {B : Nat} {st it : List (List S56)} (hc : Chain B st it) {s : S33} (hf : Fol st s) : okSb B B s := by
 refine ⟨(hc.ok _ (List.mem_of_getElem? hf.eq)).1, ?_, fun n hn => ?_⟩
 ·rcases hf.right.got with ⟨_, _, h⟩ | ⟨_, _, _, _, h1, _, h2⟩
  ·rw [h]; exact Nat.zero_le _
  ·omega
 ·obtain ⟨x, hx, hn⟩ := hf.got n hn
  exact cutN_ok (hc.ok _ (List.mem_of_getElem? hx)).1 hn
theorem fa_ev : ∀ (n : Nat) (l st it : List (List S56)), n ≤ 12 → st.length + n ≤ 13 → (∀ c ∈ l, zhg c) → Chain (960 * (12 - n)) st it → ∃ o, Ev (fun k => zad.a k n l st it) o ∧ (o = none ∨ ∃ st' it', o = some (st', it') ∧ Chain 11520 st' it' ∧ st'.length ≤ 13)
 | 0, l, st, it, _, hb, _, hc => ⟨some (st, it), by simp only [zad.a]; exact Ev.pure _, .inr ⟨st, it, rfl, hc, by omega⟩⟩
 | n + 1, [], st, it, hn, hb, _, hc => ⟨some (st, it), by simp only [zad.a]; exact Ev.pure _, .inr ⟨st, it, rfl, ⟨hc.len, hc.st0, hc.step, fun x hx => ⟨(hc.ok x hx).1.mono (by omega), (hc.ok x hx).2⟩, hc.oki⟩, by omega⟩⟩
 | n + 1, c :: r, st, it, hn, hb, hw, hc => by
  by_cases hf : FewC c
  ·have oc := hf.ok (hw c List.mem_cons_self)
   have lc := hf.1
   obtain ⟨x, hx⟩ : ∃ x, st[st.length - 1]? = some x := ⟨_, List.getElem?_eq_getElem (by have := hc.len; omega)⟩
   have ex : st.getD (st.length - 1) [] = x := by rw [List.getD_eq_getElem?_getD, hx]; rfl
   have hxo := hc.ok x (List.mem_of_getElem? hx)
   have hxl := state_len hxo.2
   have hB : 960 * (12 - (n + 1)) + 60 * 16 = 960 * (12 - n) := by omega
   have hap := apply_ev x c hxo.1 oc (by omega) (by omega) (by omega)
   by_cases h0 : (zdr x c).2 = 0
   ·have hok := (applyS_ok hxo.1 oc (by omega)).1
    rw [hB] at hok
    have hst := (zgt h0).1
    have hc' : Chain (960 * (12 - n)) (st ++ [(zdr x c).1]) (it ++ [c]) := by
     refine ⟨by rw [List.length_append, List.length_append]; simp; exact hc.len, ?_, fun i y d hy hd => ?_, fun y hy => ?_, fun d hd => ?_⟩
     ·rw [List.getElem?_append_left (by have := hc.len; omega)]; exact hc.st0
     ·have hl := hc.len
      by_cases hi : i < it.length
      ·rw [List.getElem?_append_left (by omega)] at hy hd
       obtain ⟨z, hz, hz2⟩ := hc.step i y d hy hd
       exact ⟨z, by rw [List.getElem?_append_left (by omega)]; exact hz, hz2⟩
      ·have hi2 : i = it.length := by have := (List.getElem?_eq_some_iff.1 hd).1; rw [List.length_append] at this; simp at this; omega
       subst hi2
       rw [List.getElem?_append_left (by omega), show it.length = st.length - 1 by omega, hx] at hy
       injection hy with hy
       rw [List.getElem?_append_right (Nat.le_refl _), Nat.sub_self] at hd
       injection hd with hd
       subst hy; subst hd
       refine ⟨(zdr x c).1, ?_, Prod.ext rfl h0⟩
       rw [List.getElem?_append_right (by omega), show it.length + 1 - st.length = 0 by omega]
       rfl
     ·rcases List.mem_append.1 hy with hy | hy
      ·exact ⟨(hc.ok y hy).1.mono (by omega), (hc.ok y hy).2⟩
      ·rw [List.mem_singleton.1 hy]; exact ⟨hok, hst⟩
     ·rcases List.mem_append.1 hd with hd | hd
      ·exact hc.oki d hd
      ·rw [List.mem_singleton.1 hd]; exact oc
    obtain ⟨o, h1, h2⟩ := fa_ev n r _ _ (by omega) (by rw [List.length_append, List.length_singleton]; omega) (fun d hd => hw d (List.mem_cons_of_mem _ hd)) hc'
    refine ⟨o, ?_, h2⟩
    simp only [zad.a]
    rw [ex]
    refine Ev.bind (few_ev c) ?_
    rw [decide_eq_true hf]
    exact Ev.pos rfl (Ev.bind hap (Ev.pos h0 h1))
   ·obtain ⟨o, h1, h2⟩ := fa_ev n r st it (by omega) (by omega) (fun d hd => hw d (List.mem_cons_of_mem _ hd)) ⟨hc.len, hc.st0, hc.step, fun y hy => ⟨(hc.ok y hy).1.mono (by omega), (hc.ok y hy).2⟩, hc.oki⟩
    refine ⟨o, ?_, h2⟩
    simp only [zad.a]
    rw [ex]
    refine Ev.bind (few_ev c) ?_
    rw [decide_eq_true hf]
    exact Ev.pos rfl (Ev.bind hap (Ev.neg h0 h1))
  ·refine ⟨none, ?_, .inl rfl⟩
   simp only [zad.a]
   refine Ev.bind (few_ev c) ?_
   rw [decide_eq_false hf]
   exact Ev.neg (by decide) (Ev.pure _)
theorem fb_ev {st it : List (List S56)} (hc : Chain 11520 st it) (hlen : st.length ≤ 1000) : ∀ (n : Nat) (l : List Int) (s : S33), Fol st s → Ev (fun k => zad.b k st it n l (tupS s)) true
 | 0, l, s, hf => by simp only [zad.b]; exact awake_ev
 | n + 1, [], s, hf => by simp only [zad.b]; exact awake_ev
 | n + 1, p :: r, s, hf => by
  have hl := hc.len
  have hl1 : 0 < (st.length : Int) := by omega
  obtain ⟨u, hu⟩ : ∃ u, u = p % 18446744073709551616 := ⟨_, rfl⟩
  have hu0 : 0 ≤ u := by omega
  obtain ⟨q, hq⟩ : ∃ q, q = (u / 2) % (st.length : Int) := ⟨_, rfl⟩
  have hq0 : 0 ≤ q := by rw [hq]; exact Int.emod_nonneg _ (by omega)
  have hq1 : q < st.length := by rw [hq]; exact Int.emod_lt_of_pos _ hl1
  obtain ⟨m, rfl⟩ : ∃ m : Nat, q = (m : Int) := ⟨q.toNat, by omega⟩
  have hml : m < st.length := by omega
  obtain ⟨x, hx⟩ : ∃ x, st[m]? = some x := ⟨_, List.getElem?_eq_getElem hml⟩
  have hxo := hc.ok x (List.mem_of_getElem? hx)
  have fin : ∀ t, Fol st t → Ev (fun k => if (tupS t).2.1 < 0 then some false else if (tupS t).2.1 ≥ (st.length : Int) then some false else (zai.f k (tupS t).2.2.1 (st.getD (tupS t).2.1.toNat [])).bind fun b => if b = true then zad.b k st it n r (tupS t) else some false) true := fun t ht => by
   have e : st.getD t.f1.toNat [] = t.f2 := by rw [List.getD_eq_getElem?_getD, ht.eq]; rfl
   have ho := (hc.ok _ (List.mem_of_getElem? ht.eq)).1
   refine Ev.neg (by have := ht.right.pos.1; show ¬ t.f1 < 0; omega) (Ev.neg (by have := ht.pos; show ¬ t.f1 ≥ _; omega) ?_)
   show Ev (fun k => (zai.f k t.f2 (st.getD t.f1.toNat [])).bind _) true
   rw [e]
   refine Ev.bind (samech_ev _ _ ho.1 (fun c hc => (ho.2 c hc).2.1)) ?_
   rw [decide_eq_true rfl]
   exact Ev.pos rfl (fb_ev hc hlen n r t ht)
  simp only [zad.b]
  rw [← hu, ← hq, Int.toNat_natCast]
  have ex : st.getD m [] = x := by rw [List.getD_eq_getElem?_getD, hx]; rfl
  have hob := fol_ok hc hf
  by_cases hA : u % 2 = 0 ∧ 0 < (m : Int)
  ·obtain ⟨c, hcc⟩ : ∃ c, it[m - 1]? = some c := ⟨_, List.getElem?_eq_getElem (by omega)⟩
   have ec : it.getD ((m : Int) - 1).toNat [] = c := by rw [show ((m : Int) - 1).toNat = m - 1 by omega, List.getD_eq_getElem?_getD, hcc]; rfl
   have oc := hc.oki c (List.mem_of_getElem? hcc)
   rw [ec]
   refine Ev.bind (Ev.pos hA (hear_ev (s := s) (n := ⟨1, 1, m, 0, 0, c⟩) (Bs := 11520) (Bn := 11520) hob (oc.mono (by decide)) (by decide))) ?_
   exact fin _ (fol_next hc hf (by omega) hml hcc)
  ·rw [ex]
   have hcut := cut_ev (m : Int) (nn m) (by omega) x hxo.1 (by have := hxo.2; unfold zef at this; simp only [Bool.and_eq_true] at this; exact this.2)
   have hcl : 0 < (cutN (m : Int) x).length := by
    unfold cutN
    split
    ·exact Nat.zero_lt_one
    ·rename_i hne
     rw [List.length_map, List.length_range]
     exact List.length_pos_iff.2 hne
   obtain ⟨j, hj⟩ : ∃ j, j = ((u / 64) % ((cutN (m : Int) x).length : Int)).toNat := ⟨_, rfl⟩
   have hjl : j < (cutN (m : Int) x).length := by
    have h1 := Int.emod_nonneg (u / 64) (show ((cutN (m : Int) x).length : Int) ≠ 0 by omega)
    have h2 := Int.emod_lt_of_pos (u / 64) (show 0 < ((cutN (m : Int) x).length : Int) by omega)
    omega
   obtain ⟨w, hw⟩ : ∃ w, (cutN (m : Int) x)[j]? = some w := ⟨_, List.getElem?_eq_getElem hjl⟩
   have ew : (cutN (m : Int) x).getD j z41 = w := by rw [List.getD_eq_getElem?_getD, hw]; rfl
   have hwm := List.mem_of_getElem? hw
   have hh := hear_ev (s := s) (n := w) (Bs := 11520) (Bn := 11520) hob (cutN_ok hxo.1 hwm) (by decide)
   refine Ev.bind (Ev.neg hA (Ev.bind hcut (Ev.pos hcl ?_))) (fin _ (fol_snap hc hf hx hwm))
   rw [← hj, ew]
   exact hh
theorem SubFollows_ev (l : List (List S56)) (ps : List Int) (hl : ∀ c ∈ l, zhg c) : Ev (fun k => zad.f k l ps) true := by
 have hc0 : Chain (960 * (12 - 12)) [[]] [] := ⟨rfl, rfl, fun i x c _ h => by simp at h, fun x hx => by rw [List.mem_singleton.1 hx]; exact ⟨okG_nil _, zhe⟩, fun c h => by cases h⟩
 obtain ⟨o, h1, h2⟩ := fa_ev 12 l [[]] [] (Nat.le_refl _) (by decide) hl hc0
 unfold zad.f
 refine Ev.bind h1 ?_
 rcases h2 with rfl | ⟨st, it, rfl, hc, h13⟩
 ·exact awake_ev
 ·have hs : Fol st sub1 := ⟨right_iff.1 (right_of1 0 (by decide)), rfl, by have := hc.len; show (0 : Int) < _; omega, hc.st0, fun n h => by cases h⟩
  exact fb_ev hc (by omega) 60 ps sub1 hs
theorem SubFollows_pure : Stat.SubFollows := by
 intro l0 l1 w0 w1
 exact (SubFollows_ev l0 l1 w0.2).imp fun k h => h k (Nat.le_refl k)
end Go.Proofs.YtchpbnabbjdfgaaDoor.Pure
