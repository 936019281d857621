-- HALVED
import Derived.Test.YtchpbnabbjdfgaaDoorPx0
import Derived.WalkKit
import Derived.ProofKit
import Derived.OpenShut
import Derived.ShutString
import Derived.ChangeOld
import Derived.Below
import Derived.SizedLaws
import Derived.ChangeArms
namespace Go.Proofs.YtchpbnabbjdfgaaDoor.Open
open Go.ChangeShapes Go.WideShapes Go.ChangeAt Go.RowKit Go.Proofs.YtchpbnabbjdfgaaDoorW.PrintWords Go.Proofs.YtchpbnabbjdfgaaDoorW.PrintLast Go.Proofs.YtchpbnabbjdfgaaDoor.P
open Go.ChangeMaps (open_string shut_string)
set_option linter.unusedVariables false
structure zfp {α : Type} (P : Program) (d : Kd α) (t : TypeId) (wf : α → Prop) : Prop where
 sz : P.cellsOf t = d.sz
 came : ∀ {H : Type} {enc : TypeId × Value → H} {w : World} {base : Nat} {spare : Nat → Bool} {held : Bool} {fuel : Nat} {cs : List Value} {x : DataW H × List MemPlace},
  DataW.trod enc P w base spare held fuel t cs = some x → ∃ a, d.K w a cs ∧ wf a
theorem zfp.int {P : Program} {t : TypeId} {k : IntKind} (ht : P.underlying t = some (.int k)) (hc : P.cellsOf t = 1) : zfp P (Kd.int k) t (fun a => (Lit.int k a).wf = true) :=
 ⟨hc, fun h => by
  obtain ⟨n, rfl, _, hw⟩ := DataW.trod_int ht h
  exact ⟨n, rfl, hw⟩⟩
theorem zfp.bool {P : Program} {t : TypeId} (ht : P.underlying t = some .bool) (hc : P.cellsOf t = 1) : zfp P Kd.bool t (fun _ => True) :=
 ⟨hc, fun h => by
  obtain ⟨n, rfl, _⟩ := DataW.trod_bool ht h
  exact ⟨n, rfl, trivial⟩⟩
theorem zfp.string {P : Program} {t : TypeId} (ht : P.underlying t = some .string) (hc : P.cellsOf t = 1) : zfp P Kd.string t (fun s => s.size ≤ maxLen) :=
 ⟨hc, fun h => by
  obtain ⟨s, rfl, _, hs⟩ := DataW.trod_string ht h
  exact ⟨s, rfl, hs⟩⟩
theorem cells_get {w : World} {base : Nat} {a : Addr} {n : Nat} {cs : List Value} (h : w.cells? base a n = some cs) : cs.length = n ∧ ∀ i u, cs[i]? = some u → w.cell? (a.add i) = some u := by
 unfold World.cells? at h
 split at h
 ·have hl := mapM_some_length h
  simp only [List.length_range] at hl
  refine ⟨hl, fun i u hu => ?_⟩
  have hi : i < n := by have := (List.getElem?_eq_some_iff.1 hu).1; omega
  have := mapM_some_get h i i (by rw [List.getElem?_range hi])
  rw [this, hu]
 ·exact absurd h (by simp)
theorem add_add_plain (a : Addr) (i j : Nat) : (a.add i).add j = a.add (i + j) := by
 unfold Addr.add
 by_cases hi : i = 0
 ·subst hi; simp
 ·by_cases hj : j = 0
  ·subst hj; simp [hi]
  ·simp [hi, hj, Nat.add_assoc]
theorem list_of {α : Type} {Q : Nat → α → Prop} : ∀ n, (∀ i, i < n → ∃ a, Q i a) → ∃ l : List α, l.length = n ∧ ∀ i a, l[i]? = some a → Q i a
 | 0, _ => ⟨[], rfl, fun i a h => by simp at h⟩
 | n + 1, h => by
  obtain ⟨l, hl, hq⟩ := list_of n (fun i hi => h i (by omega))
  obtain ⟨a, ha⟩ := h n (by omega)
  refine ⟨l ++ [a], by simp [hl], fun i b hb => ?_⟩
  rcases Nat.lt_or_ge i l.length with hi | hi
  ·rw [List.getElem?_append_left hi] at hb; exact hq i b hb
  ·have hil : i = l.length := by
    have := (List.getElem?_eq_some_iff.1 hb).1
    simp at this; omega
   subst hil
   simp at hb
   subst hb
   rw [hl]; exact ha
theorem zfp.slice {α : Type} {P : Program} {d : Kd α} {t e : TypeId} {wf : α → Prop} (o : zfp P d e wf) (ht : P.underlying t = some (.slice e)) (hc : P.cellsOf t = 1) :
  zfp P (Kd.slice e d) t (fun xs => xs.length ≤ maxLen ∧ ∀ a ∈ xs, wf a) :=
 ⟨hc, fun {H enc w base spare held fuel cs x} h => by
  rcases DataW.trod_slice ht h with ⟨rfl, _⟩ | ⟨a, len, cap, elems, rest, n, _, rfl, _, hb, hle, hcap, hlen, hel, _, _⟩
  ·exact ⟨[], ⟨none, 0, rfl, by simp, by simp, by simp, fun h => absurd h (by simp)⟩, by simp, by simp⟩
  ·obtain ⟨l, hl, hq⟩ := list_of (Q := fun i (p : α) => (∃ c, c.length = d.sz ∧ d.K w p c ∧ ∀ j u, c[j]? = some u → w.cell? (a.add (i * d.sz + j)) = some u) ∧ wf p) len (fun i hi => by
    have he := hel i hi
    have hi' : i < elems.length := by omega
    rw [List.getElem?_eq_getElem hi'] at he
    obtain ⟨c, hcells, htr⟩ := Option.bind_eq_some_iff.1 he
    obtain ⟨p, hK, hw⟩ := o.came htr
    obtain ⟨hcl, hcg⟩ := cells_get hcells
    refine ⟨p, ⟨c, hcl.trans o.sz, hK, fun j u hu => ?_⟩, hw⟩
    have := hcg j u hu
    rw [add_add_plain, o.sz] at this
    exact this)
   have hm : maxLen = 9223372036854775807 := rfl
   refine ⟨l, ⟨some a, cap, by rw [hl], by omega, by rfl, by omega, fun _ => ⟨a, rfl, fun j p hj => (hq j p hj).1⟩⟩, by omega, fun p hp => ?_⟩
   obtain ⟨i, hi, rfl⟩ := List.getElem_of_mem hp
   exact (hq i _ (List.getElem?_eq_getElem hi)).2⟩
def Fits {H : Type} (enc : TypeId × Value → H) (P : Program) (w : World) (base : Nat) (spare : Nat → Bool) (held : Bool) (cs : List Value) : Nat → List (TypeId × Nat) → Prop
 | _, [] => True
 | o, (t, s) :: r => (∃ n x, DataW.trod enc P w base spare held n t ((cs.drop o).take s) = some x) ∧ Fits enc P w base spare held cs (o + s) r
structure zhr {α : Type} (P : Program) (d : Kd α) (l : List (TypeId × Nat)) (wf : α → Prop) : Prop where
 came : ∀ {H : Type} {enc : TypeId × Value → H} {w : World} {base : Nat} {spare : Nat → Bool} {held : Bool} {cs : List Value} {o : Nat},
  cs.length = o + (l.map (·.2)).sum → Fits enc P w base spare held cs o l → ∃ a, d.K w a (cs.drop o) ∧ wf a
theorem zhr.one {α : Type} {P : Program} {d : Kd α} {t : TypeId} {wf : α → Prop} {s : Nat} (o : zfp P d t wf) : zhr P d [(t, s)] wf :=
 ⟨fun {H enc w base spare held cs p} hl h => by
  obtain ⟨⟨n, x, hx⟩, _⟩ := h
  rw [List.take_of_length_le (by simp at hl ⊢; omega)] at hx
  exact o.came hx⟩
theorem zhr.cons {α β : Type} {P : Program} {d : Kd α} {d2 : Kd β} {t : TypeId} {l : List (TypeId × Nat)} {wf : α → Prop} {wf2 : β → Prop} {s : Nat} (o : zfp P d t wf) (r : zhr P d2 l wf2) :
  zhr P (Kd.pair d d2) ((t, s) :: l) (fun p => wf p.1 ∧ wf2 p.2) :=
 ⟨fun {H enc w base spare held cs p} hl h => by
  obtain ⟨⟨n, x, hx⟩, h2⟩ := h
  obtain ⟨a, ha, hwa⟩ := o.came hx
  obtain ⟨b, hb, hwb⟩ := r.came (o := p + s) (by simp at hl ⊢; omega) h2
  refine ⟨(a, b), ⟨(cs.drop p).take s, cs.drop (p + s), ?_, ha, hb⟩, hwa, hwb⟩
  rw [← List.drop_drop, List.take_append_drop]⟩
theorem opens_9 : zfp Tryd.prog Kd.string 9 (fun s => s.size ≤ maxLen) := zfp.string Tryd.underlying9 (by kernel_rfl)
theorem opens_3 : zfp Tryd.prog (Kd.int .i64) 3 (fun a => (Lit.int .i64 a).wf = true) := zfp.int Tryd.underlying3 (by kernel_rfl)
def wf_T105 (x : S105) : Prop := (fun a => (Lit.int .i64 a).wf = true) x.f0 ∧ (fun a => (Lit.int .i64 a).wf = true) x.f1 ∧ (fun s : ByteArray => s.size ≤ maxLen) x.f2
theorem opens_105 : zfp Tryd.prog k105 105 wf_T105 := by
 refine ⟨by kernel_rfl, fun {H enc w base spare held fuel cs x} h => ?_⟩
 obtain ⟨xs, n, _, _, hl, hlen, hf⟩ := DataW.trod_struct Tryd.underlying105 h
 have c : Tryd.prog.cellsOf 105 = 3 := by kernel_rfl
 rw [c] at hl
 have c0 : Tryd.prog.cellsOf 3 = 1 := by kernel_rfl
 have c1 : Tryd.prog.cellsOf 3 = 1 := by kernel_rfl
 have c2 : Tryd.prog.cellsOf 9 = 1 := by kernel_rfl
 have h0 : ∃ n x, DataW.trod enc Tryd.prog w base spare held n 3 ((cs.drop 0).take 1) = some x := by
  have hx : 0 < xs.length := by rw [hlen]; decide
  have this : DataW.trod enc Tryd.prog w base spare held n 3 ((cs.drop 0).take (Tryd.prog.cellsOf 3)) = _ := hf 0 _ rfl
  rw [List.getElem?_eq_getElem hx, c0] at this
  exact ⟨n, _, this⟩
 have h1 : ∃ n x, DataW.trod enc Tryd.prog w base spare held n 3 ((cs.drop 1).take 1) = some x := by
  have hx : 1 < xs.length := by rw [hlen]; decide
  have this : DataW.trod enc Tryd.prog w base spare held n 3 ((cs.drop 1).take (Tryd.prog.cellsOf 3)) = _ := hf 1 _ rfl
  rw [List.getElem?_eq_getElem hx, c1] at this
  exact ⟨n, _, this⟩
 have h2 : ∃ n x, DataW.trod enc Tryd.prog w base spare held n 9 ((cs.drop 2).take 1) = some x := by
  have hx : 2 < xs.length := by rw [hlen]; decide
  have this : DataW.trod enc Tryd.prog w base spare held n 9 ((cs.drop 2).take (Tryd.prog.cellsOf 9)) = _ := hf 2 _ rfl
  rw [List.getElem?_eq_getElem hx, c2] at this
  exact ⟨n, _, this⟩
 obtain ⟨p, hk, hw⟩ := ((zhr.cons (s := 1) opens_3 (zhr.cons (s := 1) opens_3 (zhr.one (s := 1) opens_9)))).came (enc := enc) (w := w) (base := base) (spare := spare) (held := held) (cs := cs) (o := 0) (by rw [hl]; rfl) ⟨h0, h1, h2, trivial⟩
 exact ⟨⟨p.1, p.2.1, p.2.2⟩, hk, hw⟩
def wf_L105_T105 (xs : List S105) : Prop := xs.length ≤ maxLen ∧ ∀ a ∈ xs, wf_T105 a
theorem opens_79 : zfp Tryd.prog (Kd.slice 105 k105) 79 wf_L105_T105 := zfp.slice opens_105 Tryd.underlying79 (by kernel_rfl)
def wf_T81 (x : S81) : Prop := wf_L105_T105 x.f0 ∧ (fun a => (Lit.int .i64 a).wf = true) x.f1
theorem opens_81 : zfp Tryd.prog k81 81 wf_T81 := by
 refine ⟨by kernel_rfl, fun {H enc w base spare held fuel cs x} h => ?_⟩
 obtain ⟨xs, n, _, _, hl, hlen, hf⟩ := DataW.trod_struct Tryd.underlying81 h
 have c : Tryd.prog.cellsOf 81 = 2 := by kernel_rfl
 rw [c] at hl
 have c0 : Tryd.prog.cellsOf 79 = 1 := by kernel_rfl
 have c1 : Tryd.prog.cellsOf 3 = 1 := by kernel_rfl
 have h0 : ∃ n x, DataW.trod enc Tryd.prog w base spare held n 79 ((cs.drop 0).take 1) = some x := by
  have hx : 0 < xs.length := by rw [hlen]; decide
  have this : DataW.trod enc Tryd.prog w base spare held n 79 ((cs.drop 0).take (Tryd.prog.cellsOf 79)) = _ := hf 0 _ rfl
  rw [List.getElem?_eq_getElem hx, c0] at this
  exact ⟨n, _, this⟩
 have h1 : ∃ n x, DataW.trod enc Tryd.prog w base spare held n 3 ((cs.drop 1).take 1) = some x := by
  have hx : 1 < xs.length := by rw [hlen]; decide
  have this : DataW.trod enc Tryd.prog w base spare held n 3 ((cs.drop 1).take (Tryd.prog.cellsOf 3)) = _ := hf 1 _ rfl
  rw [List.getElem?_eq_getElem hx, c1] at this
  exact ⟨n, _, this⟩
 obtain ⟨p, hk, hw⟩ := ((zhr.cons (s := 1) opens_79 (zhr.one (s := 1) opens_3))).came (enc := enc) (w := w) (base := base) (spare := spare) (held := held) (cs := cs) (o := 0) (by rw [hl]; rfl) ⟨h0, h1, trivial⟩
 exact ⟨⟨p.1, p.2⟩, hk, hw⟩
def wf_L81_T81 (xs : List S81) : Prop := xs.length ≤ maxLen ∧ ∀ a ∈ xs, wf_T81 a
theorem opens_54 : zfp Tryd.prog (Kd.slice 81 k81) 54 wf_L81_T81 := zfp.slice opens_81 Tryd.underlying54 (by kernel_rfl)
def wf_T56 (x : S56) : Prop := (fun s : ByteArray => s.size ≤ maxLen) x.f0 ∧ wf_L81_T81 x.f1
theorem opens_56 : zfp Tryd.prog k56 56 wf_T56 := by
 refine ⟨by kernel_rfl, fun {H enc w base spare held fuel cs x} h => ?_⟩
 obtain ⟨xs, n, _, _, hl, hlen, hf⟩ := DataW.trod_struct Tryd.underlying56 h
 have c : Tryd.prog.cellsOf 56 = 2 := by kernel_rfl
 rw [c] at hl
 have c0 : Tryd.prog.cellsOf 9 = 1 := by kernel_rfl
 have c1 : Tryd.prog.cellsOf 54 = 1 := by kernel_rfl
 have h0 : ∃ n x, DataW.trod enc Tryd.prog w base spare held n 9 ((cs.drop 0).take 1) = some x := by
  have hx : 0 < xs.length := by rw [hlen]; decide
  have this : DataW.trod enc Tryd.prog w base spare held n 9 ((cs.drop 0).take (Tryd.prog.cellsOf 9)) = _ := hf 0 _ rfl
  rw [List.getElem?_eq_getElem hx, c0] at this
  exact ⟨n, _, this⟩
 have h1 : ∃ n x, DataW.trod enc Tryd.prog w base spare held n 54 ((cs.drop 1).take 1) = some x := by
  have hx : 1 < xs.length := by rw [hlen]; decide
  have this : DataW.trod enc Tryd.prog w base spare held n 54 ((cs.drop 1).take (Tryd.prog.cellsOf 54)) = _ := hf 1 _ rfl
  rw [List.getElem?_eq_getElem hx, c1] at this
  exact ⟨n, _, this⟩
 obtain ⟨p, hk, hw⟩ := ((zhr.cons (s := 1) opens_9 (zhr.one (s := 1) opens_54))).came (enc := enc) (w := w) (base := base) (spare := spare) (held := held) (cs := cs) (o := 0) (by rw [hl]; rfl) ⟨h0, h1, trivial⟩
 exact ⟨⟨p.1, p.2⟩, hk, hw⟩
def zhg (xs : List S56) : Prop := xs.length ≤ maxLen ∧ ∀ a ∈ xs, wf_T56 a
theorem opens_22 : zfp Tryd.prog (Kd.slice 56 k56) 22 zhg := zfp.slice opens_56 Tryd.underlying22 (by kernel_rfl)
def zir (xs : List (List S56)) : Prop := xs.length ≤ maxLen ∧ ∀ a ∈ xs, zhg a
theorem opens_47 : zfp Tryd.prog (Kd.slice 22 (Kd.slice 56 k56)) 47 zir := zfp.slice opens_22 Tryd.underlying47 (by kernel_rfl)
def wf_L3_i64 (xs : List Int) : Prop := xs.length ≤ maxLen ∧ ∀ a ∈ xs, (fun a => (Lit.int .i64 a).wf = true) a
theorem opens_48 : zfp Tryd.prog (Kd.slice 3 (Kd.int .i64)) 48 wf_L3_i64 := zfp.slice opens_3 Tryd.underlying48 (by kernel_rfl)

end Go.Proofs.YtchpbnabbjdfgaaDoor.Open
