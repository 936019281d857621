-- HALVED
import Derived.Laws.IdiomCopy
import Derived.Lib.AppendZerosOnto
import Derived.Lib.Overlaps
import Derived.Lib.SliceRun
import Derived.Laws.Externs
import Derived.Laws.NewBlocks
import Derived.Deep.RegionLaw
import Derived.Shelf.RegionOpenPlain
import Derived.Deep.RegionWith
import Derived.Deep.LoopGhost
import Derived.Deep.Cut
import Derived.WalkKit
import Derived.Test.YtchpbnabbjdfgaaDoorProg
import Derived.Test.YtchpbnabbjdfgaaDoorWAll
set_option linter.unusedVariables false
set_option linter.unusedSimpArgs false
namespace Go.Proofs.YtchpbnabbjdfgaaDoor.Mem
open Go.RowKit Go.Proofs.YtchpbnabbjdfgaaDoorW.PrintWords Go.Proofs.YtchpbnabbjdfgaaDoorW.PrintLast Go.Proofs.YtchpbnabbjdfgaaDoorW.PrintMore
theorem zhk {k : Nat} : ∀ (rows : List (List Value)), (∀ c ∈ rows, c.length = k) → rows.flatten.length = rows.length * k
 | [], _ => by simp
 | c :: r, h => by
  rw [List.flatten_cons, List.length_append, zhk r (fun x hx => h x (List.mem_cons_of_mem _ hx)), h c List.mem_cons_self, List.length_cons, Nat.succ_mul]; omega
theorem zhx {k : Nat} : ∀ (rows : List (List Value)) (i : Nat), (∀ c ∈ rows, c.length = k) → rows.flatten.take (i * k) = (rows.take i).flatten
 | [], i, _ => by simp
 | c :: r, 0, _ => by simp
 | c :: r, i + 1, h => by
  have hc := h c List.mem_cons_self
  rw [List.flatten_cons, List.take_succ_cons, List.flatten_cons, List.take_append, hc, List.take_of_length_le (by rw [hc, Nat.succ_mul]; omega), show (i + 1) * k - k = i * k by rw [Nat.succ_mul]; omega, zhx r i (fun x hx => h x (List.mem_cons_of_mem _ hx))]
theorem zgq {k : Nat} : ∀ (rows : List (List Value)) (i : Nat), (∀ c ∈ rows, c.length = k) → rows.flatten.drop (i * k) = (rows.drop i).flatten
 | [], i, _ => by simp
 | c :: r, 0, _ => by simp
 | c :: r, i + 1, h => by
  have hc := h c List.mem_cons_self
  rw [List.flatten_cons, List.drop_succ_cons, List.drop_append, hc, List.drop_of_length_le (by rw [hc, Nat.succ_mul]; omega), show (i + 1) * k - k = i * k by rw [Nat.succ_mul]; omega, List.nil_append, zgq r i (fun x hx => h x (List.mem_cons_of_mem _ hx))]
section
variable {α : Type} {d : Kd α} {e base : Nat} {ok : Nat → Prop} {w : World} {v : Value} {xs : List α}
theorem N_open (h : Kd.N d e w base ok v xs) : ∃ rows : List (List Value), rows.length = xs.length ∧ (∀ c ∈ rows, c.length = d.sz) ∧ (∀ c ∈ rows, ∀ u ∈ c, u.oneCell' = true) ∧
  (∀ (j : Nat) (x : α) (c : List Value), xs[j]? = some x → rows[j]? = some c → Kd.FK d w (fun k => ok k ∧ some k ≠ v.ownBlock) x c) ∧
  ((v = .slice none 0 0 ∧ xs = [] ∧ rows = []) ∨ ∃ b cap cur, v = .slice (some ⟨b, 0, none⟩) xs.length cap ∧ base ≤ b ∧ ok b ∧ w.heap[b]? = some (.cells cur e (0, 0)) ∧ xs.length ≤ cap ∧ cap ≤ maxLen ∧ cur.size = cap * d.sz ∧ cur.toList.take (xs.length * d.sz) = rows.flatten) := by
 obtain ⟨h0, rows, hrl, hR, hf⟩ := h
 obtain ⟨hown0, inner, ⟨hil, hcase⟩, hreps⟩ := hR
 replace hreps : Reps (fun x cs => cs = x ∧ cs.length = d.sz ∧ ∀ u ∈ cs, u.oneCell' = true) d.sz rows inner := hreps
 simp only [show (Kd.raw d.sz).sz = d.sz from rfl] at hil hcase
 have hrow : ∀ j (hj : j < rows.length), rows[j] = (inner.drop (j * d.sz)).take d.sz ∧ rows[j].length = d.sz ∧ ∀ u ∈ rows[j], u.oneCell' = true := fun j hj => by
  have := hreps.2 j _ (List.getElem?_eq_getElem hj)
  exact ⟨this.1.symm, by rw [← this.1]; exact this.2.1, by rw [← this.1]; exact this.2.2⟩
 have hk : ∀ c ∈ rows, c.length = d.sz := fun c hc => by obtain ⟨j, hj, rfl⟩ := List.getElem_of_mem hc; exact (hrow j hj).2.1
 have hflat : rows.flatten = inner := by
  apply List.ext_getElem?
  intro t
  have e1 := zhk rows hk
  by_cases ht : t < rows.length * d.sz
  ·have hk0 : 0 < d.sz := by
    rcases Nat.eq_zero_or_pos d.sz with h | h
    ·rw [h] at ht; simp at ht
    ·exact h
   have hj : t / d.sz < rows.length := by rw [Nat.div_lt_iff_lt_mul hk0]; exact ht
   have hm : t % d.sz < d.sz := Nat.mod_lt _ hk0
   have hdm : t / d.sz * d.sz + t % d.sz = t := Nat.div_add_mod' t d.sz
   have e2 : rows.flatten.drop (t / d.sz * d.sz) = (rows.drop (t / d.sz)).flatten := zgq rows _ hk
   have e3 : rows.flatten[t]? = (rows.flatten.drop (t / d.sz * d.sz))[t % d.sz]? := by rw [List.getElem?_drop, hdm]
   have e4 : inner[t]? = (inner.drop (t / d.sz * d.sz))[t % d.sz]? := by rw [List.getElem?_drop, hdm]
   rw [e3, e2, e4, List.drop_eq_getElem_cons hj, List.flatten_cons, List.getElem?_append_left (by rw [(hrow _ hj).2.1]; exact hm), (hrow _ hj).1, List.getElem?_take_of_lt hm]
  ·rw [List.getElem?_eq_none (by omega), List.getElem?_eq_none (by omega)]
 refine ⟨rows, hrl, hk, fun c hc => by obtain ⟨j, hj, rfl⟩ := List.getElem_of_mem hc; exact (hrow j hj).2.2, hf, ?_⟩
 rcases hcase with ⟨hu, hn⟩ | ⟨b, cap, cur, hu, hbb, hbh, hncap, hcm, hcur, htake⟩
 ·have e0 : rows = [] := List.eq_nil_of_length_eq_zero hn
  have e1 : xs = [] := List.eq_nil_of_length_eq_zero (by rw [← hrl, hn])
  exact .inl ⟨hu, e1, e0⟩
 ·rw [hrl] at hu hncap htake
  exact .inr ⟨b, cap, cur, hu, hbb, h0 b (by rw [hu]; rfl), hbh, hncap, hcm, hcur, by rw [htake, hflat]⟩
theorem N_make {rows : List (List Value)} {b cap : Nat} {cur : Array Value} (hrl : rows.length = xs.length) (hk : ∀ c ∈ rows, c.length = d.sz) (h1 : ∀ c ∈ rows, ∀ u ∈ c, u.oneCell' = true)
  (hf : ∀ (j : Nat) (x : α) (c : List Value), xs[j]? = some x → rows[j]? = some c → Kd.FK d w (fun k => ok k ∧ k ≠ b) x c)
  (hb : base ≤ b) (hok : ok b) (hbh : w.heap[b]? = some (.cells cur e (0, 0))) (hn : xs.length ≤ cap) (hcm : cap ≤ maxLen) (hcur : cur.size = cap * d.sz) (htake : cur.toList.take (xs.length * d.sz) = rows.flatten) :
  Kd.N d e w base ok (.slice (some ⟨b, 0, none⟩) xs.length cap) xs := by
 have hob : (Value.slice (some ⟨b, 0, none⟩) xs.length cap).ownBlock = some b := rfl
 refine ⟨fun k hk => ?_, rows, hrl, ⟨fun k hk => hk.symm, rows.flatten, ⟨?_, .inr ⟨b, cap, cur, by rw [hrl], hb, hbh, by rw [hrl]; exact hn, hcm, hcur, by rw [hrl]; exact htake⟩⟩, ⟨?_, ?_⟩⟩, fun j x c hx hc => ?_⟩
 ·rw [hob] at hk; injection hk with hk; rw [← hk]; exact hok
 ·rw [zhk rows hk]; rfl
 ·rw [zhk rows hk]; rfl
 ·intro j p hj
  have hjl := (List.getElem?_eq_some_iff.1 hj).1
  have e1 : List.take (Kd.raw d.sz).sz (List.drop (j * (Kd.raw d.sz).sz) rows.flatten) = p := by
   show List.take d.sz (List.drop (j * d.sz) rows.flatten) = p
   rw [zgq rows j hk, List.drop_eq_getElem_cons hjl, List.flatten_cons]
   obtain ⟨_, he⟩ := List.getElem?_eq_some_iff.1 hj
   rw [he, List.take_append_of_le_length (by rw [hk p (List.mem_of_getElem? hj)]; exact Nat.le_refl _), List.take_of_length_le (by rw [hk p (List.mem_of_getElem? hj)]; exact Nat.le_refl _)]
  rw [e1]
  exact ⟨rfl, hk p (List.mem_of_getElem? hj), h1 p (List.mem_of_getElem? hj)⟩
 ·exact Kd.zfr (hf j x c hx hc) (fun k hk => ⟨hk.1, fun e => hk.2 (by rw [hob] at e; injection e)⟩)
end
theorem zde {P : Program} (w : World) (dT sT ty elem : TypeId) (K b o dLen dCap : Nat) (a : Addr) (sLen sCap : Nat) (cs : List Value)
  (hu : P.underlying dT = some (.slice elem)) (hs : (P.info? elem).map (·.size) = some K) (hn : cs.length = Nat.min sLen dLen * K)
  (hsrc : ∀ j v, cs[j]? = some v → w.cell? (a.add j) = some v) (hc : ∀ j, j < cs.length → (w.cell? ⟨b, o + j, none⟩).isSome = true) (hf : ∀ j, j < cs.length → w.frozen? ⟨b, o + j, none⟩ = false) (h1 : ∀ v ∈ cs, v.oneCell' = true) :
  (Builtin.copy_ #[dT, sT] ty #[.slice (some ⟨b, o, none⟩) dLen dCap, .slice (some a) sLen sCap]).run P w = .ok (goInt (Nat.min sLen dLen)) (w.setCells b o cs) := by
 have hl := run_loadCells_list (P := P) w a cs hsrc
 have hst := run_storeCells_cells (P := P) b o cs 0 w (by simpa using hc) (by simpa using hf) h1
 cases hq : P.info? elem with
 | none => simp [hq] at hs
 | some i =>
  have hi : i.size = K := by simpa [hq] using hs
  simp [Builtin.copy_, run_underlying hu, Builtin.lenOf, Builtin.firstCells, sizeOf, typeInfo, hq, hi, ← hn, hl, hst]
theorem zcv (b : Nat) (e : TypeId) : ∀ (vs : List Value) (o : Nat) (w : World) (cur : Array Value), w.heap[b]? = some (.cells cur e (0, 0)) → o + vs.length ≤ cur.size →
  ∃ cur', (w.setCells b o vs).heap[b]? = some (.cells cur' e (0, 0)) ∧ cur'.size = cur.size ∧ cur'.toList = cur.toList.take o ++ (vs ++ cur.toList.drop (o + vs.length))
 | [], o, w, cur, h, _ => ⟨cur, h, rfl, by simp⟩
 | v :: r, o, w, cur, h, hl => by
  have ho : o < cur.size := by simp at hl; omega
  have h1 : (w.setCell ⟨b, o, none⟩ v).heap[b]? = some (.cells (cur.setIfInBounds o v) e (0, 0)) := zbq h o v rfl
  obtain ⟨cur', h2, h3, h4⟩ := zcv b e r (o + 1) (w.setCell ⟨b, o, none⟩ v) (cur.setIfInBounds o v) h1 (by simp at hl ⊢; omega)
  refine ⟨cur', h2, by rw [h3, Array.size_setIfInBounds], ?_⟩
  rw [h4, Array.toList_setIfInBounds]
  have hlen : o < cur.toList.length := by rw [Array.length_toList]; exact ho
  have e1 : (cur.toList.set o v).take (o + 1) = cur.toList.take o ++ [v] := by
   rw [List.take_set, List.take_succ_eq_append_getElem hlen, List.set_append_right _ _ (by rw [List.length_take]; omega)]
   rw [List.length_take, Nat.min_eq_left (Nat.le_of_lt hlen), Nat.sub_self]; rfl
  have e2 : (cur.toList.set o v).drop (o + 1 + r.length) = cur.toList.drop (o + (r.length + 1)) := by
   rw [List.drop_set, if_pos (by omega), show o + 1 + r.length = o + (r.length + 1) by omega]
  rw [e1, e2]; simp
theorem zbd (b : Nat) : ∀ (vs : List Value) (o : Nat) (w : World), (w.setCells b o vs).os = w.os ∧ (w.setCells b o vs).tape = w.tape ∧ (w.setCells b o vs).output = w.output ∧ (w.setCells b o vs).heap.size = w.heap.size ∧ ∀ k, k ≠ b → (w.setCells b o vs).heap[k]? = w.heap[k]?
 | [], _, _ => ⟨rfl, rfl, rfl, rfl, fun _ _ => rfl⟩
 | v :: r, o, w => by
  obtain ⟨h1, h2, h3, h4, h5⟩ := zbd b r (o + 1) (w.setCell ⟨b, o, none⟩ v)
  refine ⟨h1, h2, h3, by rw [World.setCells, h4]; simp [World.setCell], fun k hk => ?_⟩
  rw [World.setCells, h5 k hk]
  exact Below.heap_setCell w ⟨b, o, none⟩ v k hk
theorem below_setCells {B b : Nat} {wo w : World} (h : Below B wo w) (hb : B ≤ b) (o : Nat) (vs : List Value) : Below B wo (w.setCells b o vs) := by
 obtain ⟨h1, h2, h3, h4, h5⟩ := zbd b vs o w
 exact h.trans ⟨h1, h2, h3, by rw [h4]; exact Nat.le_refl _, fun k hk => h5 k (by omega)⟩
theorem zhq {w : World} {b : Nat} {cur : Array Value} {e : TypeId} (h : w.heap[b]? = some (.cells cur e (0, 0))) : w.shape? b = some (e, cur.size) := by
 simp [World.shape?, h]
theorem cells_in {k i n : Nat} {cur cur1 cur2 cs vs : List Value} (hi : i ≤ n) (hcs : cs.length = n * k) (hvs : vs.length = k) (hcl : (n + 1) * k ≤ cur.length)
  (h0 : cur.take (i * k) = cs.take (i * k)) (h1 : cur1 = cur.take ((i + 1) * k) ++ (cs.drop (i * k) ++ cur.drop ((i + 1) * k + (cs.drop (i * k)).length))) (h2 : cur2 = cur1.take (i * k) ++ (vs ++ cur1.drop (i * k + vs.length))) :
  cur2.take ((n + 1) * k) = cs.take (i * k) ++ (vs ++ cs.drop (i * k)) := by
 have e1 : i * k ≤ n * k := Nat.mul_le_mul_right _ hi
 have e2 : (i + 1) * k = i * k + k := Nat.succ_mul i k
 have e3 : (n + 1) * k = n * k + k := Nat.succ_mul n k
 have hl1 : (cur.take ((i + 1) * k)).length = (i + 1) * k := by rw [List.length_take]; omega
 have t1 : cur1.take (i * k) = cs.take (i * k) := by
  rw [h1, List.take_append_of_le_length (by omega), List.take_take, Nat.min_eq_left (by omega), h0]
 have d1 : cur1.drop (i * k + vs.length) = cs.drop (i * k) ++ cur.drop ((i + 1) * k + (cs.drop (i * k)).length) := by
  rw [h1, hvs, ← e2, List.drop_append_of_le_length (by omega), List.drop_of_length_le (by omega), List.nil_append]
 rw [h2, t1, d1, ← List.append_assoc, ← List.append_assoc]
 have hl : (cs.take (i * k) ++ vs ++ cs.drop (i * k)).length = (n + 1) * k := by
  rw [List.length_append, List.length_append, List.length_take, List.length_drop, hvs]; omega
 rw [List.take_append_of_le_length (by omega), List.take_of_length_le (by omega), List.append_assoc]
theorem zck (w : World) (c : Array Value) (e : TypeId) : (w.alloc (.cells c e)).drew.heap[w.heap.size]? = some (.cells c e (0, 0)) := by
 show (w.alloc (.cells c e)).heap[w.heap.size]? = _
 simp [World.alloc, -World.alloc_eq]
theorem zfs (w : World) (o : Obj) (k : Nat) (hk : k < w.heap.size) : (w.alloc o).heap[k]? = w.heap[k]? := by
 simp [World.alloc, -World.alloc_eq, Array.getElem?_push, Nat.ne_of_lt hk]
theorem zdi (w : World) (o : Obj) : (w.alloc o).heap.size = w.heap.size + 1 := by
 simp [World.alloc, -World.alloc_eq]
theorem info56 : (Tryd.prog.info? 56).map (fun i => (i.zero, i.size, i.bytes)) = some (some (.agg #[(.string ⟨#[]⟩), (.slice none 0 0)]), 2, 40) := by kernel_rfl
theorem info41 : (Tryd.prog.info? 41).map (fun i => (i.zero, i.size, i.bytes)) = some (some (.agg #[(.int .i64 0), (.int .i64 0), (.int .i64 0), (.int .i64 0), (.int .i64 0), (.slice none 0 0)]), 6, 64) := by kernel_rfl
theorem wp_copy_runK {P : Program} (w : World) {o : Oper} {a : Act} {K : Act → World → Prop} {Q : Exit → Act → World → Prop} (d s : Operand) (t t' : TypeId)
  (ho : o.op = .call { callee := .builtin .copy, args := #[d, s], argTypes := #[t, t'] }) (v u : Value) (hd : a.eval d = v) (hs : a.eval s = u) {v' : Value} {w' : World}
  (hr : (Builtin.copy_ #[t, t'] o.type #[v, u]).run P w = .ok v' w') (h : K (a.put o.dst v') w') : o.wp P a w K Q := by
 unfold Oper.wp execOp
 simp only [ho, resolve, invoke, builtin, Sem.run_bind, Sem.run_pure, Result.andThen_ok, List.map_toArray, List.map_cons, List.map_nil, hd, hs, hr]
 exact h
theorem zdt {P : Program} (w : World) {ops : Array Oper} {rest : List Oper} {o : Oper} {a : Act} {Q : Exit → Act → World → Prop} (hgd : o.guard = none) (d s : Operand) (t t' : TypeId)
  (ho : o.op = .call { callee := .builtin .copy, args := #[d, s], argTypes := #[t, t'] }) (v u : Value) (hd : a.eval d = v) (hs : a.eval s = u) {v' : Value} {w' : World}
  (hr : (Builtin.copy_ #[t, t'] o.type #[v, u]).run P w = .ok v' w') (h : wpList P ops Q rest (a.put o.dst v') w') : wpList P ops Q (o :: rest) a w :=
 wpList_plain hgd fun _ hK => wp_copy_runK w d s t t' ho v u hd hs hr (hK _ _ h)
theorem zfw {P : Program} {ops : Array Oper} {o : Oper} {a : Act} {w : World} {K : Act → World → Prop} {Q : Exit → Act → World → Prop} {E : Prop}
  (hg : o.guard = none) (d x : Operand) (dT sT : TypeId) (hop : o.op = Op.call { callee := Callee.builtin Builtin.copy, args := #[d, x], argTypes := #[dT, sT] })
  (v u : Value) (hd : a.eval d = v) (hx : a.eval x = u) {v' : Value} {w' : World} (hr : (Builtin.copy_ #[dT, sT] o.type #[v, u]).run P w = .ok v' w') (hK : K (a.put o.dst v') w') :
  if Region.wanted o (yielded ops a.tmps) = true then Oper.wp P o a w K Q else E := by
 have hw : Region.wanted o (yielded ops a.tmps) = true := by simp [Region.wanted, hg]
 rw [if_pos hw]
 unfold Oper.wp
 simp [execOp, hop, resolve, invoke, builtin, hd, hx, hr, Result.andThen]
 exact hK
theorem zfn (b : Nat) (vs : List Value) (o : Nat) (w : World) (h : ∀ j, j < vs.length → (w.cell? ⟨b, o + j, none⟩).isSome = true) (k : Nat) (hk : (w.cell? ⟨b, k, none⟩).isSome = true) : ((w.setCells b o vs).cell? ⟨b, k, none⟩).isSome = true := by
 by_cases hin : o ≤ k ∧ k < o + vs.length
 ·have := World.cell?_setCells_in b vs o w h (k - o) (by omega)
  rw [show o + (k - o) = k by omega] at this
  rw [this]; rfl
 ·rw [World.cell?_setCells_out b vs o w ⟨b, k, none⟩ (fun _ _ => by show k < o ∨ o + vs.length ≤ k; omega)]
  exact hk
set_option maxHeartbeats 4000000 in
set_option maxRecDepth 100000 in
theorem insC_shift (b n c i vb vc : Nat) (cs vs : List Value) (w : World) (hi : i < n) (hroom : n + 1 ≤ c) (hc63 : c ≤ 9223372036854775807) (hvb : vb ≠ b)
  (hcl : cs.length = n * 2) (hvl : vs.length = 2)
  (hcs : ∀ j v, cs[j]? = some v → w.cell? ⟨b, j, none⟩ = some v) (hsp : ∀ j, j < (n + 1) * 2 → (w.cell? ⟨b, j, none⟩).isSome = true) (hfz : ∀ j, j < (n + 1) * 2 → w.frozen? ⟨b, j, none⟩ = false)
  (hvs : ∀ j v, vs[j]? = some v → w.cell? ⟨vb, j, none⟩ = some v) (h1c : ∀ v ∈ cs, v.oneCell' = true) (h1v : ∀ v ∈ vs, v.oneCell' = true)
  (tA tB : TypeId) (kA kB : Nat) (hsa : w.shape? vb = some (tA, kA)) (hsb : w.shape? b = some (tB, kB)) (hkB : kB ≠ 0) (hfa : w.frozen? ⟨vb, 0, none⟩ = false) (hfe : w.frozen? ⟨vb, kA, none⟩ = false) :
  Calls Tryd.prog 28 #[.slice (some ⟨b, 0, none⟩) n c, .int .i64 i, .slice (some ⟨vb, 0, none⟩) 1 vc] w fun e w' =>
   e = .returned (.slice (some ⟨b, 0, none⟩) (n + 1) c) ∧ w' = (w.drew.setCells b ((i + 1) * 2) (cs.drop (i * 2))).setCells b (i * 2) vs := by
 have hz2 : ¬ ((i : Int) = (n : Int)) := by omega
 have hsz : (Tryd.prog.info? 56).map (·.size) = some 2 := by kernel_rfl
 have hzz : ∀ w, (Go.sizeOf 56).run Tryd.prog w = .ok 2 w := fun w => by
  have := info56
  cases hq : Tryd.prog.info? 56 with
  | none => rw [hq] at hsz; cases hsz
  | some q => rw [hq] at hsz; simp [Go.sizeOf, typeInfo, hq]; simpa using hsz
 have hov : ∀ lb cb, (callFunc 45 #[.slice (some ⟨vb, 0, none⟩) 1 vc, .slice (some ⟨b, (i + 1) * 2, none⟩) lb cb]).run Tryd.prog w = .ok (.value (.bool false)) w := fun lb cb => by
  rw [run_callFunc_extern Tryd.func45 (by kernel_rfl) (by kernel_rfl) (by kernel_rfl) (e := Extern.SlicesOverlaps.overlaps #[22, 22] #[4]) (by kernel_rfl),
   Lib.run_overlaps_apart w 22 4 56 Tryd.underlying22 2 hzz ⟨vb, 0, none⟩ ⟨b, (i + 1) * 2, none⟩ 1 vc lb cb hvb tA tB kA kB hsa hsb hkB hfa hfe]
  rfl
 have hdl : (cs.drop (i * 2)).length = (n - i) * 2 := by rw [List.length_drop, hcl]; omega
 have hcp1 : ∀ ty dc sc, (Builtin.copy_ #[22, 22] ty #[.slice (some ⟨b, (i + 1) * 2, none⟩) (n - i) dc, .slice (some ⟨b, i * 2, none⟩) (n + 1 - i) sc]).run Tryd.prog w.drew = .ok (goInt (Nat.min (n + 1 - i) (n - i))) (w.drew.setCells b ((i + 1) * 2) (cs.drop (i * 2))) := fun ty dc sc =>
  zde w.drew _ _ ty 56 2 b ((i + 1) * 2) (n - i) dc ⟨b, i * 2, none⟩ (n + 1 - i) sc (cs.drop (i * 2)) Tryd.underlying22 hsz (by rw [hdl]; simp only [Nat.min_def]; split <;> omega)
   (fun j v hj => by rw [Addr.add_lit]; exact hcs (i * 2 + j) v (by rwa [List.getElem?_drop] at hj))
   (fun j hj => hsp _ (by rw [hdl] at hj; omega)) (fun j hj => hfz _ (by rw [hdl] at hj; omega)) (fun v hv => h1c v (List.mem_of_mem_drop hv))
 obtain ⟨W1, hW1⟩ : ∃ W1, W1 = w.drew.setCells b ((i + 1) * 2) (cs.drop (i * 2)) := ⟨_, rfl⟩
 have hsp1 : ∀ k, k < (n + 1) * 2 → (W1.cell? ⟨b, k, none⟩).isSome = true := fun k hk => by
  rw [hW1]
  exact zfn b _ _ w.drew (fun j hj => hsp ((i + 1) * 2 + j) (by rw [hdl] at hj; omega)) _ (hsp k hk)
 have hcp2 : ∀ (W : World), (∀ x, W.cell? x = W1.cell? x) → (∀ x, W.frozen? x = W1.frozen? x) → ∀ ty dc, (Builtin.copy_ #[22, 22] ty #[.slice (some ⟨b, i * 2, none⟩) (n + 1 - i) dc, .slice (some ⟨vb, 0, none⟩) 1 vc]).run Tryd.prog W = .ok (goInt (Nat.min 1 (n + 1 - i))) (W.setCells b (i * 2) vs) := fun W hWc hWf ty dc =>
  zde W _ _ ty 56 2 b (i * 2) (n + 1 - i) dc ⟨vb, 0, none⟩ 1 vc vs Tryd.underlying22 hsz (by rw [hvl]; simp only [Nat.min_def]; split <;> omega)
   (fun j v hj => by
    rw [Addr.add_lit, hWc, hW1, World.cell?_setCells_out b _ _ _ _ (fun h _ => absurd h hvb), Nat.zero_add]
    exact hvs j v hj)
   (fun j hj => by rw [hWc]; exact hsp1 _ (by rw [hvl] at hj; omega)) (fun j hj => by rw [hWf, hW1, World.frozen?_setCells]; exact hfz _ (by rw [hvl] at hj; omega)) h1v
 rw [← hW1] at hcp1
 have hw1 : IntKind.i64.wrap ((i : Int) + 1) = (i : Int) + 1 := by rw [IntKind.wrap_i64]; omega
 have hb1 : (0 : Int) ≤ (i : Int) + 1 := by omega
 have hin : i ≤ n := by omega
 have htn : ((i : Int) + 1).toNat = i + 1 := by omega
 have hb2 : ¬ (c = i + 1) := by omega
 have hb3 : (i : Int) ≤ (n : Int) + 1 := by omega
 have hb4 : ¬ (c = i) := by omega
 have mixed : Tryd.prog.follows Departure.mixedOrders = true := by kernel_rfl
 go_enter Tryd.func28, Tryd.ntmps28
 go_wp2_with (simp only [hov])
 go_region_law_o (refine zfw rfl _ _ 22 22 rfl _ _ (by simp [Act.eval, Act.put]) (by simp [Act.eval, Act.put]) (hcp1 _ _ _) ?_)
 go_wp2_with (at_builtin; refine zdt _ rfl _ _ 22 22 rfl _ _ rfl rfl (hcp2 _ (fun _ => rfl) (fun _ => rfl) _ _) ?_)
 go_ret
 first | exact ⟨rfl, rfl⟩ | exact ⟨rfl, by rw [hW1]⟩
set_option maxHeartbeats 4000000 in
set_option maxRecDepth 100000 in
theorem insC_grow (b n c i vb vc : Nat) (cs vs : List Value) (w : World) (hi : i < n) (hnc : n ≤ c) (hroom : c < n + 1) (hn1 : n ≤ 1000000)
  (hcl : cs.length = n * 2) (hvl : vs.length = 2)
  (hcs : ∀ j v, cs[j]? = some v → w.cell? ⟨b, j, none⟩ = some v)
  (hvs : ∀ j v, vs[j]? = some v → w.cell? ⟨vb, j, none⟩ = some v) (h1c : ∀ v ∈ cs, v.oneCell' = true) (h1v : ∀ v ∈ vs, v.oneCell' = true) (hvw : vb < w.heap.size) :
  Calls Tryd.prog 28 #[.slice (some ⟨b, 0, none⟩) n c, .int .i64 i, .slice (some ⟨vb, 0, none⟩) 1 vc] w fun e w' =>
   ∃ (G : Nat) (ROW : Array Value), e = .returned (.slice (some ⟨w.heap.size, 0, none⟩) (n + 1) G) ∧ n + 1 ≤ G ∧ G ≤ maxLen ∧ ROW.size = G * 2 ∧ ROW.toList.take (i * 2) = cs.take (i * 2) ∧
   w' = (((w.alloc (.cells ROW 56)).drew.setCells w.heap.size (i * 2) vs).drew).setCells w.heap.size ((i + 1) * 2) (cs.drop (i * 2)) := by
 obtain ⟨i0, hi0, hz0, hzs, hzb⟩ := info_parts info56
 have hz2 : ¬ ((i : Int) = (n : Int)) := by omega
 have hz3 : (c : Int) < (n : Int) + 1 := by omega
 have hsz : (Tryd.prog.info? 56).map (·.size) = some 2 := by rw [hi0]; simp [hzs]
 have hbw : b < w.heap.size := block_lt_of_cell (hcs 0 _ (List.getElem?_eq_getElem (by omega)))
 have hkk : (n : Int) + 1 - (i : Int) = ((n + 1 - i : Nat) : Int) := by omega
 have hik : i + (n + 1 - i) = n + 1 := by omega
 have hold : (Builtin.firstCells i0.size i (.slice (some ⟨b, 0, none⟩) i c)).run Tryd.prog w.drew = .ok (cs.take (i * 2)).toArray w.drew := by
  rw [hzs]
  exact run_firstCells_some w.drew 2 i ⟨b, 0, none⟩ i c (cs.take (i * 2)) (by rw [List.length_take]; omega) (fun j v hj => by
   rw [Addr.add_lit, Nat.zero_add]
   rw [List.getElem?_take] at hj
   split at hj
   ·exact hcs j v hj
   ·cases hj)
 have hrz : ∀ ty, (Builtin.append_ #[22, 3] ty #[.slice (some ⟨b, 0, none⟩) i c, .int .i64 ((n : Int) + 1 - (i : Int))]).run Tryd.prog w =
   .ok (.slice (some ⟨w.heap.size, 0, none⟩) (n + 1) (grownCap w (n + 1) c 56)) (w.drew.alloc (.cells ((cs.take (i * 2)).toArray ++ Builtin.zeroCells (Value.cells (.agg #[(.string ⟨#[]⟩), (.slice none 0 0)])) (n + 1 - i) ++ Builtin.zeroCells (Value.cells (.agg #[(.string ⟨#[]⟩), (.slice none 0 0)])) (grownCap w (n + 1) c 56 - (n + 1))) 56)) := fun ty => by
  have h := Lib.run_append_grow_zeros w 22 3 ty 56 i0 _ .i64 .i64 Tryd.underlying22 Tryd.underlying3 hi0 hz0 (some ⟨b, 0, none⟩) i c (cs.take (i * 2)) hold (n + 1 - i) (by omega) (by omega) (by omega) (by omega) (by rw [hzb]; omega) (by rw [hzb, hik]; exact growslice_fits hroom (by omega))
  rw [hik] at h
  rw [hkk]
  exact h
 obtain ⟨G, hG⟩ : ∃ G, G = grownCap w (n + 1) c 56 := ⟨_, rfl⟩
 obtain ⟨ROW, hROW⟩ : ∃ ROW : Array Value, ROW = (cs.take (i * 2)).toArray ++ Builtin.zeroCells (Value.cells (.agg #[(.string ⟨#[]⟩), (.slice none 0 0)])) (n + 1 - i) ++ Builtin.zeroCells (Value.cells (.agg #[(.string ⟨#[]⟩), (.slice none 0 0)])) (G - (n + 1)) := ⟨_, rfl⟩
 rw [← hG] at hrz
 rw [← hROW] at hrz
 have hGn : n + 1 ≤ G := by rw [hG]; exact grownCap_ge w _ _ _
 have hG63 : G ≤ maxLen := by
  have := grownCap_le_maxLen w (n + 1) c 56 (by unfold maxLen; omega)
  rw [← hG] at this
  exact this
 have hzl : ∀ m, (Builtin.zeroCells (Value.cells (.agg #[(.string ⟨#[]⟩), (.slice none 0 0)])) m).size = m * 2 := fun m => by
  simp [Builtin.zeroCells, Value.cells]
 have htl : (cs.take (i * 2)).length = i * 2 := by rw [List.length_take]; omega
 have hRl : ROW.size = G * 2 := by
  rw [hROW, Array.size_append, Array.size_append, hzl, hzl, List.size_toArray, htl]
  omega
 have hRt : ROW.toList.take (i * 2) = cs.take (i * 2) := by
  rw [hROW, Array.toList_append, Array.toList_append, List.append_assoc, List.take_append_of_le_length (by rw [htl]; exact Nat.le_refl _), List.take_of_length_le (by rw [htl]; exact Nat.le_refl _)]
 obtain ⟨W1, hW1⟩ : ∃ W1, W1 = w.drew.alloc (.cells ROW 56) := ⟨_, rfl⟩
 rw [← hW1] at hrz
 have hN : ∀ j, j < (n + 1) * 2 → (W1.cell? ⟨w.heap.size, j, none⟩).isSome = true := fun j hj => by
  rw [hW1, World.cell?_alloc_at (w := w.drew) ROW _ w.heap.size j rfl, Array.getElem?_eq_getElem (by rw [hRl]; have := Nat.mul_le_mul_right 2 hGn; omega)]; rfl
 have hNf : ∀ j, W1.frozen? ⟨w.heap.size, j, none⟩ = false := fun j => by rw [hW1]; exact World.frozen?_alloc_at (w := w.drew) ROW _ w.heap.size j rfl
 have hOb : ∀ j v, w.cell? ⟨b, j, none⟩ = some v → W1.cell? ⟨b, j, none⟩ = some v := fun j v h => by rw [hW1, World.cell?_alloc_past (w := w.drew) _ b j hbw]; exact h
 have hOv : ∀ j v, w.cell? ⟨vb, j, none⟩ = some v → W1.cell? ⟨vb, j, none⟩ = some v := fun j v h => by rw [hW1, World.cell?_alloc_past (w := w.drew) _ vb j hvw]; exact h
 have hcpA : ∀ (W : World), (∀ x, W.cell? x = W1.cell? x) → (∀ x, W.frozen? x = W1.frozen? x) → ∀ ty dc, (Builtin.copy_ #[22, 22] ty #[.slice (some ⟨w.heap.size, i * 2, none⟩) (n + 1 - i) dc, .slice (some ⟨vb, 0, none⟩) 1 vc]).run Tryd.prog W = .ok (goInt (Nat.min 1 (n + 1 - i))) (W.setCells w.heap.size (i * 2) vs) := fun W hWc hWf ty dc =>
  zde W _ _ ty 56 2 w.heap.size (i * 2) (n + 1 - i) dc ⟨vb, 0, none⟩ 1 vc vs Tryd.underlying22 hsz (by rw [hvl]; simp only [Nat.min_def]; split <;> omega)
   (fun j v hj => by rw [Addr.add_lit, hWc, Nat.zero_add]; exact hOv _ v (hvs j v hj))
   (fun j hj => by rw [hWc]; exact hN _ (by rw [hvl] at hj; omega)) (fun j hj => by rw [hWf]; exact hNf _) h1v
 have hGi : ¬ (G = i) := by omega
 have hGim : ¬ (G = i + 1) := by omega
 have hG63' : G ≤ 9223372036854775807 := by unfold maxLen at hG63; omega
 have hci : ¬ (c = i) := by omega
 have hbN : b ≠ w.heap.size := by omega
 have hdl : (cs.drop (i * 2)).length = (n - i) * 2 := by rw [List.length_drop, hcl]; omega
 have hcpB : ∀ (W : World), (∀ x, W.cell? x = (W1.setCells w.heap.size (i * 2) vs).cell? x) → (∀ x, W.frozen? x = (W1.setCells w.heap.size (i * 2) vs).frozen? x) → ∀ ty dc sc, (Builtin.copy_ #[22, 22] ty #[.slice (some ⟨w.heap.size, (i + 1) * 2, none⟩) (n - i) dc, .slice (some ⟨b, i * 2, none⟩) (n - i) sc]).run Tryd.prog W = .ok (goInt (Nat.min (n - i) (n - i))) (W.setCells w.heap.size ((i + 1) * 2) (cs.drop (i * 2))) := fun W hWc hWf ty dc sc =>
  zde W _ _ ty 56 2 w.heap.size ((i + 1) * 2) (n - i) dc ⟨b, i * 2, none⟩ (n - i) sc (cs.drop (i * 2)) Tryd.underlying22 hsz (by rw [hdl]; simp only [Nat.min_def]; split <;> omega)
   (fun j v hj => by
    rw [Addr.add_lit, hWc, World.cell?_setCells_out _ _ _ _ _ (fun h _ => absurd h hbN)]
    exact hOb _ v (hcs (i * 2 + j) v (by rwa [List.getElem?_drop] at hj)))
   (fun j hj => by
    rw [hWc]
    exact zfn _ _ _ W1 (fun t ht => hN (i * 2 + t) (by rw [hvl] at ht; omega)) _ (hN ((i + 1) * 2 + j) (by rw [hdl] at hj; omega)))
   (fun j hj => by rw [hWf, World.frozen?_setCells]; exact hNf _) (fun v hv => h1c v (List.mem_of_mem_drop hv))
 subst hW1
 have hE1 : ∀ x, ((w.alloc (.cells ROW 56)).drew).cell? x = (w.drew.alloc (.cells ROW 56)).cell? x := fun x => rfl
 have hE2 : ∀ x, ((w.alloc (.cells ROW 56)).drew).frozen? x = (w.drew.alloc (.cells ROW 56)).frozen? x := fun x => rfl
 have hF1 : ∀ x, (((w.alloc (.cells ROW 56)).drew.setCells w.heap.size (i * 2) vs).drew).cell? x = ((w.drew.alloc (.cells ROW 56)).setCells w.heap.size (i * 2) vs).cell? x := fun x => rfl
 have hF2 : ∀ x, (((w.alloc (.cells ROW 56)).drew.setCells w.heap.size (i * 2) vs).drew).frozen? x = ((w.drew.alloc (.cells ROW 56)).setCells w.heap.size (i * 2) vs).frozen? x := fun x => rfl
 have hw1 : IntKind.i64.wrap ((i : Int) + 1) = (i : Int) + 1 := by rw [IntKind.wrap_i64]; omega
 have hb1 : (0 : Int) ≤ (i : Int) + 1 := by omega
 have hin : i ≤ n := by omega
 have htn : ((i : Int) + 1).toNat = i + 1 := by omega
 have hb3 : (i : Int) ≤ (n : Int) := by omega
 have HGN := zab.mk hGn
 have HG63 := zab.mk hG63
 have HRL := zab.mk hRl
 have HRT := zab.mk hRt
 clear hkk hik hold hROW hG hRl hRt hzl htl hGn hG63
 have hGn2 : n + 1 ≤ G := HGN.out
 have mixed : Tryd.prog.follows Departure.mixedOrders = true := by kernel_rfl
 have mixed2 : Tryd.prog.follows Departure.appendOfMake = true := by kernel_rfl
 go_enter Tryd.func28, Tryd.ntmps28
 go_wp2_with (first
  | (at_builtin; refine Lib.wpList_append_run _ rfl _ _ _ _ rfl _ _ rfl rfl _ _ (hrz _) ?_)
  | (at_builtin; refine zdt _ rfl _ _ 22 22 rfl _ _ rfl rfl (hcpA _ hE1 hE2 _ _) ?_)
  | (at_builtin; refine zdt _ rfl _ _ 22 22 rfl _ _ rfl rfl (hcpB _ (fun _ => rfl) (fun _ => rfl) _ _ _) ?_))
 go_region_law_o (refine zfw rfl _ _ 22 22 rfl (.slice (some ⟨w.heap.size, (i + 1) * 2, none⟩) (n - i) (G - (i + 1))) (.slice (some ⟨b, i * 2, none⟩) (n - i) (c - i)) (by simp [Act.eval, Act.put]) (by simp [Act.eval, Act.put]) (hcpB _ hF1 hF2 3 (G - (i + 1)) (c - i)) ?_)
 go_wp2
 go_ret
 exact ⟨G, ROW, rfl, HGN.out, HG63.out, HRL.out, HRT.out, rfl⟩
set_option maxHeartbeats 4000000 in
set_option maxRecDepth 100000 in
theorem insC_N {α : Type} {d : Kd α} (hd : d.sz = 2) (wo w : World) (ok okx : Nat → Prop) (u : Value) (vb vc : Nat) (cx : Array Value) (xs : List α) (x : α) (i : Nat) (P_ : Nat → Prop) (hB : Below wo.heap.size wo w) (ho : Kd.N d 56 w wo.heap.size ok u xs) (hP : ∀ k, some k = u.ownBlock → P_ k)
  (hvb : w.heap[vb]? = some (.cells cx 56 (0, 0))) (hvc : 1 ≤ vc) (hvo : wo.heap.size ≤ vb) (hne : some vb ≠ u.ownBlock) (hcx : cx.size = 2) (hx : Kd.FK d w okx x cx.toList) (hap : ∀ k, okx k → some k ≠ u.ownBlock) (hi : i ≤ xs.length) (hl : xs.length ≤ 1000000) :
  Calls Tryd.prog 28 #[u, .int .i64 i, .slice (some ⟨vb, 0, none⟩) 1 vc] w fun e' w' => ∃ v0, e' = .returned v0 ∧ Kd.N d 56 w' wo.heap.size (fun k => (ok k ∨ okx k) ∨ wo.heap.size ≤ k) v0 (xs.take i ++ ([x] ++ xs.drop i)) ∧ Below wo.heap.size wo w' ∧ Kept w w' P_ := by
 have hkx := Kd.zff hx
 have h1x := d.K_one hkx
 have hxl : cx.toList.length = 2 := by rw [Array.length_toList]; exact hcx
 by_cases hin : i = xs.length
 ·subst hin
  have hN : Kd.N d 56 w wo.heap.size (fun k => (ok k ∨ okx k) ∨ wo.heap.size ≤ k) u xs := Kd.zci ho (fun k hk => .inl (.inl hk))
  have hF : Kd.F d w (fun k => okx k ∨ k = vb) (some ⟨vb, 0, none⟩) 1 [x] := fun W' hW => by
   have hbb : W'.heap[vb]? = some (.cells cx 56 (0, 0)) := (hW vb (.inr rfl) (zca hvb)).trans hvb
   refine ⟨rfl, by decide, fun _ => ⟨⟨vb, 0, none⟩, rfl, fun j p hj => ?_⟩⟩
   cases j with
   | succ j => simp at hj
   | zero =>
    simp only [List.getElem?_cons_zero, Option.some.injEq] at hj
    subst hj
    refine ⟨cx.toList, by rw [hxl, hd], hx W' (fun k hk hlt => hW k (.inl hk) hlt), fun q u' hq => ?_⟩
    have := zat hbb q
    rw [Nat.zero_mul, Nat.zero_add]
    show W'.cell? ((⟨vb, 0, none⟩ : Addr).add q) = _
    rw [Addr.add_lit, Nat.zero_add, this, ← Array.getElem?_toList]; exact hq
  have HN := zab.mk hN
  have HF := zab.mk hF
  have HB := zab.mk hB
  have hz2 : ¬ ((1 : Int) = 0) := by decide
  have HNE := zab.mk hne
  have HAP := zab.mk hap
  have HVO := zab.mk hvo
  have HP := zab.mk hP
  have hi63 : (xs.length : Int) ≤ 9223372036854775807 := by omega
  have hns : ∃ A c, u = .slice A xs.length c := Kd.zcy ho
  obtain ⟨A0, c0, hu⟩ := hns
  have hc0 : xs.length ≤ c0 ∧ (c0 : Int) ≤ 9223372036854775807 ∧ (A0 = none → xs.length = 0 ∧ c0 = 0) ∧ ∀ a, A0 = some a → ∃ b, a = ⟨b, 0, none⟩ := by
   obtain ⟨rows, _, _, _, _, hh⟩ := N_open ho
   rcases hh with ⟨hv, h0, _⟩ | ⟨b, cap, cur, hv, _, _, _, h1, h2, _⟩
   ·rw [hu] at hv; injection hv with e1 e2 e3; subst e1 e3
    exact ⟨by omega, by omega, fun _ => ⟨e2, rfl⟩, fun a ha => by cases ha⟩
   ·rw [hu] at hv; injection hv with e1 e2 e3; subst e1 e3
    unfold maxLen at h2
    exact ⟨h1, by omega, fun h => (by cases h), fun a ha => ⟨b, (Option.some.inj ha).symm⟩⟩
  subst hu
  clear hN hF hB ho hP hvb hvo hne hx hap hkx h1x hxl hcx
  go_enter Tryd.func28, Tryd.ntmps28
  have hc1 := hc0.1
  have hc2 := hc0.2.1
  cases A0 with
  | none =>
   obtain ⟨e1, e2⟩ := hc0.2.2.1 rfl
   subst e2
   rw [e1] at HN HNE HAP HP hi63 hl hi hc1 ⊢
   go_wp2_with (at_builtin; refine Kd.zdb d (w0 := wo) wo.heap.size rfl _ _ 22 56 (.agg #[(.string ⟨#[]⟩), (.slice none 0 0)]) 40 rfl Tryd.underlying22 (by rw [hd]; exact info56) (by rw [hd]; rfl) (by rw [hd]; decide) (by decide) (.slice none 0 0) xs [x] (some ⟨vb, 0, none⟩) 1 vc (fun k => (ok k ∨ okx k) ∨ wo.heap.size ≤ k) (fun k => okx k ∨ k = vb) rfl rfl HN.out HF.out (fun k hk => ⟨hk.elim (fun h => .inl (.inr h)) (fun h => .inr (h ▸ HVO.out)), hk.elim (fun h => HAP.out k h) (fun h => h ▸ HNE.out)⟩) (fun k hk => .inr (Nat.le_trans HB.out.size hk)) HB.out HB.out.size (by rw [e1]; decide) ?_; intro v1 w1 hN1 hb1 hg1 hat1; have HN1 := zab.mk hN1; have HB1 := zab.mk hb1; have HG1 := zab.mk hg1; clear hN1 hb1 hg1 hat1)
   go_ret
   refine ⟨_, rfl, ?_, HB1.out, HG1.out.size, fun k hk hnp => HG1.out.block k hk (fun h => hnp (HP.out k h))⟩
   have e3 : xs = [] := List.eq_nil_of_length_eq_zero e1
   have := HN1.out
   rw [e3] at this ⊢
   exact this
  | some a =>
   obtain ⟨b, hb⟩ := hc0.2.2.2 a rfl
   subst hb
   go_wp2_with (at_builtin; refine Kd.zdb d (w0 := wo) wo.heap.size rfl _ _ 22 56 (.agg #[(.string ⟨#[]⟩), (.slice none 0 0)]) 40 rfl Tryd.underlying22 (by rw [hd]; exact info56) (by rw [hd]; rfl) (by rw [hd]; decide) (by decide) (.slice (some ⟨b, 0, none⟩) xs.length c0) xs [x] (some ⟨vb, 0, none⟩) 1 vc (fun k => (ok k ∨ okx k) ∨ wo.heap.size ≤ k) (fun k => okx k ∨ k = vb) rfl rfl HN.out HF.out (fun k hk => ⟨hk.elim (fun h => .inl (.inr h)) (fun h => .inr (h ▸ HVO.out)), hk.elim (fun h => HAP.out k h) (fun h => h ▸ HNE.out)⟩) (fun k hk => .inr (Nat.le_trans HB.out.size hk)) HB.out HB.out.size (by omega) ?_; intro v1 w1 hN1 hb1 hg1 hat1; have HN1 := zab.mk hN1; have HB1 := zab.mk hb1; have HG1 := zab.mk hg1; clear hN1 hb1 hg1 hat1)
   all_goals go_ret
   all_goals
    refine ⟨_, rfl, ?_, HB1.out, HG1.out.size, fun k hk hnp => HG1.out.block k hk (fun h => hnp (HP.out k h))⟩
    have := HN1.out
    first
     | exact this
     | (rw [List.take_of_length_le (Nat.le_refl _), List.drop_of_length_le (Nat.le_refl _), List.append_nil]; exact this)
     | (simp only [List.take_of_length_le (Nat.le_refl _), List.drop_of_length_le (Nat.le_refl _)]; exact this)
 ·have hlt : i < xs.length := by omega
  obtain ⟨rows, hrl, hk, h1, hf, hh⟩ := N_open ho
  rw [hd] at hk hh
  rcases hh with ⟨hv, h0, _⟩ | ⟨b, cap, cur, hv, hbb, hokb, hbh, hncap, hcm, hcur, htake⟩
  ·rw [h0] at hlt; exact absurd hlt (Nat.not_lt_zero _)
  subst hv
  have hob : (Value.slice (some ⟨b, 0, none⟩) xs.length cap).ownBlock = some b := rfl
  have hvbb : vb ≠ b := fun e => hne (by rw [hob, e])
  have hfl : rows.flatten.length = xs.length * 2 := by rw [zhk rows hk, hrl]
  have hcsz : cur.size = cap * 2 := hcur
  have hcell : ∀ j v, rows.flatten[j]? = some v → w.cell? ⟨b, j, none⟩ = some v := fun j v hj => by
   have hjl := (List.getElem?_eq_some_iff.1 hj).1
   rw [← htake, List.getElem?_take_of_lt (by omega), Array.getElem?_toList] at hj
   rw [zat hbh j]; exact hj
  have h1c : ∀ v ∈ rows.flatten, v.oneCell' = true := fun v hv => by
   obtain ⟨c, hc, hv⟩ := List.mem_flatten.1 hv
   exact h1 c hc v hv
  have hvsc : ∀ j v, cx.toList[j]? = some v → w.cell? ⟨vb, j, none⟩ = some v := fun j v hj => by
   rw [zat hvb j, ← Array.getElem?_toList]; exact hj
  have hdr : rows.flatten.drop (i * 2) = (rows.drop i).flatten := zgq rows i hk
  have htr : rows.flatten.take (i * 2) = (rows.take i).flatten := zhx rows i hk
  have hrows : ∀ (b' : Nat) (w' : World), (∀ k, k < w.heap.size → k ≠ b → w'.heap[k]? = w.heap[k]?) → (b' = b ∨ w.heap.size ≤ b') → ∀ (j : Nat) (y : α) (c : List Value), (xs.take i ++ ([x] ++ xs.drop i))[j]? = some y → (rows.take i ++ ([cx.toList] ++ rows.drop i))[j]? = some c → Kd.FK d w' (fun k => ((ok k ∨ okx k) ∨ wo.heap.size ≤ k) ∧ k ≠ b') y c := by
   intro b' w' hsame hb' j y c hy hc
   have fromx : ∀ (j : Nat) (y : α) (c : List Value), xs[j]? = some y → rows[j]? = some c → Kd.FK d w' (fun k => ((ok k ∨ okx k) ∨ wo.heap.size ≤ k) ∧ k ≠ b') y c := fun j y c hy hc => by
    have h := Kd.zgb (Kd.zgi (hf j y c hy hc)) (fun k hk hlt => hsame k hlt (fun e => hk.1.2 (by rw [hob, e])))
    refine Kd.zfr h (fun k hk => ⟨.inl (.inl hk.1.1), fun e => ?_⟩)
    rcases hb' with e2 | e2
    ·exact hk.1.2 (by rw [hob, e, e2])
    ·have := hk.2; omega
   rcases Nat.lt_trichotomy j i with hji | hji | hji
   ·rw [List.getElem?_append_left (by rw [List.length_take]; omega), List.getElem?_take_of_lt hji] at hy
    rw [List.getElem?_append_left (by rw [List.length_take]; omega), List.getElem?_take_of_lt hji] at hc
    exact fromx j y c hy hc
   ·subst hji
    rw [List.getElem?_append_right (by rw [List.length_take]; omega), List.length_take, Nat.min_eq_left (by omega), Nat.sub_self] at hy
    rw [List.getElem?_append_right (by rw [List.length_take]; omega), List.length_take, Nat.min_eq_left (by omega), Nat.sub_self] at hc
    simp only [List.cons_append, List.nil_append, List.getElem?_cons_zero, Option.some.injEq] at hy hc
    subst hy hc
    have h := Kd.zgb (Kd.zgi hx) (fun k hk hlt => hsame k hlt (fun e => hap k hk.1 (by rw [hob, e])))
    refine Kd.zfr h (fun k hk => ⟨.inl (.inr hk.1), fun e => ?_⟩)
    rcases hb' with e2 | e2
    ·exact hap k hk.1 (by rw [hob, e, e2])
    ·have := hk.2; omega
   ·obtain ⟨t, rfl⟩ : ∃ t, j = i + 1 + t := ⟨j - (i + 1), by omega⟩
    rw [List.getElem?_append_right (by rw [List.length_take]; omega), List.length_take, Nat.min_eq_left (by omega), show i + 1 + t - i = t + 1 by omega] at hy
    rw [List.getElem?_append_right (by rw [List.length_take]; omega), List.length_take, Nat.min_eq_left (by omega), show i + 1 + t - i = t + 1 by omega] at hc
    simp only [List.cons_append, List.nil_append, List.getElem?_cons_succ] at hy hc
    rw [List.getElem?_drop] at hy hc
    exact fromx (i + t) y c hy hc
  have hrl' : (rows.take i ++ ([cx.toList] ++ rows.drop i)).length = (xs.take i ++ ([x] ++ xs.drop i)).length := by simp; omega
  have hk' : ∀ c ∈ rows.take i ++ ([cx.toList] ++ rows.drop i), c.length = d.sz := fun c hc => by
   rw [hd]
   rcases List.mem_append.1 hc with h | h
   ·exact hk c (List.mem_of_mem_take h)
   ·rcases List.mem_append.1 h with h | h
    ·rw [List.mem_singleton.1 h]; exact hxl
    ·exact hk c (List.mem_of_mem_drop h)
  have h1' : ∀ c ∈ rows.take i ++ ([cx.toList] ++ rows.drop i), ∀ u ∈ c, u.oneCell' = true := fun c hc => by
   rcases List.mem_append.1 hc with h | h
   ·exact h1 c (List.mem_of_mem_take h)
   ·rcases List.mem_append.1 h with h | h
    ·rw [List.mem_singleton.1 h]; exact h1x
    ·exact h1 c (List.mem_of_mem_drop h)
  have hnl : (xs.take i ++ ([x] ++ xs.drop i)).length = xs.length + 1 := by simp; omega
  have hflat' : (rows.take i ++ ([cx.toList] ++ rows.drop i)).flatten = rows.flatten.take (i * 2) ++ (cx.toList ++ rows.flatten.drop (i * 2)) := by
   rw [htr, hdr, List.flatten_append, List.flatten_append]; simp
  by_cases hroom : xs.length + 1 ≤ cap
  ·have hfit : (xs.length + 1) * 2 ≤ cur.size := by rw [hcsz]; exact Nat.mul_le_mul_right _ hroom
   refine (insC_shift b xs.length cap i vb vc rows.flatten cx.toList w hlt hroom (by unfold maxLen at hcm; omega) hvbb hfl hxl hcell (fun j hj => ?_) (fun j _ => zag hbh j) hvsc h1c h1x 56 56 cx.size cur.size (zhq hvb) (zhq hbh) (by omega) (zag hvb 0) (zag hvb _)).mono ?_
   ·rw [zat hbh j, Array.getElem?_eq_getElem (by omega)]; rfl
   rintro e' w' ⟨rfl, rfl⟩
   obtain ⟨cur1, q1, q2, q3⟩ := zcv b 56 (rows.flatten.drop (i * 2)) ((i + 1) * 2) w.drew cur hbh (by rw [List.length_drop, hfl]; omega)
   obtain ⟨cur2, r1, r2, r3⟩ := zcv b 56 cx.toList (i * 2) _ cur1 q1 (by rw [hxl, q2]; omega)
   have hoth : ∀ k, k ≠ b → ((w.drew.setCells b ((i + 1) * 2) (rows.flatten.drop (i * 2))).setCells b (i * 2) cx.toList).heap[k]? = w.heap[k]? := fun k hk => by
    rw [(zbd b _ _ _).2.2.2.2 k hk, (zbd b _ _ _).2.2.2.2 k hk]; rfl
   have hBB := below_setCells (below_setCells (zbz hB) hbb ((i + 1) * 2) (rows.flatten.drop (i * 2))) hbb (i * 2) cx.toList
   have hsz : w.heap.size ≤ ((w.drew.setCells b ((i + 1) * 2) (rows.flatten.drop (i * 2))).setCells b (i * 2) cx.toList).heap.size := by
    rw [(zbd b _ _ _).2.2.2.1, (zbd b _ _ _).2.2.2.1]; exact Nat.le_refl _
   refine ⟨_, rfl, ?_, hBB, hsz, fun k _ hnp => hoth k (fun e => hnp (hP k (by rw [hob, e])))⟩
   have htk := cells_in (k := 2) (i := i) (n := xs.length) (cur := cur.toList) (cur1 := cur1.toList) (cur2 := cur2.toList) (cs := rows.flatten) (vs := cx.toList) hi hfl hxl (by rw [Array.length_toList]; exact hfit)
    (by rw [← htake, List.take_take, Nat.min_eq_left (Nat.mul_le_mul_right _ hi)]) q3 r3
   have := N_make (d := d) (base := wo.heap.size) (ok := fun k => (ok k ∨ okx k) ∨ wo.heap.size ≤ k) (xs := xs.take i ++ ([x] ++ xs.drop i)) (rows := rows.take i ++ ([cx.toList] ++ rows.drop i)) (b := b) (cap := cap) (cur := cur2) hrl' hk' h1'
    (hrows b _ (fun k _ hk => hoth k hk) (.inl rfl)) hbb (.inl (.inl hokb)) r1 (by rw [hnl]; exact hroom) hcm (by rw [r2, q2, hcsz, hd]) (by rw [hnl, hd, htk, hflat'])
   rw [hnl] at this
   exact this
  ·refine (insC_grow b xs.length cap i vb vc rows.flatten cx.toList w hlt hncap (by omega) hl hfl hxl hcell hvsc h1c h1x (zca hvb)).mono ?_
   rintro e' w' ⟨G, ROW, rfl, g1, g2, g3, g4, rfl⟩
   have hg0 : (w.alloc (.cells ROW 56)).drew.heap[w.heap.size]? = some (.cells ROW 56 (0, 0)) := zck w ROW 56
   have hG2 : (xs.length + 1) * 2 ≤ ROW.size := by rw [g3]; exact Nat.mul_le_mul_right _ g1
   obtain ⟨cur1, q1, q2, q3⟩ := zcv w.heap.size 56 cx.toList (i * 2) _ ROW hg0 (by rw [hxl]; omega)
   obtain ⟨cur2, r1, r2, r3⟩ := zcv w.heap.size 56 (rows.flatten.drop (i * 2)) ((i + 1) * 2) _ cur1 (show ((((w.alloc (.cells ROW 56)).drew.setCells w.heap.size (i * 2) cx.toList).drew).heap[w.heap.size]?) = _ from q1) (by rw [List.length_drop, hfl, q2]; omega)
   have hoth : ∀ k, k < w.heap.size → (((((w.alloc (.cells ROW 56)).drew.setCells w.heap.size (i * 2) cx.toList).drew).setCells w.heap.size ((i + 1) * 2) (rows.flatten.drop (i * 2))).heap[k]?) = w.heap[k]? := fun k hk => by
    rw [(zbd _ _ _ _).2.2.2.2 k (by omega)]
    show ((w.alloc (.cells ROW 56)).drew.setCells w.heap.size (i * 2) cx.toList).heap[k]? = _
    rw [(zbd _ _ _ _).2.2.2.2 k (by omega)]
    exact zfs w _ k hk
   have hBB := below_setCells (zbz (below_setCells (zbz (zas hB (.cells ROW 56))) (hB.size) (i * 2) cx.toList)) (hB.size) ((i + 1) * 2) (rows.flatten.drop (i * 2))
   have hsz : w.heap.size ≤ ((((w.alloc (.cells ROW 56)).drew.setCells w.heap.size (i * 2) cx.toList).drew).setCells w.heap.size ((i + 1) * 2) (rows.flatten.drop (i * 2))).heap.size := by
    rw [(zbd _ _ _ _).2.2.2.1]
    show _ ≤ ((w.alloc (.cells ROW 56)).drew.setCells w.heap.size (i * 2) cx.toList).heap.size
    rw [(zbd _ _ _ _).2.2.2.1]
    exact Nat.le_of_lt (Nat.lt_of_lt_of_le (Nat.lt_succ_self _) (Nat.le_of_eq (zdi w _).symm))
   refine ⟨_, rfl, ?_, hBB, hsz, fun k hk _ => hoth k hk⟩
   have htk : cur2.toList.take ((xs.length + 1) * 2) = rows.flatten.take (i * 2) ++ (cx.toList ++ rows.flatten.drop (i * 2)) := by
    have l1 : cur1.toList.take ((i + 1) * 2) = rows.flatten.take (i * 2) ++ cx.toList := by
     rw [q3, g4, ← List.append_assoc, List.take_append_of_le_length (by rw [List.length_append, List.length_take, hxl, hfl]; omega), List.take_of_length_le (by rw [List.length_append, List.length_take, hxl, hfl]; omega)]
    rw [r3, l1, ← List.append_assoc, List.take_append_of_le_length (by rw [List.length_append, List.length_append, List.length_take, List.length_drop, hxl, hfl]; omega), List.take_of_length_le (by rw [List.length_append, List.length_append, List.length_take, List.length_drop, hxl, hfl]; omega), List.append_assoc]
   have := N_make (d := d) (base := wo.heap.size) (ok := fun k => (ok k ∨ okx k) ∨ wo.heap.size ≤ k) (xs := xs.take i ++ ([x] ++ xs.drop i)) (rows := rows.take i ++ ([cx.toList] ++ rows.drop i)) (b := w.heap.size) (cap := G) (cur := cur2) hrl' hk' h1'
    (hrows w.heap.size _ (fun k hk _ => hoth k hk) (.inr (Nat.le_refl _))) hB.size (.inr hB.size) r1 (by rw [hnl]; exact g1) g2 (by rw [r2, q2, g3, hd]) (by rw [hnl, hd, htk, hflat'])
   rw [hnl] at this
   exact this
set_option maxHeartbeats 4000000 in
set_option maxRecDepth 100000 in
theorem insN_shift (b n c i vb vc : Nat) (cs vs : List Value) (w : World) (hi : i < n) (hroom : n + 1 ≤ c) (hc63 : c ≤ 9223372036854775807) (hvb : vb ≠ b)
  (hcl : cs.length = n * 6) (hvl : vs.length = 6)
  (hcs : ∀ j v, cs[j]? = some v → w.cell? ⟨b, j, none⟩ = some v) (hsp : ∀ j, j < (n + 1) * 6 → (w.cell? ⟨b, j, none⟩).isSome = true) (hfz : ∀ j, j < (n + 1) * 6 → w.frozen? ⟨b, j, none⟩ = false)
  (hvs : ∀ j v, vs[j]? = some v → w.cell? ⟨vb, j, none⟩ = some v) (h1c : ∀ v ∈ cs, v.oneCell' = true) (h1v : ∀ v ∈ vs, v.oneCell' = true)
  (tA tB : TypeId) (kA kB : Nat) (hsa : w.shape? vb = some (tA, kA)) (hsb : w.shape? b = some (tB, kB)) (hkB : kB ≠ 0) (hfa : w.frozen? ⟨vb, 0, none⟩ = false) (hfe : w.frozen? ⟨vb, kA, none⟩ = false) :
  Calls Tryd.prog 63 #[.slice (some ⟨b, 0, none⟩) n c, .int .i64 i, .slice (some ⟨vb, 0, none⟩) 1 vc] w fun e w' =>
   e = .returned (.slice (some ⟨b, 0, none⟩) (n + 1) c) ∧ w' = (w.drew.setCells b ((i + 1) * 6) (cs.drop (i * 6))).setCells b (i * 6) vs := by
 have hz2 : ¬ ((i : Int) = (n : Int)) := by omega
 have hsz : (Tryd.prog.info? 41).map (·.size) = some 6 := by kernel_rfl
 have hzz : ∀ w, (Go.sizeOf 41).run Tryd.prog w = .ok 6 w := fun w => by
  have := info41
  cases hq : Tryd.prog.info? 41 with
  | none => rw [hq] at hsz; cases hsz
  | some q => rw [hq] at hsz; simp [Go.sizeOf, typeInfo, hq]; simpa using hsz
 have hov : ∀ lb cb, (callFunc 86 #[.slice (some ⟨vb, 0, none⟩) 1 vc, .slice (some ⟨b, (i + 1) * 6, none⟩) lb cb]).run Tryd.prog w = .ok (.value (.bool false)) w := fun lb cb => by
  rw [run_callFunc_extern Tryd.func86 (by kernel_rfl) (by kernel_rfl) (by kernel_rfl) (e := Extern.SlicesOverlaps.overlaps #[31, 31] #[4]) (by kernel_rfl),
   Lib.run_overlaps_apart w 31 4 41 Tryd.underlying31 6 hzz ⟨vb, 0, none⟩ ⟨b, (i + 1) * 6, none⟩ 1 vc lb cb hvb tA tB kA kB hsa hsb hkB hfa hfe]
  rfl
 have hdl : (cs.drop (i * 6)).length = (n - i) * 6 := by rw [List.length_drop, hcl]; omega
 have hcp1 : ∀ ty dc sc, (Builtin.copy_ #[31, 31] ty #[.slice (some ⟨b, (i + 1) * 6, none⟩) (n - i) dc, .slice (some ⟨b, i * 6, none⟩) (n + 1 - i) sc]).run Tryd.prog w.drew = .ok (goInt (Nat.min (n + 1 - i) (n - i))) (w.drew.setCells b ((i + 1) * 6) (cs.drop (i * 6))) := fun ty dc sc =>
  zde w.drew _ _ ty 41 6 b ((i + 1) * 6) (n - i) dc ⟨b, i * 6, none⟩ (n + 1 - i) sc (cs.drop (i * 6)) Tryd.underlying31 hsz (by rw [hdl]; simp only [Nat.min_def]; split <;> omega)
   (fun j v hj => by rw [Addr.add_lit]; exact hcs (i * 6 + j) v (by rwa [List.getElem?_drop] at hj))
   (fun j hj => hsp _ (by rw [hdl] at hj; omega)) (fun j hj => hfz _ (by rw [hdl] at hj; omega)) (fun v hv => h1c v (List.mem_of_mem_drop hv))
 obtain ⟨W1, hW1⟩ : ∃ W1, W1 = w.drew.setCells b ((i + 1) * 6) (cs.drop (i * 6)) := ⟨_, rfl⟩
 have hsp1 : ∀ k, k < (n + 1) * 6 → (W1.cell? ⟨b, k, none⟩).isSome = true := fun k hk => by
  rw [hW1]
  exact zfn b _ _ w.drew (fun j hj => hsp ((i + 1) * 6 + j) (by rw [hdl] at hj; omega)) _ (hsp k hk)
 have hcp2 : ∀ (W : World), (∀ x, W.cell? x = W1.cell? x) → (∀ x, W.frozen? x = W1.frozen? x) → ∀ ty dc, (Builtin.copy_ #[31, 31] ty #[.slice (some ⟨b, i * 6, none⟩) (n + 1 - i) dc, .slice (some ⟨vb, 0, none⟩) 1 vc]).run Tryd.prog W = .ok (goInt (Nat.min 1 (n + 1 - i))) (W.setCells b (i * 6) vs) := fun W hWc hWf ty dc =>
  zde W _ _ ty 41 6 b (i * 6) (n + 1 - i) dc ⟨vb, 0, none⟩ 1 vc vs Tryd.underlying31 hsz (by rw [hvl]; simp only [Nat.min_def]; split <;> omega)
   (fun j v hj => by
    rw [Addr.add_lit, hWc, hW1, World.cell?_setCells_out b _ _ _ _ (fun h _ => absurd h hvb), Nat.zero_add]
    exact hvs j v hj)
   (fun j hj => by rw [hWc]; exact hsp1 _ (by rw [hvl] at hj; omega)) (fun j hj => by rw [hWf, hW1, World.frozen?_setCells]; exact hfz _ (by rw [hvl] at hj; omega)) h1v
 rw [← hW1] at hcp1
 have hw1 : IntKind.i64.wrap ((i : Int) + 1) = (i : Int) + 1 := by rw [IntKind.wrap_i64]; omega
 have hb1 : (0 : Int) ≤ (i : Int) + 1 := by omega
 have hin : i ≤ n := by omega
 have htn : ((i : Int) + 1).toNat = i + 1 := by omega
 have hb2 : ¬ (c = i + 1) := by omega
 have hb3 : (i : Int) ≤ (n : Int) + 1 := by omega
 have hb4 : ¬ (c = i) := by omega
 have mixed : Tryd.prog.follows Departure.mixedOrders = true := by kernel_rfl
 go_enter Tryd.func63, Tryd.ntmps63
 go_wp2_with (simp only [hov])
 go_region_law_o (refine zfw rfl _ _ 31 31 rfl _ _ (by simp [Act.eval, Act.put]) (by simp [Act.eval, Act.put]) (hcp1 _ _ _) ?_)
 go_wp2_with (at_builtin; refine zdt _ rfl _ _ 31 31 rfl _ _ rfl rfl (hcp2 _ (fun _ => rfl) (fun _ => rfl) _ _) ?_)
 go_ret
 first | exact ⟨rfl, rfl⟩ | exact ⟨rfl, by rw [hW1]⟩
set_option maxHeartbeats 4000000 in
set_option maxRecDepth 100000 in
theorem insN_grow (b n c i vb vc : Nat) (cs vs : List Value) (w : World) (hi : i < n) (hnc : n ≤ c) (hroom : c < n + 1) (hn1 : n ≤ 1000000)
  (hcl : cs.length = n * 6) (hvl : vs.length = 6)
  (hcs : ∀ j v, cs[j]? = some v → w.cell? ⟨b, j, none⟩ = some v)
  (hvs : ∀ j v, vs[j]? = some v → w.cell? ⟨vb, j, none⟩ = some v) (h1c : ∀ v ∈ cs, v.oneCell' = true) (h1v : ∀ v ∈ vs, v.oneCell' = true) (hvw : vb < w.heap.size) :
  Calls Tryd.prog 63 #[.slice (some ⟨b, 0, none⟩) n c, .int .i64 i, .slice (some ⟨vb, 0, none⟩) 1 vc] w fun e w' =>
   ∃ (G : Nat) (ROW : Array Value), e = .returned (.slice (some ⟨w.heap.size, 0, none⟩) (n + 1) G) ∧ n + 1 ≤ G ∧ G ≤ maxLen ∧ ROW.size = G * 6 ∧ ROW.toList.take (i * 6) = cs.take (i * 6) ∧
   w' = (((w.alloc (.cells ROW 41)).drew.setCells w.heap.size (i * 6) vs).drew).setCells w.heap.size ((i + 1) * 6) (cs.drop (i * 6)) := by
 obtain ⟨i0, hi0, hz0, hzs, hzb⟩ := info_parts info41
 have hz2 : ¬ ((i : Int) = (n : Int)) := by omega
 have hz3 : (c : Int) < (n : Int) + 1 := by omega
 have hsz : (Tryd.prog.info? 41).map (·.size) = some 6 := by rw [hi0]; simp [hzs]
 have hbw : b < w.heap.size := block_lt_of_cell (hcs 0 _ (List.getElem?_eq_getElem (by omega)))
 have hkk : (n : Int) + 1 - (i : Int) = ((n + 1 - i : Nat) : Int) := by omega
 have hik : i + (n + 1 - i) = n + 1 := by omega
 have hold : (Builtin.firstCells i0.size i (.slice (some ⟨b, 0, none⟩) i c)).run Tryd.prog w.drew = .ok (cs.take (i * 6)).toArray w.drew := by
  rw [hzs]
  exact run_firstCells_some w.drew 6 i ⟨b, 0, none⟩ i c (cs.take (i * 6)) (by rw [List.length_take]; omega) (fun j v hj => by
   rw [Addr.add_lit, Nat.zero_add]
   rw [List.getElem?_take] at hj
   split at hj
   ·exact hcs j v hj
   ·cases hj)
 have hrz : ∀ ty, (Builtin.append_ #[31, 3] ty #[.slice (some ⟨b, 0, none⟩) i c, .int .i64 ((n : Int) + 1 - (i : Int))]).run Tryd.prog w =
   .ok (.slice (some ⟨w.heap.size, 0, none⟩) (n + 1) (grownCap w (n + 1) c 41)) (w.drew.alloc (.cells ((cs.take (i * 6)).toArray ++ Builtin.zeroCells (Value.cells (.agg #[(.int .i64 0), (.int .i64 0), (.int .i64 0), (.int .i64 0), (.int .i64 0), (.slice none 0 0)])) (n + 1 - i) ++ Builtin.zeroCells (Value.cells (.agg #[(.int .i64 0), (.int .i64 0), (.int .i64 0), (.int .i64 0), (.int .i64 0), (.slice none 0 0)])) (grownCap w (n + 1) c 41 - (n + 1))) 41)) := fun ty => by
  have h := Lib.run_append_grow_zeros w 31 3 ty 41 i0 _ .i64 .i64 Tryd.underlying31 Tryd.underlying3 hi0 hz0 (some ⟨b, 0, none⟩) i c (cs.take (i * 6)) hold (n + 1 - i) (by omega) (by omega) (by omega) (by omega) (by rw [hzb]; omega) (by rw [hzb, hik]; exact growslice_fits hroom (by omega))
  rw [hik] at h
  rw [hkk]
  exact h
 obtain ⟨G, hG⟩ : ∃ G, G = grownCap w (n + 1) c 41 := ⟨_, rfl⟩
 obtain ⟨ROW, hROW⟩ : ∃ ROW : Array Value, ROW = (cs.take (i * 6)).toArray ++ Builtin.zeroCells (Value.cells (.agg #[(.int .i64 0), (.int .i64 0), (.int .i64 0), (.int .i64 0), (.int .i64 0), (.slice none 0 0)])) (n + 1 - i) ++ Builtin.zeroCells (Value.cells (.agg #[(.int .i64 0), (.int .i64 0), (.int .i64 0), (.int .i64 0), (.int .i64 0), (.slice none 0 0)])) (G - (n + 1)) := ⟨_, rfl⟩
 rw [← hG] at hrz
 rw [← hROW] at hrz
 have hGn : n + 1 ≤ G := by rw [hG]; exact grownCap_ge w _ _ _
 have hG63 : G ≤ maxLen := by
  have := grownCap_le_maxLen w (n + 1) c 41 (by unfold maxLen; omega)
  rw [← hG] at this
  exact this
 have hzl : ∀ m, (Builtin.zeroCells (Value.cells (.agg #[(.int .i64 0), (.int .i64 0), (.int .i64 0), (.int .i64 0), (.int .i64 0), (.slice none 0 0)])) m).size = m * 6 := fun m => by
  simp [Builtin.zeroCells, Value.cells]
 have htl : (cs.take (i * 6)).length = i * 6 := by rw [List.length_take]; omega
 have hRl : ROW.size = G * 6 := by
  rw [hROW, Array.size_append, Array.size_append, hzl, hzl, List.size_toArray, htl]
  omega
 have hRt : ROW.toList.take (i * 6) = cs.take (i * 6) := by
  rw [hROW, Array.toList_append, Array.toList_append, List.append_assoc, List.take_append_of_le_length (by rw [htl]; exact Nat.le_refl _), List.take_of_length_le (by rw [htl]; exact Nat.le_refl _)]
 obtain ⟨W1, hW1⟩ : ∃ W1, W1 = w.drew.alloc (.cells ROW 41) := ⟨_, rfl⟩
 rw [← hW1] at hrz
 have hN : ∀ j, j < (n + 1) * 6 → (W1.cell? ⟨w.heap.size, j, none⟩).isSome = true := fun j hj => by
  rw [hW1, World.cell?_alloc_at (w := w.drew) ROW _ w.heap.size j rfl, Array.getElem?_eq_getElem (by rw [hRl]; have := Nat.mul_le_mul_right 6 hGn; omega)]; rfl
 have hNf : ∀ j, W1.frozen? ⟨w.heap.size, j, none⟩ = false := fun j => by rw [hW1]; exact World.frozen?_alloc_at (w := w.drew) ROW _ w.heap.size j rfl
 have hOb : ∀ j v, w.cell? ⟨b, j, none⟩ = some v → W1.cell? ⟨b, j, none⟩ = some v := fun j v h => by rw [hW1, World.cell?_alloc_past (w := w.drew) _ b j hbw]; exact h
 have hOv : ∀ j v, w.cell? ⟨vb, j, none⟩ = some v → W1.cell? ⟨vb, j, none⟩ = some v := fun j v h => by rw [hW1, World.cell?_alloc_past (w := w.drew) _ vb j hvw]; exact h
 have hcpA : ∀ (W : World), (∀ x, W.cell? x = W1.cell? x) → (∀ x, W.frozen? x = W1.frozen? x) → ∀ ty dc, (Builtin.copy_ #[31, 31] ty #[.slice (some ⟨w.heap.size, i * 6, none⟩) (n + 1 - i) dc, .slice (some ⟨vb, 0, none⟩) 1 vc]).run Tryd.prog W = .ok (goInt (Nat.min 1 (n + 1 - i))) (W.setCells w.heap.size (i * 6) vs) := fun W hWc hWf ty dc =>
  zde W _ _ ty 41 6 w.heap.size (i * 6) (n + 1 - i) dc ⟨vb, 0, none⟩ 1 vc vs Tryd.underlying31 hsz (by rw [hvl]; simp only [Nat.min_def]; split <;> omega)
   (fun j v hj => by rw [Addr.add_lit, hWc, Nat.zero_add]; exact hOv _ v (hvs j v hj))
   (fun j hj => by rw [hWc]; exact hN _ (by rw [hvl] at hj; omega)) (fun j hj => by rw [hWf]; exact hNf _) h1v
 have hGi : ¬ (G = i) := by omega
 have hGim : ¬ (G = i + 1) := by omega
 have hG63' : G ≤ 9223372036854775807 := by unfold maxLen at hG63; omega
 have hci : ¬ (c = i) := by omega
 have hbN : b ≠ w.heap.size := by omega
 have hdl : (cs.drop (i * 6)).length = (n - i) * 6 := by rw [List.length_drop, hcl]; omega
 have hcpB : ∀ (W : World), (∀ x, W.cell? x = (W1.setCells w.heap.size (i * 6) vs).cell? x) → (∀ x, W.frozen? x = (W1.setCells w.heap.size (i * 6) vs).frozen? x) → ∀ ty dc sc, (Builtin.copy_ #[31, 31] ty #[.slice (some ⟨w.heap.size, (i + 1) * 6, none⟩) (n - i) dc, .slice (some ⟨b, i * 6, none⟩) (n - i) sc]).run Tryd.prog W = .ok (goInt (Nat.min (n - i) (n - i))) (W.setCells w.heap.size ((i + 1) * 6) (cs.drop (i * 6))) := fun W hWc hWf ty dc sc =>
  zde W _ _ ty 41 6 w.heap.size ((i + 1) * 6) (n - i) dc ⟨b, i * 6, none⟩ (n - i) sc (cs.drop (i * 6)) Tryd.underlying31 hsz (by rw [hdl]; simp only [Nat.min_def]; split <;> omega)
   (fun j v hj => by
    rw [Addr.add_lit, hWc, World.cell?_setCells_out _ _ _ _ _ (fun h _ => absurd h hbN)]
    exact hOb _ v (hcs (i * 6 + j) v (by rwa [List.getElem?_drop] at hj)))
   (fun j hj => by
    rw [hWc]
    exact zfn _ _ _ W1 (fun t ht => hN (i * 6 + t) (by rw [hvl] at ht; omega)) _ (hN ((i + 1) * 6 + j) (by rw [hdl] at hj; omega)))
   (fun j hj => by rw [hWf, World.frozen?_setCells]; exact hNf _) (fun v hv => h1c v (List.mem_of_mem_drop hv))
 subst hW1
 have hE1 : ∀ x, ((w.alloc (.cells ROW 41)).drew).cell? x = (w.drew.alloc (.cells ROW 41)).cell? x := fun x => rfl
 have hE2 : ∀ x, ((w.alloc (.cells ROW 41)).drew).frozen? x = (w.drew.alloc (.cells ROW 41)).frozen? x := fun x => rfl
 have hF1 : ∀ x, (((w.alloc (.cells ROW 41)).drew.setCells w.heap.size (i * 6) vs).drew).cell? x = ((w.drew.alloc (.cells ROW 41)).setCells w.heap.size (i * 6) vs).cell? x := fun x => rfl
 have hF2 : ∀ x, (((w.alloc (.cells ROW 41)).drew.setCells w.heap.size (i * 6) vs).drew).frozen? x = ((w.drew.alloc (.cells ROW 41)).setCells w.heap.size (i * 6) vs).frozen? x := fun x => rfl
 have hw1 : IntKind.i64.wrap ((i : Int) + 1) = (i : Int) + 1 := by rw [IntKind.wrap_i64]; omega
 have hb1 : (0 : Int) ≤ (i : Int) + 1 := by omega
 have hin : i ≤ n := by omega
 have htn : ((i : Int) + 1).toNat = i + 1 := by omega
 have hb3 : (i : Int) ≤ (n : Int) := by omega
 have HGN := zab.mk hGn
 have HG63 := zab.mk hG63
 have HRL := zab.mk hRl
 have HRT := zab.mk hRt
 clear hkk hik hold hROW hG hRl hRt hzl htl hGn hG63
 have hGn2 : n + 1 ≤ G := HGN.out
 have mixed : Tryd.prog.follows Departure.mixedOrders = true := by kernel_rfl
 have mixed2 : Tryd.prog.follows Departure.appendOfMake = true := by kernel_rfl
 go_enter Tryd.func63, Tryd.ntmps63
 go_wp2_with (first
  | (at_builtin; refine Lib.wpList_append_run _ rfl _ _ _ _ rfl _ _ rfl rfl _ _ (hrz _) ?_)
  | (at_builtin; refine zdt _ rfl _ _ 31 31 rfl _ _ rfl rfl (hcpA _ hE1 hE2 _ _) ?_)
  | (at_builtin; refine zdt _ rfl _ _ 31 31 rfl _ _ rfl rfl (hcpB _ (fun _ => rfl) (fun _ => rfl) _ _ _) ?_))
 go_region_law_o (refine zfw rfl _ _ 31 31 rfl (.slice (some ⟨w.heap.size, (i + 1) * 6, none⟩) (n - i) (G - (i + 1))) (.slice (some ⟨b, i * 6, none⟩) (n - i) (c - i)) (by simp [Act.eval, Act.put]) (by simp [Act.eval, Act.put]) (hcpB _ hF1 hF2 3 (G - (i + 1)) (c - i)) ?_)
 go_wp2
 go_ret
 exact ⟨G, ROW, rfl, HGN.out, HG63.out, HRL.out, HRT.out, rfl⟩
set_option maxHeartbeats 4000000 in
set_option maxRecDepth 100000 in
theorem insN_N {α : Type} {d : Kd α} (hd : d.sz = 6) (wo w : World) (ok okx : Nat → Prop) (u : Value) (vb vc : Nat) (cx : Array Value) (xs : List α) (x : α) (i : Nat) (P_ : Nat → Prop) (hB : Below wo.heap.size wo w) (ho : Kd.N d 41 w wo.heap.size ok u xs) (hP : ∀ k, some k = u.ownBlock → P_ k)
  (hvb : w.heap[vb]? = some (.cells cx 41 (0, 0))) (hvc : 1 ≤ vc) (hvo : wo.heap.size ≤ vb) (hne : some vb ≠ u.ownBlock) (hcx : cx.size = 6) (hx : Kd.FK d w okx x cx.toList) (hap : ∀ k, okx k → some k ≠ u.ownBlock) (hi : i ≤ xs.length) (hl : xs.length ≤ 1000000) :
  Calls Tryd.prog 63 #[u, .int .i64 i, .slice (some ⟨vb, 0, none⟩) 1 vc] w fun e' w' => ∃ v0, e' = .returned v0 ∧ Kd.N d 41 w' wo.heap.size (fun k => (ok k ∨ okx k) ∨ wo.heap.size ≤ k) v0 (xs.take i ++ ([x] ++ xs.drop i)) ∧ Below wo.heap.size wo w' ∧ Kept w w' P_ := by
 have hkx := Kd.zff hx
 have h1x := d.K_one hkx
 have hxl : cx.toList.length = 6 := by rw [Array.length_toList]; exact hcx
 by_cases hin : i = xs.length
 ·subst hin
  have hN : Kd.N d 41 w wo.heap.size (fun k => (ok k ∨ okx k) ∨ wo.heap.size ≤ k) u xs := Kd.zci ho (fun k hk => .inl (.inl hk))
  have hF : Kd.F d w (fun k => okx k ∨ k = vb) (some ⟨vb, 0, none⟩) 1 [x] := fun W' hW => by
   have hbb : W'.heap[vb]? = some (.cells cx 41 (0, 0)) := (hW vb (.inr rfl) (zca hvb)).trans hvb
   refine ⟨rfl, by decide, fun _ => ⟨⟨vb, 0, none⟩, rfl, fun j p hj => ?_⟩⟩
   cases j with
   | succ j => simp at hj
   | zero =>
    simp only [List.getElem?_cons_zero, Option.some.injEq] at hj
    subst hj
    refine ⟨cx.toList, by rw [hxl, hd], hx W' (fun k hk hlt => hW k (.inl hk) hlt), fun q u' hq => ?_⟩
    have := zat hbb q
    rw [Nat.zero_mul, Nat.zero_add]
    show W'.cell? ((⟨vb, 0, none⟩ : Addr).add q) = _
    rw [Addr.add_lit, Nat.zero_add, this, ← Array.getElem?_toList]; exact hq
  have HN := zab.mk hN
  have HF := zab.mk hF
  have HB := zab.mk hB
  have hz2 : ¬ ((1 : Int) = 0) := by decide
  have HNE := zab.mk hne
  have HAP := zab.mk hap
  have HVO := zab.mk hvo
  have HP := zab.mk hP
  have hi63 : (xs.length : Int) ≤ 9223372036854775807 := by omega
  have hns : ∃ A c, u = .slice A xs.length c := Kd.zcy ho
  obtain ⟨A0, c0, hu⟩ := hns
  have hc0 : xs.length ≤ c0 ∧ (c0 : Int) ≤ 9223372036854775807 ∧ (A0 = none → xs.length = 0 ∧ c0 = 0) ∧ ∀ a, A0 = some a → ∃ b, a = ⟨b, 0, none⟩ := by
   obtain ⟨rows, _, _, _, _, hh⟩ := N_open ho
   rcases hh with ⟨hv, h0, _⟩ | ⟨b, cap, cur, hv, _, _, _, h1, h2, _⟩
   ·rw [hu] at hv; injection hv with e1 e2 e3; subst e1 e3
    exact ⟨by omega, by omega, fun _ => ⟨e2, rfl⟩, fun a ha => by cases ha⟩
   ·rw [hu] at hv; injection hv with e1 e2 e3; subst e1 e3
    unfold maxLen at h2
    exact ⟨h1, by omega, fun h => (by cases h), fun a ha => ⟨b, (Option.some.inj ha).symm⟩⟩
  subst hu
  clear hN hF hB ho hP hvb hvo hne hx hap hkx h1x hxl hcx
  go_enter Tryd.func63, Tryd.ntmps63
  have hc1 := hc0.1
  have hc2 := hc0.2.1
  cases A0 with
  | none =>
   obtain ⟨e1, e2⟩ := hc0.2.2.1 rfl
   subst e2
   rw [e1] at HN HNE HAP HP hi63 hl hi hc1 ⊢
   go_wp2_with (at_builtin; refine Kd.zdb d (w0 := wo) wo.heap.size rfl _ _ 31 41 (.agg #[(.int .i64 0), (.int .i64 0), (.int .i64 0), (.int .i64 0), (.int .i64 0), (.slice none 0 0)]) 64 rfl Tryd.underlying31 (by rw [hd]; exact info41) (by rw [hd]; rfl) (by rw [hd]; decide) (by decide) (.slice none 0 0) xs [x] (some ⟨vb, 0, none⟩) 1 vc (fun k => (ok k ∨ okx k) ∨ wo.heap.size ≤ k) (fun k => okx k ∨ k = vb) rfl rfl HN.out HF.out (fun k hk => ⟨hk.elim (fun h => .inl (.inr h)) (fun h => .inr (h ▸ HVO.out)), hk.elim (fun h => HAP.out k h) (fun h => h ▸ HNE.out)⟩) (fun k hk => .inr (Nat.le_trans HB.out.size hk)) HB.out HB.out.size (by rw [e1]; decide) ?_; intro v1 w1 hN1 hb1 hg1 hat1; have HN1 := zab.mk hN1; have HB1 := zab.mk hb1; have HG1 := zab.mk hg1; clear hN1 hb1 hg1 hat1)
   go_ret
   refine ⟨_, rfl, ?_, HB1.out, HG1.out.size, fun k hk hnp => HG1.out.block k hk (fun h => hnp (HP.out k h))⟩
   have e3 : xs = [] := List.eq_nil_of_length_eq_zero e1
   have := HN1.out
   rw [e3] at this ⊢
   exact this
  | some a =>
   obtain ⟨b, hb⟩ := hc0.2.2.2 a rfl
   subst hb
   go_wp2_with (at_builtin; refine Kd.zdb d (w0 := wo) wo.heap.size rfl _ _ 31 41 (.agg #[(.int .i64 0), (.int .i64 0), (.int .i64 0), (.int .i64 0), (.int .i64 0), (.slice none 0 0)]) 64 rfl Tryd.underlying31 (by rw [hd]; exact info41) (by rw [hd]; rfl) (by rw [hd]; decide) (by decide) (.slice (some ⟨b, 0, none⟩) xs.length c0) xs [x] (some ⟨vb, 0, none⟩) 1 vc (fun k => (ok k ∨ okx k) ∨ wo.heap.size ≤ k) (fun k => okx k ∨ k = vb) rfl rfl HN.out HF.out (fun k hk => ⟨hk.elim (fun h => .inl (.inr h)) (fun h => .inr (h ▸ HVO.out)), hk.elim (fun h => HAP.out k h) (fun h => h ▸ HNE.out)⟩) (fun k hk => .inr (Nat.le_trans HB.out.size hk)) HB.out HB.out.size (by omega) ?_; intro v1 w1 hN1 hb1 hg1 hat1; have HN1 := zab.mk hN1; have HB1 := zab.mk hb1; have HG1 := zab.mk hg1; clear hN1 hb1 hg1 hat1)
   all_goals go_ret
   all_goals
    refine ⟨_, rfl, ?_, HB1.out, HG1.out.size, fun k hk hnp => HG1.out.block k hk (fun h => hnp (HP.out k h))⟩
    have := HN1.out
    first
     | exact this
     | (rw [List.take_of_length_le (Nat.le_refl _), List.drop_of_length_le (Nat.le_refl _), List.append_nil]; exact this)
     | (simp only [List.take_of_length_le (Nat.le_refl _), List.drop_of_length_le (Nat.le_refl _)]; exact this)
 ·have hlt : i < xs.length := by omega
  obtain ⟨rows, hrl, hk, h1, hf, hh⟩ := N_open ho
  rw [hd] at hk hh
  rcases hh with ⟨hv, h0, _⟩ | ⟨b, cap, cur, hv, hbb, hokb, hbh, hncap, hcm, hcur, htake⟩
  ·rw [h0] at hlt; exact absurd hlt (Nat.not_lt_zero _)
  subst hv
  have hob : (Value.slice (some ⟨b, 0, none⟩) xs.length cap).ownBlock = some b := rfl
  have hvbb : vb ≠ b := fun e => hne (by rw [hob, e])
  have hfl : rows.flatten.length = xs.length * 6 := by rw [zhk rows hk, hrl]
  have hcsz : cur.size = cap * 6 := hcur
  have hcell : ∀ j v, rows.flatten[j]? = some v → w.cell? ⟨b, j, none⟩ = some v := fun j v hj => by
   have hjl := (List.getElem?_eq_some_iff.1 hj).1
   rw [← htake, List.getElem?_take_of_lt (by omega), Array.getElem?_toList] at hj
   rw [zat hbh j]; exact hj
  have h1c : ∀ v ∈ rows.flatten, v.oneCell' = true := fun v hv => by
   obtain ⟨c, hc, hv⟩ := List.mem_flatten.1 hv
   exact h1 c hc v hv
  have hvsc : ∀ j v, cx.toList[j]? = some v → w.cell? ⟨vb, j, none⟩ = some v := fun j v hj => by
   rw [zat hvb j, ← Array.getElem?_toList]; exact hj
  have hdr : rows.flatten.drop (i * 6) = (rows.drop i).flatten := zgq rows i hk
  have htr : rows.flatten.take (i * 6) = (rows.take i).flatten := zhx rows i hk
  have hrows : ∀ (b' : Nat) (w' : World), (∀ k, k < w.heap.size → k ≠ b → w'.heap[k]? = w.heap[k]?) → (b' = b ∨ w.heap.size ≤ b') → ∀ (j : Nat) (y : α) (c : List Value), (xs.take i ++ ([x] ++ xs.drop i))[j]? = some y → (rows.take i ++ ([cx.toList] ++ rows.drop i))[j]? = some c → Kd.FK d w' (fun k => ((ok k ∨ okx k) ∨ wo.heap.size ≤ k) ∧ k ≠ b') y c := by
   intro b' w' hsame hb' j y c hy hc
   have fromx : ∀ (j : Nat) (y : α) (c : List Value), xs[j]? = some y → rows[j]? = some c → Kd.FK d w' (fun k => ((ok k ∨ okx k) ∨ wo.heap.size ≤ k) ∧ k ≠ b') y c := fun j y c hy hc => by
    have h := Kd.zgb (Kd.zgi (hf j y c hy hc)) (fun k hk hlt => hsame k hlt (fun e => hk.1.2 (by rw [hob, e])))
    refine Kd.zfr h (fun k hk => ⟨.inl (.inl hk.1.1), fun e => ?_⟩)
    rcases hb' with e2 | e2
    ·exact hk.1.2 (by rw [hob, e, e2])
    ·have := hk.2; omega
   rcases Nat.lt_trichotomy j i with hji | hji | hji
   ·rw [List.getElem?_append_left (by rw [List.length_take]; omega), List.getElem?_take_of_lt hji] at hy
    rw [List.getElem?_append_left (by rw [List.length_take]; omega), List.getElem?_take_of_lt hji] at hc
    exact fromx j y c hy hc
   ·subst hji
    rw [List.getElem?_append_right (by rw [List.length_take]; omega), List.length_take, Nat.min_eq_left (by omega), Nat.sub_self] at hy
    rw [List.getElem?_append_right (by rw [List.length_take]; omega), List.length_take, Nat.min_eq_left (by omega), Nat.sub_self] at hc
    simp only [List.cons_append, List.nil_append, List.getElem?_cons_zero, Option.some.injEq] at hy hc
    subst hy hc
    have h := Kd.zgb (Kd.zgi hx) (fun k hk hlt => hsame k hlt (fun e => hap k hk.1 (by rw [hob, e])))
    refine Kd.zfr h (fun k hk => ⟨.inl (.inr hk.1), fun e => ?_⟩)
    rcases hb' with e2 | e2
    ·exact hap k hk.1 (by rw [hob, e, e2])
    ·have := hk.2; omega
   ·obtain ⟨t, rfl⟩ : ∃ t, j = i + 1 + t := ⟨j - (i + 1), by omega⟩
    rw [List.getElem?_append_right (by rw [List.length_take]; omega), List.length_take, Nat.min_eq_left (by omega), show i + 1 + t - i = t + 1 by omega] at hy
    rw [List.getElem?_append_right (by rw [List.length_take]; omega), List.length_take, Nat.min_eq_left (by omega), show i + 1 + t - i = t + 1 by omega] at hc
    simp only [List.cons_append, List.nil_append, List.getElem?_cons_succ] at hy hc
    rw [List.getElem?_drop] at hy hc
    exact fromx (i + t) y c hy hc
  have hrl' : (rows.take i ++ ([cx.toList] ++ rows.drop i)).length = (xs.take i ++ ([x] ++ xs.drop i)).length := by simp; omega
  have hk' : ∀ c ∈ rows.take i ++ ([cx.toList] ++ rows.drop i), c.length = d.sz := fun c hc => by
   rw [hd]
   rcases List.mem_append.1 hc with h | h
   ·exact hk c (List.mem_of_mem_take h)
   ·rcases List.mem_append.1 h with h | h
    ·rw [List.mem_singleton.1 h]; exact hxl
    ·exact hk c (List.mem_of_mem_drop h)
  have h1' : ∀ c ∈ rows.take i ++ ([cx.toList] ++ rows.drop i), ∀ u ∈ c, u.oneCell' = true := fun c hc => by
   rcases List.mem_append.1 hc with h | h
   ·exact h1 c (List.mem_of_mem_take h)
   ·rcases List.mem_append.1 h with h | h
    ·rw [List.mem_singleton.1 h]; exact h1x
    ·exact h1 c (List.mem_of_mem_drop h)
  have hnl : (xs.take i ++ ([x] ++ xs.drop i)).length = xs.length + 1 := by simp; omega
  have hflat' : (rows.take i ++ ([cx.toList] ++ rows.drop i)).flatten = rows.flatten.take (i * 6) ++ (cx.toList ++ rows.flatten.drop (i * 6)) := by
   rw [htr, hdr, List.flatten_append, List.flatten_append]; simp
  by_cases hroom : xs.length + 1 ≤ cap
  ·have hfit : (xs.length + 1) * 6 ≤ cur.size := by rw [hcsz]; exact Nat.mul_le_mul_right _ hroom
   refine (insN_shift b xs.length cap i vb vc rows.flatten cx.toList w hlt hroom (by unfold maxLen at hcm; omega) hvbb hfl hxl hcell (fun j hj => ?_) (fun j _ => zag hbh j) hvsc h1c h1x 41 41 cx.size cur.size (zhq hvb) (zhq hbh) (by omega) (zag hvb 0) (zag hvb _)).mono ?_
   ·rw [zat hbh j, Array.getElem?_eq_getElem (by omega)]; rfl
   rintro e' w' ⟨rfl, rfl⟩
   obtain ⟨cur1, q1, q2, q3⟩ := zcv b 41 (rows.flatten.drop (i * 6)) ((i + 1) * 6) w.drew cur hbh (by rw [List.length_drop, hfl]; omega)
   obtain ⟨cur2, r1, r2, r3⟩ := zcv b 41 cx.toList (i * 6) _ cur1 q1 (by rw [hxl, q2]; omega)
   have hoth : ∀ k, k ≠ b → ((w.drew.setCells b ((i + 1) * 6) (rows.flatten.drop (i * 6))).setCells b (i * 6) cx.toList).heap[k]? = w.heap[k]? := fun k hk => by
    rw [(zbd b _ _ _).2.2.2.2 k hk, (zbd b _ _ _).2.2.2.2 k hk]; rfl
   have hBB := below_setCells (below_setCells (zbz hB) hbb ((i + 1) * 6) (rows.flatten.drop (i * 6))) hbb (i * 6) cx.toList
   have hsz : w.heap.size ≤ ((w.drew.setCells b ((i + 1) * 6) (rows.flatten.drop (i * 6))).setCells b (i * 6) cx.toList).heap.size := by
    rw [(zbd b _ _ _).2.2.2.1, (zbd b _ _ _).2.2.2.1]; exact Nat.le_refl _
   refine ⟨_, rfl, ?_, hBB, hsz, fun k _ hnp => hoth k (fun e => hnp (hP k (by rw [hob, e])))⟩
   have htk := cells_in (k := 6) (i := i) (n := xs.length) (cur := cur.toList) (cur1 := cur1.toList) (cur2 := cur2.toList) (cs := rows.flatten) (vs := cx.toList) hi hfl hxl (by rw [Array.length_toList]; exact hfit)
    (by rw [← htake, List.take_take, Nat.min_eq_left (Nat.mul_le_mul_right _ hi)]) q3 r3
   have := N_make (d := d) (base := wo.heap.size) (ok := fun k => (ok k ∨ okx k) ∨ wo.heap.size ≤ k) (xs := xs.take i ++ ([x] ++ xs.drop i)) (rows := rows.take i ++ ([cx.toList] ++ rows.drop i)) (b := b) (cap := cap) (cur := cur2) hrl' hk' h1'
    (hrows b _ (fun k _ hk => hoth k hk) (.inl rfl)) hbb (.inl (.inl hokb)) r1 (by rw [hnl]; exact hroom) hcm (by rw [r2, q2, hcsz, hd]) (by rw [hnl, hd, htk, hflat'])
   rw [hnl] at this
   exact this
  ·refine (insN_grow b xs.length cap i vb vc rows.flatten cx.toList w hlt hncap (by omega) hl hfl hxl hcell hvsc h1c h1x (zca hvb)).mono ?_
   rintro e' w' ⟨G, ROW, rfl, g1, g2, g3, g4, rfl⟩
   have hg0 : (w.alloc (.cells ROW 41)).drew.heap[w.heap.size]? = some (.cells ROW 41 (0, 0)) := zck w ROW 41
   have hG2 : (xs.length + 1) * 6 ≤ ROW.size := by rw [g3]; exact Nat.mul_le_mul_right _ g1
   obtain ⟨cur1, q1, q2, q3⟩ := zcv w.heap.size 41 cx.toList (i * 6) _ ROW hg0 (by rw [hxl]; omega)
   obtain ⟨cur2, r1, r2, r3⟩ := zcv w.heap.size 41 (rows.flatten.drop (i * 6)) ((i + 1) * 6) _ cur1 (show ((((w.alloc (.cells ROW 41)).drew.setCells w.heap.size (i * 6) cx.toList).drew).heap[w.heap.size]?) = _ from q1) (by rw [List.length_drop, hfl, q2]; omega)
   have hoth : ∀ k, k < w.heap.size → (((((w.alloc (.cells ROW 41)).drew.setCells w.heap.size (i * 6) cx.toList).drew).setCells w.heap.size ((i + 1) * 6) (rows.flatten.drop (i * 6))).heap[k]?) = w.heap[k]? := fun k hk => by
    rw [(zbd _ _ _ _).2.2.2.2 k (by omega)]
    show ((w.alloc (.cells ROW 41)).drew.setCells w.heap.size (i * 6) cx.toList).heap[k]? = _
    rw [(zbd _ _ _ _).2.2.2.2 k (by omega)]
    exact zfs w _ k hk
   have hBB := below_setCells (zbz (below_setCells (zbz (zas hB (.cells ROW 41))) (hB.size) (i * 6) cx.toList)) (hB.size) ((i + 1) * 6) (rows.flatten.drop (i * 6))
   have hsz : w.heap.size ≤ ((((w.alloc (.cells ROW 41)).drew.setCells w.heap.size (i * 6) cx.toList).drew).setCells w.heap.size ((i + 1) * 6) (rows.flatten.drop (i * 6))).heap.size := by
    rw [(zbd _ _ _ _).2.2.2.1]
    show _ ≤ ((w.alloc (.cells ROW 41)).drew.setCells w.heap.size (i * 6) cx.toList).heap.size
    rw [(zbd _ _ _ _).2.2.2.1]
    exact Nat.le_of_lt (Nat.lt_of_lt_of_le (Nat.lt_succ_self _) (Nat.le_of_eq (zdi w _).symm))
   refine ⟨_, rfl, ?_, hBB, hsz, fun k hk _ => hoth k hk⟩
   have htk : cur2.toList.take ((xs.length + 1) * 6) = rows.flatten.take (i * 6) ++ (cx.toList ++ rows.flatten.drop (i * 6)) := by
    have l1 : cur1.toList.take ((i + 1) * 6) = rows.flatten.take (i * 6) ++ cx.toList := by
     rw [q3, g4, ← List.append_assoc, List.take_append_of_le_length (by rw [List.length_append, List.length_take, hxl, hfl]; omega), List.take_of_length_le (by rw [List.length_append, List.length_take, hxl, hfl]; omega)]
    rw [r3, l1, ← List.append_assoc, List.take_append_of_le_length (by rw [List.length_append, List.length_append, List.length_take, List.length_drop, hxl, hfl]; omega), List.take_of_length_le (by rw [List.length_append, List.length_append, List.length_take, List.length_drop, hxl, hfl]; omega), List.append_assoc]
   have := N_make (d := d) (base := wo.heap.size) (ok := fun k => (ok k ∨ okx k) ∨ wo.heap.size ≤ k) (xs := xs.take i ++ ([x] ++ xs.drop i)) (rows := rows.take i ++ ([cx.toList] ++ rows.drop i)) (b := w.heap.size) (cap := G) (cur := cur2) hrl' hk' h1'
    (hrows w.heap.size _ (fun k hk _ => hoth k hk) (.inr (Nat.le_refl _))) hB.size (.inr hB.size) r1 (by rw [hnl]; exact g1) g2 (by rw [r2, q2, g3, hd]) (by rw [hnl, hd, htk, hflat'])
   rw [hnl] at this
   exact this
end Go.Proofs.YtchpbnabbjdfgaaDoor.Mem
