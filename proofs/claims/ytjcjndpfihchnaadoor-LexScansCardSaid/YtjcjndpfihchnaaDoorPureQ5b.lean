-- Plain laws of the printed functions (wip/l11).
import Derived.Test.YtjcjndpfihchnaaDoorPureQ5
import Derived.Test.YtjcjndpfihchnaaDoorPureQ4
import Derived.Test.YtjcjndpfihchnaaDoorPx46
namespace Go.Proofs.YtjcjndpfihchnaaDoor.Pure
open Go.ChangeShapes Go.WideShapes Go.ChangeAt Go.RowKit Go.Proofs.YtjcjndpfihchnaaDoorW.PrintWords Go.Proofs.YtjcjndpfihchnaaDoorW.PrintLast Go.Proofs.YtjcjndpfihchnaaDoor.P Go.Proofs.YtjcjndpfihchnaaDoor.Open
set_option linter.unusedVariables false
set_option linter.unusedSimpArgs false
/-! All tokens, as the document tells them. -/
theorem ref_blank (s : ByteArray) (hz : s.size ≤ 1000000) {v : List S46 × Int} (acc : List S46) : ∀ (l : List UInt8) (j : Nat), (L s).drop j = l →
    (∀ j', j' ≤ s.size ∨ j' = j → (L s).drop j' = lead l → Ev (fun k => corollaryref11_Scan.l0 k s acc (j' : Int)) v) → Ev (fun k => corollaryref11_Scan.l0 k s acc (j : Int)) v
  | [], j, h, k => k j (Or.inr rfl) h
  | c :: l, j, h, k => by
    by_cases hc : c = 32
    · obtain ⟨hb, hj, hd⟩ := bt_list h
      apply Ev.succ
      simp only [corollaryref11_Scan.l0]
      refine Ev.pos (by omega) (Ev.pos (by omega) ?_)
      rw [hb, inc64 (by omega)]
      refine Ev.pos (by rw [hc]; rfl) ?_
      refine ref_blank s hz acc l (j + 1) hd (fun j' hj' he => k j' ?_ ?_)
      · rcases hj' with h' | h'
        · exact Or.inl h'
        · exact Or.inl (by omega)
      · rw [he]; unfold lead; rw [List.dropWhile_cons, if_pos (by simp [hc])]
    · exact k j (Or.inr rfl) (by rw [h]; unfold lead; rw [List.dropWhile_cons, if_neg (by simpa using hc)])
theorem refScan_ev {l : List UInt8} {ts : List Tok} {e : Int} (h : Scans l ts e) : ∀ (s : ByteArray) (acc : List S46) (j : Nat), (L s).drop j = l → s.size ≤ 1000000 → acc.length + l.length ≤ 1000000 →
    Ev (fun k => corollaryref11_Scan.l0 k s acc (j : Int)) (if e = 0 then (acc ++ ts.map toR, 0) else ([], e)) := by
  induction h with
  | @nil l h =>
    intro s acc j hs hz ha
    refine ref_blank s hz acc l j hs (fun j' _ he => ?_)
    rw [h] at he
    have := ge_of_nil he
    apply Ev.succ
    simp only [corollaryref11_Scan.l0]
    refine Ev.neg (by omega) ?_
    simp
    exact Ev.pure _
  | @err l c m h1 h2 =>
    intro s acc j hs hz ha
    refine ref_blank s hz acc l j hs (fun j' _ he => ?_)
    rw [h1] at he
    obtain ⟨hb, hj, hd⟩ := bt_list he
    have h32 : c ≠ 32 := by
      intro e
      have := lead_lead l
      rw [h1] at this
      unfold lead at this
      rw [List.dropWhile_cons, if_pos (by simp [e])] at this
      have hlen := congrArg List.length this
      have := (List.dropWhile_sublist (l := m) (fun x => x == 32)).length_le
      simp at hlen; omega
    apply Ev.succ
    simp only [corollaryref11_Scan.l0]
    refine Ev.pos (by omega) (Ev.pos (by omega) ?_)
    rw [hb]
    refine Ev.neg (fun e => h32 ((isN (n := 32) (by decide)).mp e)) (Ev.bind (one_ev s hz j' c m he) (Ev.neg h2 ?_))
    rw [if_neg h2]
    exact Ev.pure _
  | @tok l c m ts e h1 h2 h3 ih =>
    intro s acc j hs hz ha
    refine ref_blank s hz acc l j hs (fun j' _ he => ?_)
    have hll := lead_len l
    rw [h1] at he hll
    obtain ⟨hb, hj, hd⟩ := bt_list he
    have h32 : c ≠ 32 := by
      intro e
      have := lead_lead l
      rw [h1] at this
      unfold lead at this
      rw [List.dropWhile_cons, if_pos (by simp [e])] at this
      have hlen := congrArg List.length this
      have := (List.dropWhile_sublist (l := m) (fun x => x == 32)).length_le
      simp at hlen; omega
    have tl := tok_len h2
    apply Ev.succ
    simp only [corollaryref11_Scan.l0]
    refine Ev.pos (by omega) (Ev.pos (by omega) ?_)
    rw [hb]
    refine Ev.neg (fun e => h32 ((isN (n := 32) (by decide)).mp e)) (Ev.bind (one_ev s hz j' c m he) (Ev.pos h2 (Ev.pos (by omega) ?_)))
    simp only [outR, if_pos h2]
    have hdr : (L s).drop (j' + (tokL c m).2.2.2.1) = (c :: m).drop (tokL c m).2.2.2.1 := by rw [← he, List.drop_drop]
    have := ih s (acc ++ [toR (tokL c m)]) (j' + (tokL c m).2.2.2.1) hdr hz (by rw [List.length_drop]; simp at hll tl ⊢; omega)
    have e2 : (if e = 0 then (acc ++ [toR (tokL c m)] ++ ts.map toR, (0 : Int)) else ([], e)) = (if e = 0 then (acc ++ (if e = 0 then tokL c m :: ts else []).map toR, 0) else ([], e)) := by
      by_cases he : e = 0
      · simp [he]
      · simp [he]
    rw [e2] at this
    exact this
theorem RefScan_ev (s : ByteArray) {ts : List Tok} {e : Int} (h : Scans (L s) ts e) (hz : s.size ≤ 512) : Ev (fun k => corollaryref11_Scan.f k s) (ts.map toR, e) := by
  unfold corollaryref11_Scan.f
  refine Ev.neg (by omega) ?_
  have := refScan_ev h s [] 0 rfl (by omega) (by rw [L_len]; simp; omega)
  by_cases he : e = 0
  · rw [if_pos he, List.nil_append] at this
    rw [he]; exact this
  · rw [if_neg he] at this
    rw [scans_err h he]; exact this
end Go.Proofs.YtjcjndpfihchnaaDoor.Pure
