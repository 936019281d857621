-- Plain laws of the printed functions (wip/l11).
import Derived.Test.YtjcjndpfihchnaaDoorPureQ3
import Derived.Test.YtjcjndpfihchnaaDoorPureR
namespace Go.Proofs.YtjcjndpfihchnaaDoor.Pure
open Go.ChangeShapes Go.WideShapes Go.ChangeAt Go.RowKit Go.Proofs.YtjcjndpfihchnaaDoorW.PrintWords Go.Proofs.YtjcjndpfihchnaaDoorW.PrintLast Go.Proofs.YtjcjndpfihchnaaDoor.P Go.Proofs.YtjcjndpfihchnaaDoor.Open
set_option linter.unusedVariables false
set_option linter.unusedSimpArgs false
def bad3 : Int × Int × ByteArray × Int × Int := (0, 0, (⟨#[]⟩ : ByteArray), 0, 3)
def rawRef (j : Nat) (acc : List UInt8) : Option (List UInt8 × Nat) → Int × Int × ByteArray × Int × Int
  | none => bad3
  | some r => if (acc ++ r.1).length ≤ 64 then (4, 0, ⟨(acc ++ r.1).toArray⟩, ((j + r.2 : Nat) : Int), 0) else bad3
theorem rawRef_map (j : Nat) (acc : List UInt8) (x : UInt8) (o : Option (List UInt8 × Nat)) : rawRef j acc (o.map fun r => (x :: r.1, r.2 + 2)) = rawRef (j + 2) (acc ++ [x]) o := by
  cases o with
  | none => rfl
  | some r => simp [rawRef, Nat.add_comm, Nat.add_left_comm]
theorem j3_true (s : ByteArray) (x a b : Int) (c : ByteArray) : Ev (fun k => corollaryref11_one.j3 k s x true a b c) bad3 := by
  apply Ev.succ
  simp only [corollaryref11_one.j3]
  exact Ev.pos trivial (Ev.pure _)
theorem raw_close (s : ByteArray) (hz : s.size ≤ 1000000) (j : Nat) (acc : List UInt8) (hj : j < s.size) : Ev (fun k => corollaryref11_one.j2 k s (j : Int) false 4 0 ⟨acc.toArray⟩) (rawRef j acc (some ([], 1))) := by
  apply Ev.succ
  simp only [corollaryref11_one.j2, rawRef, List.append_nil]
  refine Ev.neg (by decide) (Ev.neg (by omega) ?_)
  rw [ba_size, inc64 (by omega)]
  by_cases h : acc.length ≤ 64
  · rw [if_pos h]; exact Ev.neg (by omega) (Ev.pure _)
  · rw [if_neg h]; exact Ev.pos (by omega) (Ev.pure _)
theorem rawRef_ev (s : ByteArray) (hz : s.size ≤ 1000000) : ∀ (l : List UInt8) (j : Nat) (acc : List UInt8), (L s).drop j = l → acc.length ≤ j →
    Ev (fun k => corollaryref11_one.l0 k s (j : Int) 4 0 ⟨acc.toArray⟩) (rawRef j acc (rawGo l))
  | [], j, acc, h, ha => by
    have := ge_of_nil h
    apply Ev.succ
    simp only [corollaryref11_one.l0, rawGo, rawRef]
    refine Ev.neg (by omega) (Ev.succ ?_)
    simp only [corollaryref11_one.j2]
    exact Ev.neg (by decide) (Ev.pos (by omega) (Ev.pure _))
  | [c], j, acc, h, ha => by
    obtain ⟨hb, hj, hd⟩ := bt_list h
    have hend := ge_of_nil hd
    apply Ev.succ
    simp only [corollaryref11_one.l0, rawGo]
    refine Ev.pos (by omega) (Ev.pos (by omega) ?_)
    rw [hb]
    by_cases hc : c = 39
    · rw [if_pos hc, show ((c.toNat : Int) != 39) = false by rw [is39.mpr hc]; rfl]
      exact raw_close s hz j acc hj
    · rw [if_neg hc, show ((c.toNat : Int) != 39) = true by simpa using fun e => hc (is39.mp e)]
      apply Ev.succ
      simp only [corollaryref11_one.j2, rawRef]
      rw [inc64 (by omega)]
      exact Ev.pos trivial (Ev.pos (by omega) (j3_true _ _ _ _ _))
  | c :: d :: l, j, acc, h, ha => by
    obtain ⟨hb, hj, hd⟩ := bt_list h
    obtain ⟨hb2, hj2, hd2⟩ := bt_list hd
    apply Ev.succ
    simp only [corollaryref11_one.l0, rawGo]
    refine Ev.pos (by omega) (Ev.pos (by omega) ?_)
    rw [hb]
    by_cases hc : c = 39
    · rw [if_pos hc, show ((c.toNat : Int) != 39) = false by rw [is39.mpr hc]; rfl]
      exact raw_close s hz j acc hj
    · rw [if_neg hc, show ((c.toNat : Int) != 39) = true by simpa using fun e => hc (is39.mp e)]
      apply Ev.succ
      simp only [corollaryref11_one.j2]
      rw [inc64 (by omega), hb, hb2]
      refine Ev.pos trivial (Ev.neg (by omega) (Ev.pos (by omega) (Ev.pos (by omega) ?_)))
      refine Ev.bind (refHex_ev c) ?_
      by_cases h1 : hexv c < 0
      · rw [if_pos (Or.inl h1)]
        exact Ev.pos h1 (j3_true _ _ _ _ _)
      · refine Ev.neg h1 (Ev.pos (by omega) (Ev.pos (by omega) (Ev.bind (refHex_ev d) ?_)))
        by_cases h2 : hexv d < 0
        · rw [if_pos (Or.inr h2), decide_eq_true h2]
          exact j3_true _ _ _ _ _
        · have hx : ¬ (hexv c < 0 ∨ hexv d < 0) := fun h => h.elim h1 h2
          rw [if_neg hx, decide_eq_false h2, rawRef_map]
          apply Ev.succ
          simp only [corollaryref11_one.j3]
          rw [inc64 (by omega), inc64' (by omega), hb, hb2]
          refine Ev.neg (by decide) (Ev.pos (by omega) (Ev.pos (by omega) (Ev.bind (refHex_ev c) (Ev.pos (by omega) (Ev.pos (by omega) (Ev.bind (refHex_ev d) ?_))))))
          rw [pair_num hx]
          simp only [Option.bind_some]
          rw [show ([((UInt8.ofNat (16 * hexv c + hexv d).toNat).toNat : Int)] : List Int) = ints [UInt8.ofNat (16 * hexv c + hexv d).toNat] from rfl, strOf_ints, ba_append, ba_size, ba_size]
          refine Ev.pos (by simp; omega) ?_
          exact rawRef_ev s hz l (j + 2) _ hd2 (by simp; omega)
def strRef (j : Nat) (acc : List UInt8) : Option (List UInt8 × Nat) → Int × Int × ByteArray × Int × Int
  | none => bad3
  | some r => if okT (acc ++ r.1) = true then (3, 0, ⟨(acc ++ r.1).toArray⟩, ((j + r.2 : Nat) : Int), 0) else bad3
theorem strRef_map (j : Nat) (acc : List UInt8) (x : UInt8) (n : Nat) (o : Option (List UInt8 × Nat)) : strRef j acc (o.map fun r => (x :: r.1, r.2 + n)) = strRef (j + n) (acc ++ [x]) o := by
  cases o with
  | none => rfl
  | some r => simp [strRef, Nat.add_comm, Nat.add_left_comm]
theorem str_close (s : ByteArray) (hz : s.size ≤ 1000000) (j : Nat) (acc : List UInt8) (hj : j < s.size) (ha : acc.length ≤ 1000000) : Ev (fun k => corollaryref11_one.j5 k s (j : Int) true 3 0 ⟨acc.toArray⟩) (strRef j acc (some ([], 1))) := by
  apply Ev.succ
  simp only [corollaryref11_one.j5, strRef, List.append_nil]
  refine Ev.pos trivial ?_
  refine Ev.bind (refRight_ev ⟨3, 0, ⟨acc.toArray⟩⟩ (by show (⟨acc.toArray⟩ : ByteArray).size ≤ _; rw [ba_size]; omega)) ?_
  unfold okT
  rw [inc64 (by omega)]
  by_cases h : vR ⟨3, 0, ⟨acc.toArray⟩⟩ = true
  · simp only [if_pos h]; exact Ev.pure _
  · simp only [if_neg h]; exact Ev.pure _
theorem strRef_ev (s : ByteArray) (hz : s.size ≤ 1000000) : ∀ (l : List UInt8) (j : Nat) (acc : List UInt8), (L s).drop j = l → acc.length ≤ j →
    Ev (fun k => corollaryref11_one.l1 k s (j : Int) 3 0 ⟨acc.toArray⟩) (strRef j acc (strGo l))
  | [], j, acc, h, ha => by
    have := ge_of_nil h
    apply Ev.succ
    simp only [corollaryref11_one.l1, strGo, strRef]
    exact Ev.neg (by omega) (Ev.pure _)
  | [c], j, acc, h, ha => by
    obtain ⟨hb, hj, hd⟩ := bt_list h
    have hend := ge_of_nil hd
    apply Ev.succ
    simp only [corollaryref11_one.l1]
    refine Ev.pos (by omega) (Ev.pos (by omega) ?_)
    rw [hb, inc64 (by omega)]
    by_cases hc : c = 39
    · rw [hc, strGo_end (l := []) (by simp)]
      refine Ev.pos (by decide) (Ev.pos (by omega) ?_)
      exact str_close s hz j acc hj (by omega)
    · rw [strGo_ne [] hc, strRef_map]
      refine Ev.neg (fun e => hc (is39.mp e)) (Ev.pos (by omega) (Ev.pos (by omega) ?_))
      rw [Int.toNat_natCast, Int.toNat_natCast, ext_one h, ba_append, ba_size, ba_size]
      refine Ev.pos (by simp; omega) ?_
      exact strRef_ev s hz [] (j + 1) _ hd (by simp; omega)
  | c :: d :: l, j, acc, h, ha => by
    obtain ⟨hb, hj, hd⟩ := bt_list h
    obtain ⟨hb2, hj2, hd2⟩ := bt_list hd
    apply Ev.succ
    simp only [corollaryref11_one.l1]
    refine Ev.pos (by omega) (Ev.pos (by omega) ?_)
    rw [hb, inc64 (by omega)]
    by_cases hc : c = 39
    · subst hc
      refine Ev.pos (by decide) (Ev.neg (by omega) (Ev.pos (by omega) (Ev.pos (by omega) ?_)))
      rw [hb2]
      by_cases hdd : d = 39
      · subst hdd
        rw [strGo_two, strRef_map, show (((39 : UInt8).toNat : Int) != 39) = false by decide]
        apply Ev.succ
        simp only [corollaryref11_one.j5]
        rw [inc64 (by omega), inc64 (by omega)]
        refine Ev.neg (by decide) (Ev.pos (by omega) (Ev.pos (by omega) (Ev.pos (by omega) ?_)))
        rw [Int.toNat_natCast, Int.toNat_natCast, ext_one hd, ba_append, ba_size, ba_size]
        refine Ev.pos (by simp; omega) ?_
        exact strRef_ev s hz l (j + 2) _ hd2 (by simp; omega)
      · rw [strGo_end (l := d :: l) (by simp [hdd]), show ((d.toNat : Int) != 39) = true by simpa using fun e => hdd (is39.mp e)]
        exact str_close s hz j acc hj (by omega)
    · rw [strGo_ne (d :: l) hc, strRef_map]
      refine Ev.neg (fun e => hc (is39.mp e)) (Ev.pos (by omega) (Ev.pos (by omega) ?_))
      rw [Int.toNat_natCast, Int.toNat_natCast, ext_one h, ba_append, ba_size, ba_size]
      refine Ev.pos (by simp; omega) ?_
      exact strRef_ev s hz (d :: l) (j + 1) _ hd (by simp; omega)
/-- A token as the document tells it: its end, or the error. -/
def outR (j : Nat) (r : Tok) : Int × Int × ByteArray × Int × Int := (r.1, r.2.1, ⟨r.2.2.1.toArray⟩, if r.2.2.2.2 = 0 then ((j + r.2.2.2.1 : Nat) : Int) else 0, r.2.2.2.2)
theorem isN {c : UInt8} {n : Nat} (hn : n < 256) : ((c.toNat : Int) = (n : Int)) ↔ c = UInt8.ofNat n := by
  constructor
  · intro h
    apply UInt8.toNat_inj.mp
    have : (UInt8.ofNat n).toNat = n := by simp; omega
    omega
  · intro h
    rw [h]
    have : (UInt8.ofNat n).toNat = n := by simp; omega
    omega
theorem sgn_two (s : ByteArray) (hz : s.size ≤ 1000000) (j : Nat) (c d : UInt8) (l : List UInt8) (h : (L s).drop j = c :: d :: l) (x : Int) : Ev (fun k => corollaryref11_one.j9 k s (j : Int) x true) (5, 0, ⟨[c, d].toArray⟩, ((j + 2 : Nat) : Int), 0) := by
  obtain ⟨hb, hj, hd⟩ := bt_list h
  obtain ⟨hb2, hj2, hd2⟩ := bt_list hd
  apply Ev.succ
  simp only [corollaryref11_one.j9]
  rw [inc64' (by omega), Int.toNat_natCast, Int.toNat_natCast]
  refine Ev.pos trivial (Ev.pos (by omega) (Ev.pos (by omega) (Ev.pos (by omega) ?_)))
  have ex := ext_take s j 2
  rw [h] at ex
  rw [ex]
  exact Ev.pure _
theorem sgn_one (s : ByteArray) (hz : s.size ≤ 1000000) (j : Nat) (c : UInt8) (l : List UInt8) (h : (L s).drop j = c :: l) :
    Ev (fun k => corollaryref11_one.j9 k s (j : Int) (c.toNat : Int) false) (outR j (if c = 40 ∨ c = 41 ∨ c = 44 ∨ c = 46 ∨ c = 42 ∨ c = 43 ∨ c = 45 ∨ c = 61 ∨ c = 60 ∨ c = 62 then (5, 0, [c], 1, 0) else errT 3)) := by
  obtain ⟨hb, hj, hd⟩ := bt_list h
  apply Ev.succ
  simp only [corollaryref11_one.j9]
  rw [inc64 (by omega), Int.toNat_natCast, Int.toNat_natCast, ext_one h]
  refine Ev.neg (by decide) ?_
  have one : ∀ {q : Prop} [Decidable q], q → Ev (fun k => if 0 ≤ (j : Int) then (if (j : Int) ≤ ((j + 1 : Nat) : Int) then (if ((j + 1 : Nat) : Int) ≤ (s.size : Int) then (some ((5 : Int), (0 : Int), (⟨([c] : List UInt8).toArray⟩ : ByteArray), ((j + 1 : Nat) : Int), (0 : Int))) else none) else none) else none) (outR j (if q then (5, 0, [c], 1, 0) else errT 3)) := by
    intro q _ hq
    rw [if_pos hq]
    exact Ev.pos (by omega) (Ev.pos (by omega) (Ev.pos (by omega) (Ev.pure _)))
  by_cases g1 : c = 40
  · exact Ev.pos ((isN (n := 40) (by decide)).mpr g1) (one (by simp [g1]))
  refine Ev.neg (fun e => g1 ((isN (n := 40) (by decide)).mp e)) ?_
  by_cases g2 : c = 41
  · exact Ev.pos ((isN (n := 41) (by decide)).mpr g2) (one (by simp [g2]))
  refine Ev.neg (fun e => g2 ((isN (n := 41) (by decide)).mp e)) ?_
  by_cases g3 : c = 44
  · exact Ev.pos ((isN (n := 44) (by decide)).mpr g3) (one (by simp [g3]))
  refine Ev.neg (fun e => g3 ((isN (n := 44) (by decide)).mp e)) ?_
  by_cases g4 : c = 46
  · exact Ev.pos ((isN (n := 46) (by decide)).mpr g4) (one (by simp [g4]))
  refine Ev.neg (fun e => g4 ((isN (n := 46) (by decide)).mp e)) ?_
  by_cases g5 : c = 42
  · exact Ev.pos ((isN (n := 42) (by decide)).mpr g5) (one (by simp [g5]))
  refine Ev.neg (fun e => g5 ((isN (n := 42) (by decide)).mp e)) ?_
  by_cases g6 : c = 43
  · exact Ev.pos ((isN (n := 43) (by decide)).mpr g6) (one (by simp [g6]))
  refine Ev.neg (fun e => g6 ((isN (n := 43) (by decide)).mp e)) ?_
  by_cases g7 : c = 45
  · exact Ev.pos ((isN (n := 45) (by decide)).mpr g7) (one (by simp [g7]))
  refine Ev.neg (fun e => g7 ((isN (n := 45) (by decide)).mp e)) ?_
  by_cases g8 : c = 61
  · exact Ev.pos ((isN (n := 61) (by decide)).mpr g8) (one (by simp [g8]))
  refine Ev.neg (fun e => g8 ((isN (n := 61) (by decide)).mp e)) ?_
  by_cases g9 : c = 60
  · exact Ev.pos ((isN (n := 60) (by decide)).mpr g9) (one (by simp [g9]))
  refine Ev.neg (fun e => g9 ((isN (n := 60) (by decide)).mp e)) ?_
  by_cases g10 : c = 62
  · exact Ev.pos ((isN (n := 62) (by decide)).mpr g10) (one (by simp [g10]))
  refine Ev.neg (fun e => g10 ((isN (n := 62) (by decide)).mp e)) ?_
  rw [if_neg (by simp [g1, g2, g3, g4, g5, g6, g7, g8, g9, g10])]
  exact Ev.pure _
/-- The byte that follows, or nought. -/
def nxt (l : List UInt8) : Int := match l with | [] => 0 | d :: _ => (d.toNat : Int)
theorem sgn_ev (s : ByteArray) (hz : s.size ≤ 1000000) (j : Nat) (c : UInt8) (l : List UInt8) (h : (L s).drop j = c :: l) : Ev (fun k => corollaryref11_one.j8 k s (j : Int) (c.toNat : Int) (nxt l)) (outR j (sgnL c l)) := by
  have one := sgn_one s hz j c l h
  unfold sgnL
  apply Ev.succ
  simp only [corollaryref11_one.j8]
  cases l with
  | nil =>
    have e : ¬ ((c = 60 ∧ (([] : List UInt8).head? = some 62 ∨ ([] : List UInt8).head? = some 61)) ∨ (c = 62 ∧ ([] : List UInt8).head? = some 61)) := by simp
    rw [if_neg e]
    simp only [nxt]
    by_cases h60 : (c.toNat : Int) = 60
    · refine Ev.pos h60 (Ev.neg (by decide) (Ev.neg (by decide) (Ev.neg (by omega) one)))
    · refine Ev.neg h60 ?_
      by_cases h62 : (c.toNat : Int) = 62
      · exact Ev.pos h62 one
      · exact Ev.neg h62 one
  | cons d l =>
    simp only [nxt, List.head?_cons, Option.some.injEq]
    by_cases h60 : c = 60
    · have hn := (isN (c := c) (n := 60) (by decide)).mpr h60
      refine Ev.pos hn ?_
      by_cases hd1 : d = 62
      · refine Ev.pos ((isN (n := 62) (by decide)).mpr hd1) ?_
        rw [if_pos (Or.inl ⟨h60, Or.inl hd1⟩)]
        exact sgn_two s hz j c d l h _
      · refine Ev.neg (fun e => hd1 ((isN (n := 62) (by decide)).mp e)) ?_
        by_cases hd2 : d = 61
        · refine Ev.pos ((isN (n := 61) (by decide)).mpr hd2) ?_
          rw [if_pos (Or.inl ⟨h60, Or.inr hd2⟩)]
          exact sgn_two s hz j c d l h _
        · refine Ev.neg (fun e => hd2 ((isN (n := 61) (by decide)).mp e)) (Ev.neg (by omega) ?_)
          rw [if_neg (by rw [h60]; simp [hd1, hd2])]
          exact one
    · refine Ev.neg (fun e => h60 ((isN (n := 60) (by decide)).mp e)) ?_
      by_cases h62 : c = 62
      · refine Ev.pos ((isN (n := 62) (by decide)).mpr h62) ?_
        by_cases hd2 : d = 61
        · rw [if_pos (Or.inr ⟨h62, hd2⟩), show ((d.toNat : Int) == 61) = true by rw [hd2]; rfl]
          exact sgn_two s hz j c d l h _
        · rw [if_neg (by simp [h60, hd2]), show ((d.toNat : Int) == 61) = false by simpa using fun e => hd2 ((isN (n := 61) (by decide)).mp e)]
          exact one
      · refine Ev.neg (fun e => h62 ((isN (n := 62) (by decide)).mp e)) ?_
        rw [if_neg (by simp [h60, h62])]
        exact one
theorem outR_raw (j : Nat) (l : List UInt8) : outR j (rawL l) = rawRef (j + 2) [] (rawGo l) := by
  unfold rawL rawRef
  cases rawGo l with
  | none => rfl
  | some r =>
    simp only [List.nil_append]
    by_cases h : r.1.length ≤ 64
    · rw [if_pos h, if_pos h]; simp [outR]; omega
    · rw [if_neg h, if_neg h]; rfl
theorem outR_str (j : Nat) (l : List UInt8) : outR j (strL l) = strRef (j + 1) [] (strGo l) := by
  unfold strL strRef
  cases strGo l with
  | none => rfl
  | some r =>
    simp only [List.nil_append]
    by_cases h : okT r.1 = true
    · rw [if_pos h, if_pos h]; simp [outR]; omega
    · rw [if_neg h, if_neg h]; rfl
theorem ltr120 : ltr 120 = true := by decide
theorem one_ev (s : ByteArray) (hz : s.size ≤ 1000000) (j : Nat) (c : UInt8) (m : List UInt8) (h : (L s).drop j = c :: m) : Ev (fun k => corollaryref11_one.f k s (j : Int)) (outR j (tokL c m)) := by
  obtain ⟨hb, hj, hd⟩ := bt_list h
  have rest : ∀ b : Bool, (b = true ↔ (c = 120 ∧ m.head? = some 39)) → Ev (fun k => corollaryref11_one.j0 k s (j : Int) b) (outR j (tokL c m)) := by
    intro b hbx
    apply Ev.succ
    simp only [corollaryref11_one.j0]
    unfold tokL
    by_cases hx : c = 120 ∧ m.head? = some 39
    · rw [if_pos hx, outR_raw]
      refine Ev.pos (hbx.mpr hx) ?_
      rw [inc64' (by omega)]
      obtain ⟨d, q, rfl⟩ : ∃ d q, m = d :: q := by
        cases m with
        | nil => simp at hx
        | cons d q => exact ⟨d, q, rfl⟩
      obtain ⟨_, _, hd2⟩ := bt_list hd
      exact rawRef_ev s hz q (j + 2) [] hd2 (by simp)
    · rw [if_neg hx]
      refine Ev.neg (fun e => hx (hbx.mp e)) (Ev.pos (by omega) (Ev.pos (by omega) ?_))
      rw [hb]
      by_cases h39 : c = 39
      · subst h39
        rw [if_neg (by decide), if_neg (by decide), if_pos rfl, outR_str, inc64 (by omega)]
        refine Ev.pos (by decide) ?_
        exact strRef_ev s hz m (j + 1) [] hd (by simp)
      · refine Ev.neg (fun e => h39 (is39.mp e)) (Ev.bind (class_ev s j _ h) ?_)
        by_cases h1 : ltr c = true
        · rw [if_pos h1]
          refine Ev.pos (by rw [clsL_cons, if_pos h1]) ?_
          have := word_ev s hz (c :: m) j [] h (by simp) (by simp)
          rw [List.nil_append] at this
          have e : (1, 0, (⟨((c :: m).takeWhile (wordc true)).toArray⟩ : ByteArray), (j : Int) + (((c :: m).takeWhile (wordc true)).length : Int), 0) = outR j (1, 0, (c :: m).takeWhile (wordc true), ((c :: m).takeWhile (wordc true)).length, 0) := by simp [outR]
          rw [e] at this
          exact this
        · rw [if_neg h1]
          refine Ev.neg (by rw [clsL_cons, if_neg h1]; split <;> (try split) <;> decide) (Ev.bind (class_ev s j _ h) ?_)
          by_cases h2 : dig c = true
          · rw [if_pos h2]
            refine Ev.pos (by rw [clsL_cons, if_neg h1, if_pos h2]) ?_
            have := num_ev s hz (c :: m) j 0 h (by omega) (by omega)
            unfold numL
            cases hq : numGo ((c :: m).takeWhile dig) 0 with
            | none => rw [hq] at this; exact this
            | some v =>
              rw [hq] at this
              have e : (2, v, (⟨#[]⟩ : ByteArray), (j : Int) + (((c :: m).takeWhile dig).length : Int), 0) = outR j (2, v, [], ((c :: m).takeWhile dig).length, 0) := by simp [outR]
              simp only [e] at this
              exact this
          · rw [if_neg h2, if_neg h39]
            refine Ev.neg (by rw [clsL_cons, if_neg h1, if_neg h2]; split <;> decide) ?_
            rw [inc64 (by omega)]
            have sg := sgn_ev s hz j c m h
            cases m with
            | nil =>
              have := ge_of_nil hd
              exact Ev.neg (by omega) sg
            | cons d q =>
              obtain ⟨hb2, hj2, _⟩ := bt_list hd
              refine Ev.pos (by omega) (Ev.pos (by omega) ?_)
              rw [hb2]
              exact sg
  unfold corollaryref11_one.f
  refine Ev.pos (by omega) (Ev.pos (by omega) ?_)
  rw [hb]
  by_cases h120 : c = 120
  · refine Ev.pos ((isN (n := 120) (by decide)).mpr h120) ?_
    rw [inc64 (by omega)]
    cases m with
    | nil =>
      have := ge_of_nil hd
      exact Ev.neg (by omega) (rest false (by simp))
    | cons d q =>
      obtain ⟨hb2, hj2, _⟩ := bt_list hd
      refine Ev.pos (by omega) (Ev.pos (by omega) ?_)
      rw [hb2]
      refine rest _ ?_
      rw [beq_iff_eq, is39]
      simp [h120]
  · exact Ev.neg (fun e => h120 ((isN (n := 120) (by decide)).mp e)) (rest false (by simp [h120]))
end Go.Proofs.YtjcjndpfihchnaaDoor.Pure
