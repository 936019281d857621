-- Plain laws of the printed functions (wip/l11).
import Derived.Test.YtjcjndpfihchnaaDoorPureV
import Derived.Lib.Bytealg
namespace Go.Proofs.YtjcjndpfihchnaaDoor.Pure
open Go.ChangeShapes Go.WideShapes Go.ChangeAt Go.RowKit Go.Proofs.YtjcjndpfihchnaaDoorW.PrintWords Go.Proofs.YtjcjndpfihchnaaDoorW.PrintLast Go.Proofs.YtjcjndpfihchnaaDoor.P Go.Proofs.YtjcjndpfihchnaaDoor.Open
set_option linter.unusedVariables false
set_option linter.unusedSimpArgs false
/-! Tokens, plainly: over lists of bytes. -/
abbrev L (s : ByteArray) : List UInt8 := s.data.toList
theorem L_len (s : ByteArray) : (L s).length = s.size := by simp [L]
theorem ba_append (a b : List UInt8) : (⟨a.toArray⟩ : ByteArray) ++ (⟨b.toArray⟩ : ByteArray) = ⟨(a ++ b).toArray⟩ := by
  apply ByteArray.ext
  simp [ByteArray.data_append]
theorem ba_size (a : List UInt8) : (⟨a.toArray⟩ : ByteArray).size = a.length := by
  show a.toArray.size = _
  simp
theorem ba_L (s : ByteArray) : (⟨(L s).toArray⟩ : ByteArray) = s := by
  apply ByteArray.ext
  simp [L]
theorem bt_list {s : ByteArray} {j : Nat} {c : UInt8} {l : List UInt8} (h : (L s).drop j = c :: l) : bt s (j : Int) = (c.toNat : Int) ∧ j < s.size ∧ (L s).drop (j + 1) = l := by
  have hj : j < (L s).length := by
    rcases Nat.lt_or_ge j (L s).length with h' | h'
    · exact h'
    · rw [List.drop_eq_nil_of_le h'] at h; cases h
  rw [List.drop_eq_getElem_cons hj] at h
  obtain ⟨h1, h2⟩ := List.cons.inj h
  have hs : j < s.size := by rw [← L_len]; exact hj
  refine ⟨?_, hs, h2⟩
  have := bt_at s (j : Int) (by simpa using hs)
  rw [← this, ← h1]
  congr 1
theorem ge_of_nil {s : ByteArray} {j : Nat} (h : (L s).drop j = []) : s.size ≤ j := by
  rw [← L_len]
  exact List.drop_eq_nil_iff.mp h
theorem ext_drop (s : ByteArray) (j : Nat) (hj : j ≤ s.size) : s.extract j s.size = ⟨((L s).drop j).toArray⟩ := by
  apply ByteArray.ext
  apply Array.toList_inj.mp
  show (s.extract j s.size).data.toList = _
  rw [Go.Lib.extract_data, List.take_of_length_le (by rw [List.length_drop]; simp)]
theorem ext_take (s : ByteArray) (j n : Nat) : s.extract j (j + n) = ⟨(((L s).drop j).take n).toArray⟩ := by
  apply ByteArray.ext
  apply Array.toList_inj.mp
  show (s.extract j (j + n)).data.toList = _
  rw [Go.Lib.extract_data, Nat.add_sub_cancel_left]
theorem L_drop (s : ByteArray) (j : Nat) : L ⟨((L s).drop j).toArray⟩ = (L s).drop j := by simp [L]
def dig (c : UInt8) : Bool := decide (48 ≤ c.toNat) && decide (c.toNat ≤ 57)
def ltr (c : UInt8) : Bool := decide (97 ≤ c.toNat) && decide (c.toNat ≤ 122)
def wordc (all : Bool) (c : UInt8) : Bool := dig c || all && (ltr c || decide (c.toNat = 95))
theorem digit_eq (c : UInt8) : lex_digit.f (c.toNat : Int) = some (dig c) := by
  unfold lex_digit.f dig
  by_cases h : 48 ≤ c.toNat
  · rw [if_pos (by omega)]
    congr 1
    rw [decide_eq_true h, Bool.true_and, decide_eq_decide]
    omega
  · rw [if_neg (by omega), decide_eq_false h]; rfl
theorem letter_eq (c : UInt8) : lex_letter.f (c.toNat : Int) = some (ltr c) := by
  unfold lex_letter.f ltr
  by_cases h : 97 ≤ c.toNat
  · rw [if_pos (by omega)]
    congr 1
    rw [decide_eq_true h, Bool.true_and, decide_eq_decide]
    omega
  · rw [if_neg (by omega), decide_eq_false h]; rfl
theorem inc64 {j : Nat} (h : j < 9223372036854775807) : wrap64 ((j : Int) + 1) = ((j + 1 : Nat) : Int) := by rw [w64 (by omega) (by omega)]; rfl
theorem inc64' {j : Nat} (h : j < 9223372036854775806) : wrap64 ((j : Int) + 2) = ((j + 2 : Nat) : Int) := by rw [w64 (by omega) (by omega)]; rfl
theorem span_ev (s : ByteArray) (all : Bool) (hz : s.size ≤ 1000000) : ∀ (l : List UInt8) (j : Nat), (L s).drop j = l → Ev (fun k => lex_span.l0 k s all (j : Int)) ((j : Int) + ((l.takeWhile (wordc all)).length : Int))
  | [], j, h => by
    have := ge_of_nil h
    apply Ev.succ
    simp only [lex_span.l0]
    exact Ev.neg (by omega) (Ev.pure _)
  | c :: l, j, h => by
    obtain ⟨hb, hj, hd⟩ := bt_list h
    have ih := span_ev s all hz l (j + 1) hd
    have e : ((j : Int) + (((c :: l).takeWhile (wordc all)).length : Int)) = if wordc all c = true then (((j + 1 : Nat) : Int) + ((l.takeWhile (wordc all)).length : Int)) else (j : Int) := by
      rw [List.takeWhile_cons]
      split <;> simp <;> omega
    rw [e]
    apply Ev.succ
    simp only [lex_span.l0]
    refine Ev.pos (by omega) (Ev.pos (by omega) ?_)
    rw [hb, digit_eq, inc64 (by omega)]
    simp only [Option.bind_some]
    by_cases h1 : dig c = true
    · have : wordc all c = true := by simp [wordc, h1]
      rw [if_pos this]
      exact Ev.pos h1 ih
    · refine Ev.neg h1 ?_
      have h1' : dig c = false := by simpa using h1
      by_cases ha : all = true
      · refine Ev.pos ha ?_
        rw [letter_eq]
        simp only [Option.bind_some]
        by_cases h2 : ltr c = true
        · have : wordc all c = true := by simp [wordc, ha, h2]
          rw [if_pos this]
          exact Ev.pos h2 ih
        · have h2' : ltr c = false := by simpa using h2
          refine Ev.neg h2 ?_
          by_cases h3 : c.toNat = 95
          · have : wordc all c = true := by simp [wordc, ha, h3]
            rw [if_pos this]
            exact Ev.pos (by omega) ih
          · have : ¬ wordc all c = true := by simp [wordc, h1', h2', h3]
            rw [if_neg this]
            exact Ev.neg (by omega) (Ev.pure _)
      · have : ¬ wordc all c = true := by simp [wordc, h1', ha]
        rw [if_neg this]
        exact Ev.neg ha (Ev.pure _)
/-- The number of digits, unless it goes over. -/
def numGo : List UInt8 → Int → Option Int
  | [], a => some a
  | c :: l, a => if 10 * a + ((c.toNat : Int) - 48) > 9223372036854775807 then none else numGo l (10 * a + ((c.toNat : Int) - 48))
theorem dig_rng {c : UInt8} (h : dig c = true) : 48 ≤ c.toNat ∧ c.toNat ≤ 57 := by simpa [dig] using h
theorem number_ev (s : ByteArray) (hz : s.size ≤ 1000000) : ∀ (l : List UInt8) (j : Nat) (a : Int), (L s).drop j = l → (∀ c ∈ l, dig c = true) → 0 ≤ a → a ≤ 9223372036854775807 →
    Ev (fun k => lex_number.l0 k s a (s.size : Int) (j : Int)) (match numGo l a with | none => (0, 0, (⟨#[]⟩ : ByteArray), 0, 14) | some v => (2, v, (⟨#[]⟩ : ByteArray), (s.size : Int), 0))
  | [], j, a, h, _, _, _ => by
    have := ge_of_nil h
    apply Ev.succ
    simp only [lex_number.l0, numGo]
    exact Ev.neg (by omega) (Ev.pure _)
  | c :: l, j, a, h, hd, h0, h1 => by
    obtain ⟨hb, hj, hdr⟩ := bt_list h
    have hc := dig_rng (hd c (List.mem_cons_self))
    apply Ev.succ
    simp only [lex_number.l0, numGo]
    refine Ev.pos (by omega) (Ev.pos (by omega) (Ev.pos (by omega) ?_))
    rw [hb, inc64 (by omega), show ((c.toNat : Int) - 48) % 256 = (c.toNat : Int) - 48 by omega]
    by_cases ho : 10 * a + ((c.toNat : Int) - 48) > 9223372036854775807
    · rw [if_pos ho]
      exact Ev.pos (by omega) (Ev.pure _)
    · rw [if_neg ho]
      refine Ev.neg (by omega) ?_
      rw [w64 (n := 10 * a) (by omega) (by omega), w64 (n := 10 * a + ((c.toNat : Int) - 48)) (by omega) (by omega)]
      exact number_ev s hz l (j + 1) _ hdr (fun x hx => hd x (List.mem_cons_of_mem _ hx)) (by omega) (by omega)
/-- A value's token that is checked. -/
theorem checked3 (s : ByteArray) (m : Int) : lex_checked.f 3 0 s m = some (if vR ⟨3, 0, s⟩ = true then (3, 0, s, m, 0) else (0, 0, (⟨#[]⟩ : ByteArray), 0, 3)) := by
  unfold lex_checked.f lex_Literal.f
  rw [if_neg (by decide), if_pos rfl]
  simp only [Option.bind_some]
  rw [right_eq ⟨3, 0, s⟩]
  simp only [Option.bind_some]
  split <;> rfl
theorem checked4 (s : ByteArray) (m : Int) : lex_checked.f 4 0 s m = some (if vR ⟨4, 0, s⟩ = true then (4, 0, s, m, 0) else (0, 0, (⟨#[]⟩ : ByteArray), 0, 3)) := by
  unfold lex_checked.f lex_Literal.f
  rw [if_neg (by decide), if_neg (by decide), if_pos rfl]
  simp only [Option.bind_some]
  rw [right_eq ⟨4, 0, s⟩]
  simp only [Option.bind_some]
  split <;> rfl
/-- A digit to the base 16. -/
def hexv (c : UInt8) : Int := if 48 ≤ c.toNat ∧ c.toNat ≤ 57 then (c.toNat : Int) - 48 else if 97 ≤ c.toNat ∧ c.toNat ≤ 102 then (c.toNat : Int) - 87 else -1
theorem hexv_rng (c : UInt8) : -1 ≤ hexv c ∧ hexv c ≤ 15 := by unfold hexv; split <;> (try split) <;> omega
theorem hexv_ix (c : UInt8) : Go.Lib.indexByte [48, 49, 50, 51, 52, 53, 54, 55, 56, 57, 97, 98, 99, 100, 101, 102] c = hexv c := by
  have key : ∀ n : Fin 256, Go.Lib.indexByte [48, 49, 50, 51, 52, 53, 54, 55, 56, 57, 97, 98, 99, 100, 101, 102] (UInt8.ofNat n.val) = hexv (UInt8.ofNat n.val) := by decide +kernel
  have := key ⟨c.toNat, c.toNat_lt⟩
  simpa using this
theorem ixb_eq (c : UInt8) : strings_IndexByte.f (⟨#[48, 49, 50, 51, 52, 53, 54, 55, 56, 57, 97, 98, 99, 100, 101, 102]⟩ : ByteArray) (c.toNat : Int) = some (hexv c) := by
  unfold strings_IndexByte.f
  rw [show ((c.toNat : Int).toNat.toUInt8) = c by simp]
  exact congrArg some (hexv_ix c)
/-- Pairs of digits to the base 16. -/
def pairs : List UInt8 → Option (List UInt8)
  | [] => some []
  | [_] => none
  | c :: d :: l => if hexv c < 0 ∨ hexv d < 0 then none else (pairs l).map fun r => UInt8.ofNat (16 * hexv c + hexv d).toNat :: r
/-- .. up to a '. -/
def rawGo : List UInt8 → Option (List UInt8 × Nat)
  | [] => none
  | [c] => if c = 39 then some ([], 1) else none
  | c :: d :: l => if c = 39 then some ([], 1) else if hexv c < 0 ∨ hexv d < 0 then none else (rawGo l).map fun r => (UInt8.ofNat (16 * hexv c + hexv d).toNat :: r.1, r.2 + 2)
theorem hexv39 : hexv 39 = -1 := by decide
theorem ixb_cons (c : UInt8) (l : List UInt8) : Go.Lib.indexByte (c :: l) 39 = if c = 39 then 0 else if Go.Lib.indexByte l 39 = -1 then -1 else Go.Lib.indexByte l 39 + 1 := by
  rw [Go.Lib.indexByte]
  simp
/-- What stands up to the first ', in pairs, is what is told pair by pair. -/
theorem rawGo_eq : ∀ l : List UInt8, rawGo l = if Go.Lib.indexByte l 39 < 0 then none else if Go.Lib.indexByte l 39 % 2 = 1 then none else (pairs (l.take (Go.Lib.indexByte l 39).toNat)).map fun r => (r, (Go.Lib.indexByte l 39).toNat + 1)
  | [] => by simp [rawGo, Go.Lib.indexByte]
  | [c] => by
    rw [ixb_cons]
    by_cases h : c = 39
    · subst h; simp [rawGo, pairs]
    · simp [rawGo, h, Go.Lib.indexByte]
  | c :: d :: l => by
    have ih := rawGo_eq l
    have hge := Go.Lib.indexByte_ge l 39
    by_cases h : c = 39
    · rw [ixb_cons]; subst h; simp [rawGo, pairs]
    · by_cases h2 : d = 39
      · rw [ixb_cons, ixb_cons]
        subst h2
        simp [rawGo, h, hexv39]
      · by_cases hm : Go.Lib.indexByte l 39 = -1
        · have hidx : Go.Lib.indexByte (c :: d :: l) 39 = -1 := by
            rw [ixb_cons, ixb_cons, if_neg h, if_neg h2, hm]; rfl
          have ih' : rawGo l = none := by rw [ih, hm]; rfl
          rw [hidx, if_pos (by decide)]
          simp [rawGo, h, ih']
        · obtain ⟨i, hi⟩ : ∃ i : Nat, Go.Lib.indexByte l 39 = i := ⟨(Go.Lib.indexByte l 39).toNat, by omega⟩
          have hidx : Go.Lib.indexByte (c :: d :: l) 39 = ((i + 2 : Nat) : Int) := by
            rw [ixb_cons, ixb_cons, if_neg h, if_neg h2, hi, if_neg (show ¬ ((i : Int) = -1) by omega), if_neg (show ¬ ((i : Int) + 1 = -1) by omega)]
            omega
          rw [hi, if_neg (show ¬ ((i : Int) < 0) by omega)] at ih
          rw [hidx, if_neg (show ¬ (((i + 2 : Nat) : Int) < 0) by omega)]
          by_cases hp : (i : Int) % 2 = 1
          · rw [if_pos hp] at ih
            rw [if_pos (show ((i + 2 : Nat) : Int) % 2 = 1 by omega)]
            simp [rawGo, h, ih]
          · rw [if_neg hp] at ih
            rw [if_neg (show ¬ (((i + 2 : Nat) : Int) % 2 = 1) by omega)]
            simp only [Int.toNat_natCast] at ih ⊢
            simp only [rawGo, if_neg h, List.take_succ_cons, pairs, ih]
            by_cases hx : hexv c < 0 ∨ hexv d < 0
            · simp [hx]
            · simp only [if_neg hx]
              cases pairs (l.take i) <;> simp
end Go.Proofs.YtjcjndpfihchnaaDoor.Pure
