-- Plain laws of the printed functions (wip/l11).
import Derived.Test.YtjcjndpfihchnaaDoorPureQ1
import Derived.Test.YtjcjndpfihchnaaDoorPx26
import Derived.Test.YtjcjndpfihchnaaDoorPx36
import Derived.Lib.IndexLaws
namespace Go.Proofs.YtjcjndpfihchnaaDoor.Pure
open Go.ChangeShapes Go.WideShapes Go.ChangeAt Go.RowKit Go.Proofs.YtjcjndpfihchnaaDoorW.PrintWords Go.Proofs.YtjcjndpfihchnaaDoorW.PrintLast Go.Proofs.YtjcjndpfihchnaaDoor.P Go.Proofs.YtjcjndpfihchnaaDoor.Open
set_option linter.unusedVariables false
set_option linter.unusedSimpArgs false
/-! One token: what the program tells. -/
abbrev Tok := Int × Int × List UInt8 × Nat × Int
def errT (e : Int) : Tok := (0, 0, [], 0, e)
def okT (l : List UInt8) : Bool := vR ⟨3, 0, ⟨l.toArray⟩⟩
/-- A sign. -/
def sgnL (c : UInt8) (l : List UInt8) : Tok :=
  if (c = 60 ∧ (l.head? = some 62 ∨ l.head? = some 61)) ∨ (c = 62 ∧ l.head? = some 61) then (5, 0, c :: l.take 1, 2, 0)
  else if c = 40 ∨ c = 41 ∨ c = 44 ∨ c = 46 ∨ c = 42 ∨ c = 43 ∨ c = 45 ∨ c = 61 ∨ c = 60 ∨ c = 62 then (5, 0, [c], 1, 0)
  else errT 3
def rawL (l : List UInt8) : Tok := match rawGo l with
  | none => errT 3
  | some r => if r.1.length ≤ 64 then (4, 0, r.1, r.2 + 2, 0) else errT 3
def strL (l : List UInt8) : Tok := match strGo l with
  | none => errT 3
  | some r => if okT r.1 = true then (3, 0, r.1, r.2 + 1, 0) else errT 3
def numL (l : List UInt8) : Tok := match numGo (l.takeWhile dig) 0 with
  | none => errT 14
  | some v => (2, v, [], (l.takeWhile dig).length, 0)
def tokL (c : UInt8) (m : List UInt8) : Tok :=
  if c = 120 ∧ m.head? = some 39 then rawL (m.drop 1)
  else if ltr c = true then (1, 0, (c :: m).takeWhile (wordc true), ((c :: m).takeWhile (wordc true)).length, 0)
  else if dig c = true then numL (c :: m)
  else if c = 39 then strL m
  else sgnL c m
def out5 (r : Tok) : Int × Int × ByteArray × Int × Int := (r.1, r.2.1, ⟨r.2.2.1.toArray⟩, (r.2.2.2.1 : Int), r.2.2.2.2)
def ints (l : List UInt8) : List Int := l.map fun c => (c.toNat : Int)
theorem strOf_ints (l : List UInt8) : strOfNums (ints l) = ⟨l.toArray⟩ := by
  unfold strOfNums ints
  rw [List.map_map]
  have : (fun n : Int => UInt8.ofNat n.toNat) ∘ (fun c : UInt8 => (c.toNat : Int)) = id := by
    funext c; simp
  rw [this, List.map_id]
theorem vR4 (s : ByteArray) : vR ⟨4, 0, s⟩ = decide (s.size ≤ 64) := by
  unfold vR
  simp
  omega
theorem pairs_len : ∀ {l r : List UInt8}, pairs l = some r → l.length = 2 * r.length
  | [], r, h => by simp [pairs] at h; subst h; rfl
  | [_], r, h => by simp [pairs] at h
  | c :: d :: l, r, h => by
    simp only [pairs] at h
    split at h
    · cases h
    · cases hp : pairs l with
      | none => rw [hp] at h; cases h
      | some q =>
        rw [hp] at h
        simp only [Option.map_some, Option.some.injEq] at h
        have := pairs_len hp
        rw [← h]; simp [this]; omega
theorem pair_num {c d : UInt8} (h : ¬ (hexv c < 0 ∨ hexv d < 0)) : (wrap64 ((wrap64 (16 * hexv c)) + hexv d)) % 256 = ((UInt8.ofNat (16 * hexv c + hexv d).toNat).toNat : Int) := by
  have h1 := hexv_rng c
  have h2 := hexv_rng d
  rw [w64 (n := 16 * hexv c) (by omega) (by omega), w64 (by omega) (by omega)]
  simp
  omega
def rawRes (e : Nat) (acc : List UInt8) : Option (List UInt8) → Int × Int × ByteArray × Int × Int
  | none => (0, 0, (⟨#[]⟩ : ByteArray), 0, 3)
  | some p => if (acc ++ p).length ≤ 64 then (4, 0, (⟨(acc ++ p).toArray⟩ : ByteArray), ((e + 3 : Nat) : Int), 0) else (0, 0, (⟨#[]⟩ : ByteArray), 0, 3)
theorem rawRes_map (e : Nat) (acc : List UInt8) (x : UInt8) (o : Option (List UInt8)) : rawRes e acc (o.map fun r => x :: r) = rawRes e (acc ++ [x]) o := by
  cases o with
  | none => rfl
  | some p => simp [rawRes]
theorem raw_loop (s : ByteArray) (e : Nat) (hz : s.size ≤ 1000000) (he : e + 2 < s.size) : ∀ (n j : Nat) (acc : List UInt8), j + 2 * n = e + 2 → acc.length ≤ j →
    Ev (fun k => lex_raw.l0 k s (e : Int) (ints acc) (j : Int)) (rawRes e acc (pairs (((L s).drop j).take (2 * n))))
  | 0, j, acc, hj, ha => by
    apply Ev.succ
    simp only [lex_raw.l0, Nat.mul_zero, List.take_zero, pairs, rawRes, List.append_nil]
    rw [w64 (n := (e : Int) + 2) (by omega) (by omega), w64 (n := (e : Int) + 3) (by omega) (by omega)]
    refine Ev.neg (by omega) ?_
    rw [strOf_ints, checked4, vR4, ba_size]
    simp only [Option.bind_some]
    by_cases h : acc.length ≤ 64
    · rw [if_pos h, if_pos (by simpa using h)]
      exact Ev.pure _
    · rw [if_neg h, if_neg (by simpa using h)]
      exact Ev.pure _
  | n + 1, j, acc, hj, ha => by
    have hl : (L s).length = s.size := L_len s
    have hj1 : j + 1 < (L s).length := by omega
    have h1 : (L s).drop j = (L s)[j] :: (L s).drop (j + 1) := List.drop_eq_getElem_cons (by omega)
    have h2 : (L s).drop (j + 1) = (L s)[j + 1] :: (L s).drop (j + 2) := List.drop_eq_getElem_cons hj1
    obtain ⟨hb1, _, _⟩ := bt_list h1
    obtain ⟨hb2, _, _⟩ := bt_list h2
    generalize hc : (L s)[j] = c at h1 hb1
    generalize hd : (L s)[j + 1] = d at h2 hb2
    apply Ev.succ
    simp only [lex_raw.l0]
    rw [w64 (n := (e : Int) + 2) (by omega) (by omega), inc64 (by omega), inc64' (by omega), hb1, hb2]
    refine Ev.pos (by omega) (Ev.pos (by omega) (Ev.pos (by omega) ?_))
    rw [ixb_eq]
    simp only [Option.bind_some]
    refine Ev.pos (by omega) (Ev.pos (by omega) ?_)
    rw [ixb_eq]
    simp only [Option.bind_some]
    rw [h1, h2, show 2 * (n + 1) = 2 * n + 1 + 1 by omega, List.take_succ_cons, List.take_succ_cons]
    simp only [pairs]
    by_cases hx1 : hexv c < 0
    · rw [if_pos (Or.inl hx1)]
      exact Ev.pos hx1 (Ev.pure _)
    · refine Ev.neg hx1 ?_
      by_cases hx2 : hexv d < 0
      · rw [if_pos (Or.inr hx2)]
        exact Ev.pos hx2 (Ev.pure _)
      · have hx : ¬ (hexv c < 0 ∨ hexv d < 0) := fun h => h.elim hx1 hx2
        rw [if_neg hx, pair_num hx]
        refine Ev.neg hx2 (Ev.pos (by simp [ints]; omega) ?_)
        have ih := raw_loop s e hz he n (j + 2) (acc ++ [UInt8.ofNat (16 * hexv c + hexv d).toNat]) (by omega) (by simp; omega)
        have ei : ints acc ++ [((UInt8.ofNat (16 * hexv c + hexv d).toNat).toNat : Int)] = ints (acc ++ [UInt8.ofNat (16 * hexv c + hexv d).toNat]) := by simp [ints]
        rw [ei]
        rw [rawRes_map]
        exact ih
theorem raw_ev (s : ByteArray) (hz : s.size ≤ 1000000) (h2 : 2 ≤ s.size) : Ev (fun k => lex_raw.f k s) (out5 (rawL ((L s).drop 2))) := by
  unfold lex_raw.f
  refine Ev.pos (by omega) ?_
  rw [ext_drop s 2 h2]
  unfold strings_IndexByte.f
  simp only [Option.bind_some]
  have e39 : ((39 : Int).toNat.toUInt8) = 39 := by decide
  rw [e39]
  show Ev (fun k => if Go.Lib.indexByte ((L s).drop 2) 39 < 0 then lex_raw.j0 k s (Go.Lib.indexByte ((L s).drop 2) 39) true else lex_raw.j0 k s (Go.Lib.indexByte ((L s).drop 2) 39) ((Go.Lib.indexByte ((L s).drop 2) 39).tmod 2 == 1)) _
  have hge := Go.Lib.indexByte_ge ((L s).drop 2) 39
  unfold rawL
  rw [rawGo_eq]
  by_cases hm : Go.Lib.indexByte ((L s).drop 2) 39 < 0
  · rw [if_pos hm]
    refine Ev.pos hm (Ev.succ ?_)
    simp only [lex_raw.j0]
    exact Ev.pos trivial (Ev.pure _)
  · rw [if_neg hm]
    obtain ⟨e, he⟩ : ∃ e : Nat, Go.Lib.indexByte ((L s).drop 2) 39 = e := ⟨(Go.Lib.indexByte ((L s).drop 2) 39).toNat, by omega⟩
    rw [he]
    refine Ev.neg (by omega) (Ev.succ ?_)
    simp only [lex_raw.j0]
    have ht : Int.tmod (e : Int) 2 = (e : Int) % 2 := Int.tmod_eq_emod_of_nonneg (by omega)
    rw [ht]
    by_cases hp : (e : Int) % 2 = 1
    · rw [if_pos hp]
      exact Ev.pos (by simpa using hp) (Ev.pure _)
    · rw [if_neg hp]
      refine Ev.neg (by simpa using hp) ?_
      have hlt : e + 2 < s.size := by
        have h39 := (Go.Lib.indexByte_some he).1
        have h40 := (List.getElem?_eq_some_iff.mp h39).1
        rw [List.length_drop, L_len] at h40
        omega
      have key := raw_loop s e hz hlt (e / 2) 2 [] (by omega) (by simp)
      rw [show 2 * (e / 2) = e by omega] at key
      simp only [Int.toNat_natCast]
      cases hq : pairs (((L s).drop 2).take e) with
      | none =>
        rw [hq] at key
        exact key
      | some p =>
        rw [hq] at key
        simp only [rawRes, List.nil_append, Option.map_some] at key ⊢
        by_cases h64 : p.length ≤ 64
        · rw [if_pos h64] at key ⊢
          exact key
        · rw [if_neg h64] at key ⊢
          exact key
theorem str_eq_ (s : ByteArray) (hz : s.size ≤ 1000000) : lex_str.f s = some (out5 (strL ((L s).drop 1))) := by
  unfold lex_str.f strL
  rw [if_pos hz]
  show (match strGo ((L s).drop 1) with | none => _ | some r => _) = _
  cases strGo ((L s).drop 1) with
  | none => rfl
  | some r =>
    show lex_checked.f 3 0 ⟨r.1.toArray⟩ ((r.2 : Int) + 1) = _
    rw [checked3]
    unfold okT
    by_cases h : vR ⟨3, 0, ⟨r.1.toArray⟩⟩ = true
    · simp only [if_pos h]; rfl
    · simp only [if_neg h]; rfl
theorem pre1 (a c : UInt8) (m : List UInt8) : Go.Lib.hasPrefix (c :: m) [a] = decide (c = a) := by
  unfold Go.Lib.hasPrefix
  rw [Bool.eq_iff_iff]
  simp [List.isPrefixOf]
  exact ⟨fun h => h.symm, fun h => h.symm⟩
theorem pre2 (a b c : UInt8) (m : List UInt8) : Go.Lib.hasPrefix (c :: m) [a, b] = (decide (c = a) && decide (m.head? = some b)) := by
  unfold Go.Lib.hasPrefix
  rw [Bool.eq_iff_iff]
  cases m with
  | nil => simp [List.isPrefixOf]
  | cons d m =>
    simp [List.isPrefixOf]
    exact ⟨fun h => ⟨h.1.symm, h.2.symm⟩, fun h => ⟨h.1.symm, h.2.symm⟩⟩
theorem sign_eq (s : ByteArray) (c : UInt8) (m : List UInt8) (hs : L s = c :: m) : signOf s signs = out5 (sgnL c m) := by
  have hd : s.data.toList = c :: m := hs
  unfold signs sgnL
  simp only [signOf, hd, pre1, pre2, Bool.and_eq_true, decide_eq_true_eq]
  by_cases h1 : c = 60
  · subst h1
    cases m with
    | nil => simp [out5]; rfl
    | cons d m =>
      by_cases hd1 : d = 62
      · subst hd1; simp [out5]; rfl
      · by_cases hd2 : d = 61
        · subst hd2; simp [out5]; rfl
        · simp [out5, hd1, hd2]; rfl
  · by_cases h2 : c = 62
    · subst h2
      cases m with
      | nil => simp [out5]; rfl
      | cons d m =>
        by_cases hd2 : d = 61
        · subst hd2; simp [out5]; rfl
        · simp [out5, hd2]; rfl
    · simp only [h1, h2, false_and, if_false, or_self, or_false, false_or]
      by_cases g1 : c = 40
      · subst g1; simp [out5]; rfl
      by_cases g2 : c = 41
      · subst g2; simp [out5]; rfl
      by_cases g3 : c = 44
      · subst g3; simp [out5]; rfl
      by_cases g4 : c = 46
      · subst g4; simp [out5]; rfl
      by_cases g5 : c = 42
      · subst g5; simp [out5]; rfl
      by_cases g6 : c = 43
      · subst g6; simp [out5]; rfl
      by_cases g7 : c = 45
      · subst g7; simp [out5]; rfl
      by_cases g8 : c = 61
      · subst g8; simp [out5]; rfl
      simp [g1, g2, g3, g4, g5, g6, g7, g8, out5, errT]
theorem takeW_all {p : UInt8 → Bool} (l : List UInt8) : ∀ c ∈ l.takeWhile p, p c = true := by
  induction l with
  | nil => intro c h; cases h
  | cons d l ih =>
    intro c h
    rw [List.takeWhile_cons] at h
    split at h
    · rename_i hd
      rcases List.mem_cons.mp h with rfl | h
      · exact hd
      · exact ih c h
    · cases h
theorem takeW_pre {p : UInt8 → Bool} : ∀ l : List UInt8, l.take (l.takeWhile p).length = l.takeWhile p
  | [] => rfl
  | c :: l => by
    rw [List.takeWhile_cons]
    split
    · simp [takeW_pre l]
    · rfl
theorem wordc_false : wordc false = dig := by funext c; simp [wordc]
theorem token_ev (s : ByteArray) (hz : s.size ≤ 1000000) (c : UInt8) (m : List UInt8) (hs : L s = c :: m) : Ev (fun k => lex_token.f k s) (out5 (tokL c m)) := by
  have hl : s.size = m.length + 1 := by rw [← L_len, hs]; rfl
  have hd : s.data.toList = c :: m := hs
  unfold lex_token.f tokL
  rw [hd, pre2]
  by_cases hx : c = 120 ∧ m.head? = some 39
  · rw [if_pos hx]
    have h2 : 2 ≤ s.size := by
      cases m with
      | nil => simp at hx
      | cons d m => simp at hl; omega
    have := raw_ev s hz h2
    rw [hs, List.drop_succ_cons] at this
    exact Ev.pos (by simpa using hx) this
  · rw [if_neg hx]
    refine Ev.neg (by simpa using hx) (Ev.neg (by omega) ?_)
    have h0 : (L s).drop 0 = c :: m := hs
    obtain ⟨hb, _, _⟩ := bt_list h0
    rw [show ((0 : Nat) : Int) = (0 : Int) from rfl] at hb
    rw [hb, letter_eq]
    simp only [Option.bind_some]
    by_cases h1 : ltr c = true
    · rw [if_pos h1]
      refine Ev.pos h1 ?_
      have sp := span_ev s true hz (c :: m) 0 h0
      unfold lex_span.f
      refine Ev.bind sp ?_
      rw [show ((0 : Nat) : Int) + (((c :: m).takeWhile (wordc true)).length : Int) = (((c :: m).takeWhile (wordc true)).length : Int) by simp]
      have hlen : ((c :: m).takeWhile (wordc true)).length ≤ (c :: m).length := (List.takeWhile_sublist _).length_le
      refine Ev.pos ⟨by omega, by rw [hl]; simp at hlen ⊢; omega⟩ ?_
      have ex := ext_take s 0 ((c :: m).takeWhile (wordc true)).length
      rw [Nat.zero_add, h0, takeW_pre] at ex
      rw [Int.toNat_natCast, ex]
      exact Ev.pure _
    · rw [if_neg h1]
      refine Ev.neg h1 ?_
      rw [digit_eq]
      simp only [Option.bind_some]
      by_cases h2 : dig c = true
      · rw [if_pos h2]
        refine Ev.pos h2 ?_
        have sp := span_ev s false hz (c :: m) 0 h0
        rw [wordc_false] at sp
        unfold lex_span.f
        refine Ev.bind sp ?_
        rw [show ((0 : Nat) : Int) + (((c :: m).takeWhile dig).length : Int) = (((c :: m).takeWhile dig).length : Int) by simp]
        have hlen : ((c :: m).takeWhile dig).length ≤ (c :: m).length := (List.takeWhile_sublist _).length_le
        refine Ev.pos ⟨by omega, by rw [hl]; simp at hlen ⊢; omega⟩ ?_
        have ex := ext_take s 0 ((c :: m).takeWhile dig).length
        rw [Nat.zero_add, h0, takeW_pre] at ex
        rw [Int.toNat_natCast, ex]
        unfold lex_number.f
        have hsz : (⟨((c :: m).takeWhile dig).toArray⟩ : ByteArray).size = ((c :: m).takeWhile dig).length := ba_size _
        have nm := number_ev ⟨((c :: m).takeWhile dig).toArray⟩ (by rw [hsz]; simp at hlen ⊢; omega) ((c :: m).takeWhile dig) 0 0 (by simp [L]) (takeW_all _) (by omega) (by omega)
        unfold numL
        rw [hsz] at nm
        rw [hsz]
        cases hq : numGo ((c :: m).takeWhile dig) 0 with
        | none => rw [hq] at nm; exact nm
        | some v => rw [hq] at nm; exact nm
      · rw [if_neg h2]
        refine Ev.neg h2 ?_
        by_cases h3 : c = 39
        · rw [if_pos h3]
          refine Ev.pos (is39.mpr h3) ?_
          have := str_eq_ s hz
          rw [hs, List.drop_succ_cons, List.drop_zero] at this
          rw [this]
          exact Ev.pure _
        · rw [if_neg h3]
          refine Ev.neg (fun h => h3 (is39.mp h)) ?_
          rw [sign_eq s c m hs]
          exact Ev.pure _
end Go.Proofs.YtjcjndpfihchnaaDoor.Pure
