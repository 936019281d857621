-- Plain laws of the printed functions (wip/l11).
import Derived.Test.YtjcjndpfihchnaaDoorPureQ2
import Derived.Test.YtjcjndpfihchnaaDoorPx36
import Derived.Test.YtjcjndpfihchnaaDoorPx38
namespace Go.Proofs.YtjcjndpfihchnaaDoor.Pure
open Go.ChangeShapes Go.WideShapes Go.ChangeAt Go.RowKit Go.Proofs.YtjcjndpfihchnaaDoorW.PrintWords Go.Proofs.YtjcjndpfihchnaaDoorW.PrintLast Go.Proofs.YtjcjndpfihchnaaDoor.P Go.Proofs.YtjcjndpfihchnaaDoor.Open
set_option linter.unusedVariables false
set_option linter.unusedSimpArgs false
/-! All tokens. -/
def lead (l : List UInt8) : List UInt8 := l.dropWhile (· == 32)
theorem rawGo_len : ∀ {l : List UInt8} {r : List UInt8 × Nat}, rawGo l = some r → r.2 ≤ l.length
  | [], r, h => by simp [rawGo] at h
  | [c], r, h => by
    simp only [rawGo] at h
    split at h
    · simp only [Option.some.injEq] at h; subst h; simp
    · cases h
  | c :: d :: l, r, h => by
    simp only [rawGo] at h
    split at h
    · simp only [Option.some.injEq] at h; subst h; simp
    · split at h
      · cases h
      · obtain ⟨q, hq, rfl⟩ := Option.map_eq_some_iff.mp h
        have := rawGo_len hq
        simp; omega
theorem strGo_len : ∀ {l : List UInt8} {r : List UInt8 × Nat}, strGo l = some r → r.2 ≤ l.length
  | [], r, h => by simp [strGo] at h
  | [c], r, h => by
    by_cases hc : c = 39
    · subst hc
      rw [strGo_end (by simp)] at h
      simp only [Option.some.injEq] at h; subst h; simp
    · rw [strGo_ne [] hc] at h; simp [strGo] at h
  | c :: d :: l, r, h => by
    by_cases hc : c = 39
    · subst hc
      by_cases hd : d = 39
      · subst hd
        rw [strGo_two] at h
        obtain ⟨q, hq, rfl⟩ := Option.map_eq_some_iff.mp h
        have := strGo_len hq
        simp; omega
      · rw [strGo_end (by simp [hd])] at h
        simp only [Option.some.injEq] at h; subst h; simp
    · rw [strGo_ne _ hc] at h
      obtain ⟨q, hq, rfl⟩ := Option.map_eq_some_iff.mp h
      have := strGo_len hq
      simp at this ⊢; omega
theorem takeW_ext {p : UInt8 → Bool} (hp : p 32 = false) (b : List UInt8) : ∀ l : List UInt8, (l ++ 32 :: b).takeWhile p = l.takeWhile p
  | [] => by simp [hp]
  | c :: l => by
    rw [List.cons_append, List.takeWhile_cons, List.takeWhile_cons, takeW_ext hp b l]
theorem rawGo_ext (b : List UInt8) : ∀ {l : List UInt8} {r : List UInt8 × Nat}, rawGo l = some r → rawGo (l ++ 32 :: b) = some r
  | [], r, h => by simp [rawGo] at h
  | [c], r, h => by
    simp only [rawGo] at h
    split at h
    · rename_i hc
      rw [← h]; simp [rawGo, hc]
    · cases h
  | c :: d :: l, r, h => by
    simp only [rawGo] at h
    rw [List.cons_append, List.cons_append, rawGo]
    split at h
    · rename_i hc; rw [if_pos hc]; exact h
    · rename_i hc
      rw [if_neg hc]
      split at h
      · cases h
      · rename_i hx
        rw [if_neg hx]
        obtain ⟨q, hq, rfl⟩ := Option.map_eq_some_iff.mp h
        rw [rawGo_ext b hq]; rfl
theorem strGo_ext (b : List UInt8) : ∀ {l : List UInt8} {r : List UInt8 × Nat}, strGo l = some r → strGo (l ++ 32 :: b) = some r
  | [], r, h => by simp [strGo] at h
  | [c], r, h => by
    by_cases hc : c = 39
    · subst hc
      rw [strGo_end (by simp)] at h
      rw [← h]
      exact strGo_end (by simp)
    · rw [strGo_ne [] hc] at h; simp [strGo] at h
  | c :: d :: l, r, h => by
    by_cases hc : c = 39
    · subst hc
      by_cases hd : d = 39
      · subst hd
        rw [strGo_two] at h
        obtain ⟨q, hq, rfl⟩ := Option.map_eq_some_iff.mp h
        rw [List.cons_append, List.cons_append, strGo_two, strGo_ext b hq]; rfl
      · rw [strGo_end (by simp [hd])] at h
        rw [← h]
        exact strGo_end (by simp [hd])
    · rw [strGo_ne _ hc] at h
      obtain ⟨q, hq, rfl⟩ := Option.map_eq_some_iff.mp h
      rw [List.cons_append, strGo_ne _ hc, strGo_ext b hq]; rfl
theorem ltr_word {c : UInt8} (h : ltr c = true) : wordc true c = true := by simp [wordc, h]
theorem tok_len {c : UInt8} {m : List UInt8} (h : (tokL c m).2.2.2.2 = 0) : 1 ≤ (tokL c m).2.2.2.1 ∧ (tokL c m).2.2.2.1 ≤ (c :: m).length := by
  revert h
  unfold tokL
  split
  · rename_i hx
    unfold rawL
    cases hq : rawGo (m.drop 1) with
    | none => intro h; exact absurd h (by decide)
    | some r =>
      simp only
      split
      · intro _
        have := rawGo_len hq
        obtain ⟨d, q, rfl⟩ : ∃ d q, m = d :: q := by
          cases m with
          | nil => simp at hx
          | cons d q => exact ⟨d, q, rfl⟩
        simp at this ⊢; omega
      · intro h; exact absurd h (by decide)
  · split
    · rename_i h1
      intro _
      have hl : ((c :: m).takeWhile (wordc true)).length ≤ (c :: m).length := (List.takeWhile_sublist _).length_le
      refine ⟨?_, hl⟩
      show 1 ≤ ((c :: m).takeWhile (wordc true)).length
      rw [List.takeWhile_cons, if_pos (ltr_word h1)]
      simp
    · split
      · rename_i h2
        have hl : ((c :: m).takeWhile dig).length ≤ (c :: m).length := (List.takeWhile_sublist _).length_le
        unfold numL
        cases hq : numGo ((c :: m).takeWhile dig) 0 with
        | none => intro h; exact absurd h (by simp [errT])
        | some v =>
          intro _
          refine ⟨?_, hl⟩
          show 1 ≤ ((c :: m).takeWhile dig).length
          rw [List.takeWhile_cons, if_pos h2]
          simp
      · split
        · unfold strL
          cases hq : strGo m with
          | none => intro h; exact absurd h (by decide)
          | some r =>
            simp only
            split
            · intro _
              have := strGo_len hq
              simp; omega
            · intro h; exact absurd h (by decide)
        · unfold sgnL
          split
          · rename_i hx
            intro _
            cases m with
            | nil => simp at hx
            | cons d q => simp
          · split
            · intro _; simp
            · intro h; exact absurd h (by decide)
theorem tok_ext {c : UInt8} {m : List UInt8} (b : List UInt8) (h : (tokL c m).2.2.2.2 = 0) : tokL c (m ++ 32 :: b) = tokL c m := by
  revert h
  unfold tokL
  have hh : (c = 120 ∧ (m ++ 32 :: b).head? = some 39) ↔ (c = 120 ∧ m.head? = some 39) := by
    cases m <;> simp
  by_cases hx : c = 120 ∧ m.head? = some 39
  · rw [if_pos hx, if_pos (hh.mpr hx)]
    obtain ⟨d, q, rfl⟩ : ∃ d q, m = d :: q := by
      cases m with
      | nil => simp at hx
      | cons d q => exact ⟨d, q, rfl⟩
    unfold rawL
    simp only [List.cons_append, List.drop_succ_cons, List.drop_zero]
    cases hq : rawGo q with
    | none => intro h; exact absurd h (by decide)
    | some r => rw [rawGo_ext b hq]; intro _; rfl
  · rw [if_neg hx, if_neg (fun h => hx (hh.mp h))]
    by_cases h1 : ltr c = true
    · rw [if_pos h1, if_pos h1, ← List.cons_append, takeW_ext (by decide) b (c :: m)]
      intro _; rfl
    · rw [if_neg h1, if_neg h1]
      by_cases h2 : dig c = true
      · rw [if_pos h2, if_pos h2, ← List.cons_append]
        unfold numL
        rw [takeW_ext (by decide) b (c :: m)]
        intro _; rfl
      · rw [if_neg h2, if_neg h2]
        by_cases h3 : c = 39
        · rw [if_pos h3, if_pos h3]
          unfold strL
          cases hq : strGo m with
          | none => intro h; exact absurd h (by decide)
          | some r => rw [strGo_ext b hq]; intro _; rfl
        · rw [if_neg h3, if_neg h3]
          intro _
          unfold sgnL
          cases m with
          | nil => simp
          | cons d q => simp
/-- What a text is taken apart to: the tokens, the error. -/
inductive Scans : List UInt8 → List Tok → Int → Prop
  | nil {l : List UInt8} : lead l = [] → Scans l [] 0
  | err {l : List UInt8} {c : UInt8} {m : List UInt8} : lead l = c :: m → (tokL c m).2.2.2.2 ≠ 0 → Scans l [] (tokL c m).2.2.2.2
  | tok {l : List UInt8} {c : UInt8} {m : List UInt8} {ts : List Tok} {e : Int} : lead l = c :: m → (tokL c m).2.2.2.2 = 0 → Scans ((c :: m).drop (tokL c m).2.2.2.1) ts e → Scans l (if e = 0 then tokL c m :: ts else []) e
theorem lead_len (l : List UInt8) : (lead l).length ≤ l.length := (List.dropWhile_sublist _).length_le
theorem scans_all : ∀ (n : Nat) (l : List UInt8), l.length ≤ n → ∃ ts e, Scans l ts e
  | n, l, h => by
    cases hl : lead l with
    | nil => exact ⟨_, _, .nil hl⟩
    | cons c m =>
      by_cases he : (tokL c m).2.2.2.2 = 0
      · have h1 := tok_len he
        have h2 := lead_len l
        rw [hl] at h2
        cases n with
        | zero => simp at h2; omega
        | succ n =>
          obtain ⟨ts, e, hs⟩ := scans_all n ((c :: m).drop (tokL c m).2.2.2.1) (by rw [List.length_drop]; omega)
          exact ⟨_, _, .tok hl he hs⟩
      · exact ⟨_, _, .err hl he⟩
theorem lead_lead (l : List UInt8) : lead (lead l) = lead l := by
  unfold lead
  induction l with
  | nil => rfl
  | cons c l ih =>
    rw [List.dropWhile_cons]
    split
    · exact ih
    · rename_i h
      rw [List.dropWhile_cons, if_neg h]
theorem Scans.lead {l l' : List UInt8} {ts : List Tok} {e : Int} (h : Scans l ts e) (hl : Pure.lead l' = Pure.lead l) : Scans l' ts e := by
  cases h with
  | nil h => exact .nil (hl.trans h)
  | err h1 h2 => exact .err (hl.trans h1) h2
  | tok h1 h2 h3 => exact .tok (hl.trans h1) h2 h3
theorem scans_len {l : List UInt8} {ts : List Tok} {e : Int} (h : Scans l ts e) : ts.length ≤ l.length := by
  induction h with
  | nil _ => simp
  | err _ _ => simp
  | @tok l c m ts e h1 h2 h3 ih =>
    split
    · have a := tok_len h2
      have b := lead_len l
      rw [h1] at b
      rw [List.length_drop] at ih
      simp at a b ih ⊢; omega
    · simp
theorem scans_err {l : List UInt8} {ts : List Tok} {e : Int} (h : Scans l ts e) (he : e ≠ 0) : ts = [] := by
  cases h with
  | nil _ => rfl
  | err _ _ => rfl
  | tok h1 h2 h3 => rw [if_neg he]
theorem lead_app : ∀ (a b : List UInt8), lead (a ++ 32 :: b) = match lead a with | [] => lead b | c :: m => c :: (m ++ 32 :: b)
  | [], b => by simp [lead]
  | c :: a, b => by
    have ih := lead_app a b
    unfold lead at ih ⊢
    rw [List.cons_append, List.dropWhile_cons, List.dropWhile_cons]
    split
    · exact ih
    · rfl
theorem scans_app {a : List UInt8} {ts : List Tok} {e : Int} (h : Scans a ts e) : e = 0 → ∀ {b : List UInt8} {us : List Tok}, Scans b us 0 → Scans (a ++ 32 :: b) (ts ++ us) 0 := by
  induction h with
  | nil h =>
    intro _ b us hb
    exact hb.lead (by rw [lead_app, h])
  | err h1 h2 => intro he; exact absurd he h2
  | @tok l c m ts e h1 h2 h3 ih =>
    intro he b us hb
    subst he
    have key := ih rfl hb
    have hl : lead (l ++ 32 :: b) = c :: (m ++ 32 :: b) := by rw [lead_app, h1]
    have ht := tok_ext b h2
    have hd : (c :: (m ++ 32 :: b)).drop (tokL c (m ++ 32 :: b)).2.2.2.1 = (c :: m).drop (tokL c m).2.2.2.1 ++ 32 :: b := by
      rw [ht, ← List.cons_append, List.drop_append_of_le_length (tok_len h2).2]
    have := Scans.tok hl (by rw [ht]; exact h2) (hd ▸ key)
    rw [if_pos rfl, ht] at this
    rw [if_pos rfl]
    exact this
def toT (r : Tok) : S41 := ⟨r.1, r.2.1, ⟨r.2.2.1.toArray⟩⟩
theorem trim_eq (s : ByteArray) : strings_TrimLeft.f s ⟨#[32]⟩ = some ⟨(lead (L s)).toArray⟩ := by
  unfold strings_TrimLeft.f
  rw [if_pos rfl]
  rfl
theorem nilB (l : List UInt8) : ((⟨l.toArray⟩ : ByteArray).toList = ([] : List UInt8)) ↔ l = [] := by
  have := str_nil (⟨l.toArray⟩ : ByteArray)
  constructor
  · intro h
    rw [h] at this
    have e : (⟨l.toArray⟩ : ByteArray) = ⟨#[]⟩ := of_decide_eq_true (this.symm.trans rfl)
    have := congrArg (fun x : ByteArray => x.data.toList) e
    simpa using this
  · intro h
    subst h
    exact beq_iff_eq.mp (this.trans (decide_eq_true rfl))
theorem scan_ev {l : List UInt8} {ts : List Tok} {e : Int} (h : Scans l ts e) : ∀ (s : ByteArray) (acc : List S41), L s = l → s.size ≤ 1000000 → acc.length + l.length ≤ 1000000 →
    Ev (fun k => lex_Scan.l0 k s acc) (if e = 0 then (acc ++ ts.map toT, 0) else ([], e)) := by
  induction h with
  | @nil l h =>
    intro s acc hs hz ha
    apply Ev.succ
    simp only [lex_Scan.l0]
    rw [trim_eq, hs, h]
    simp only [Option.bind_some]
    refine Ev.pos ((nilB []).mpr rfl) ?_
    simp
    exact Ev.pure _
  | @err l c m h1 h2 =>
    intro s acc hs hz ha
    apply Ev.succ
    simp only [lex_Scan.l0]
    rw [trim_eq, hs, h1]
    simp only [Option.bind_some]
    refine Ev.neg (fun x => by simpa using (nilB _).mp x) ?_
    have hll := lead_len l
    rw [h1, ← hs, L_len] at hll
    have tk := token_ev ⟨(c :: m).toArray⟩ (by rw [ba_size]; omega) c m (by simp [L])
    refine Ev.bind tk ?_
    refine Ev.neg h2 ?_
    rw [if_neg h2]
    exact Ev.pure _
  | @tok l c m ts e h1 h2 h3 ih =>
    intro s acc hs hz ha
    apply Ev.succ
    simp only [lex_Scan.l0]
    rw [trim_eq, hs, h1]
    simp only [Option.bind_some]
    refine Ev.neg (fun x => by simpa using (nilB _).mp x) ?_
    have hll := lead_len l
    rw [h1] at hll
    have hls : l.length = s.size := by rw [← hs, L_len]
    have tk := token_ev ⟨(c :: m).toArray⟩ (by rw [ba_size]; omega) c m (by simp [L])
    have tl := tok_len h2
    refine Ev.bind tk ?_
    refine Ev.pos h2 (Ev.pos (by omega) (Ev.pos (by simp [out5]) (Ev.pos (by rw [ba_size]; simp only [out5]; omega) ?_)))
    have ex := ext_drop ⟨(c :: m).toArray⟩ (tokL c m).2.2.2.1 (by rw [ba_size]; exact tl.2)
    have el : L (⟨(c :: m).toArray⟩ : ByteArray) = c :: m := by simp [L]
    rw [el] at ex
    simp only [out5, Int.toNat_natCast]
    rw [ex]
    have := ih ⟨((c :: m).drop (tokL c m).2.2.2.1).toArray⟩ (acc ++ [toT (tokL c m)]) (by simp [L]) (by rw [ba_size, List.length_drop]; omega) (by rw [List.length_drop]; simp at hll tl ⊢; omega)
    have e2 : (if e = 0 then (acc ++ [toT (tokL c m)] ++ ts.map toT, (0 : Int)) else ([], e)) = (if e = 0 then (acc ++ (if e = 0 then tokL c m :: ts else []).map toT, 0) else ([], e)) := by
      by_cases he : e = 0
      · simp [he]
      · simp [he]
    rw [e2] at this
    exact this
theorem Scan_ev (s : ByteArray) {ts : List Tok} {e : Int} (h : Scans (L s) ts e) (hz : s.size ≤ 512) : Ev (fun k => lex_Scan.f k s) (ts.map toT, e) := by
  unfold lex_Scan.f
  refine Ev.neg (by omega) ?_
  have := scan_ev h s [] rfl (by omega) (by rw [L_len]; simp; omega)
  by_cases he : e = 0
  · rw [if_pos he, List.nil_append] at this
    rw [he]; exact this
  · rw [if_neg he] at this
    rw [scans_err h he]; exact this
theorem awake_ev : Ev (fun k => corollarylaw11_awake.f k) true := Ev.mono (k0 := 40) (by decide +kernel) corollarylaw11_awake.mono
end Go.Proofs.YtjcjndpfihchnaaDoor.Pure
