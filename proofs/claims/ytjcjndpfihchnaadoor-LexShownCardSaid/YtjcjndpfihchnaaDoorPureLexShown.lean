-- Plain laws of the printed functions (wip/l11).
import Derived.Test.YtjcjndpfihchnaaDoorPureQ5
import Derived.Test.YtjcjndpfihchnaaDoorPureShow
import Derived.Test.YtjcjndpfihchnaaDoorStatLexShown
import Derived.Lib.Strings
namespace Go.Proofs.YtjcjndpfihchnaaDoor.Pure
open Go.ChangeShapes Go.WideShapes Go.ChangeAt Go.RowKit Go.Proofs.YtjcjndpfihchnaaDoorW.PrintWords Go.Proofs.YtjcjndpfihchnaaDoorW.PrintLast Go.Proofs.YtjcjndpfihchnaaDoor.P Go.Proofs.YtjcjndpfihchnaaDoor.Open
set_option linter.unusedVariables false
set_option linter.unusedSimpArgs false
theorem ltr_dig {c : UInt8} (h : dig c = true) : ltr c = false := by
  have := dig_rng h
  unfold ltr
  simp; omega
/-! What is shown is scanned. -/
theorem dec_dig (u : Nat) : ∀ c ∈ Go.Lib.decDigits u, dig c = true := by
  induction u using Nat.strongRecOn with
  | _ u ih =>
    unfold Go.Lib.decDigits
    have one : ∀ n : Nat, n < 10 → dig (UInt8.ofNat (48 + n)) = true := by
      intro n hn
      unfold dig
      simp
      omega
    split
    · rename_i h
      intro c hc
      rw [List.mem_singleton.mp hc]
      exact one u h
    · rename_i h
      intro c hc
      rcases List.mem_append.mp hc with hc | hc
      · exact ih (u / 10) (by omega) c hc
      · rw [List.mem_singleton.mp hc]
        exact one (u % 10) (by omega)
theorem numGo_app : ∀ (l m : List UInt8) (a : Int), numGo (l ++ m) a = (numGo l a).bind fun v => numGo m v
  | [], m, a => rfl
  | c :: l, m, a => by
    rw [List.cons_append, numGo, numGo]
    split
    · rfl
    · exact numGo_app l m _
theorem numGo_dec (u : Nat) (hu : (u : Int) ≤ 9223372036854775807) : numGo (Go.Lib.decDigits u) 0 = some (u : Int) := by
  induction u using Nat.strongRecOn with
  | _ u ih =>
    have one : ∀ n : Nat, n < 10 → (((UInt8.ofNat (48 + n)).toNat : Int) - 48) = (n : Int) := by
      intro n hn
      have : (UInt8.ofNat (48 + n)).toNat = 48 + n := by simp; omega
      omega
    unfold Go.Lib.decDigits
    split
    · rename_i h
      rw [numGo, one u h, if_neg (by omega), numGo]
      simp
    · rename_i h
      rw [numGo_app, ih (u / 10) (by omega) (by omega)]
      simp only [Option.bind_some]
      rw [numGo, one (u % 10) (by omega), if_neg (by omega), numGo]
      congr 1
      omega
theorem takeW_of_all {p : UInt8 → Bool} : ∀ {l : List UInt8}, (∀ c ∈ l, p c = true) → l.takeWhile p = l
  | [], _ => rfl
  | c :: l, h => by
    rw [List.takeWhile_cons, if_pos (h c List.mem_cons_self), takeW_of_all (fun x hx => h x (List.mem_cons_of_mem _ hx))]
theorem strGo_dbl : ∀ s : List UInt8, strGo (dbl s ++ [39]) = some (s, (dbl s).length + 1)
  | [] => rfl
  | c :: s => by
    have ih := strGo_dbl s
    by_cases hc : c = 39
    · subst hc
      rw [dbl, if_pos rfl, List.cons_append, List.cons_append, strGo_two, ih]
      simp
    · rw [dbl, if_neg hc, List.cons_append, strGo_ne _ hc, ih]
      simp
theorem hexv_hxd {n : Nat} (h : n < 16) : hexv (hxd n) = (n : Int) := by
  have key : ∀ m : Fin 16, hexv (hxd m.val) = (m.val : Int) := by decide +kernel
  exact key ⟨n, h⟩
theorem hxd_ne {n : Nat} (h : n < 16) : hxd n ≠ 39 := by
  have key : ∀ m : Fin 16, hxd m.val ≠ 39 := by decide +kernel
  exact key ⟨n, h⟩
theorem rawGo_hex : ∀ s : List UInt8, rawGo (hexL s ++ [39]) = some (s, (hexL s).length + 1)
  | [] => rfl
  | c :: s => by
    have ih := rawGo_hex s
    have hc := c.toNat_lt
    have h1 := hexv_hxd (n := c.toNat / 16) (by omega)
    have h2 := hexv_hxd (n := c.toNat % 16) (by omega)
    rw [hexL, List.cons_append, List.cons_append, rawGo, if_neg (hxd_ne (by omega)), h1, h2, if_neg (by omega), ih]
    have e : UInt8.ofNat (16 * ((c.toNat / 16 : Nat) : Int) + ((c.toNat % 16 : Nat) : Int)).toNat = c := by
      apply UInt8.toNat_inj.mp
      have : (16 * ((c.toNat / 16 : Nat) : Int) + ((c.toNat % 16 : Nat) : Int)).toNat = c.toNat := by omega
      rw [this]; simp
    simp only [Option.map_some]
    rw [e]
    simp
/-- The token that a value is shown as. -/
def showTok (kd n : Int) (s : List UInt8) : Tok :=
  if kd = 2 then (2, n, [], (showL kd n s).length, 0) else if kd = 3 then (3, 0, s, (showL kd n s).length, 0) else if kd = 4 then (4, 0, s, (showL kd n s).length, 0) else (1, 0, showL kd n s, (showL kd n s).length, 0)
theorem tok_show {kd n : Int} {s : List UInt8} (h : okL kd n s) (h0 : 0 ≤ n) (h1 : n ≤ 9223372036854775807) (hs : s.length ≤ 64) (ht : kd = 3 → okT s = true) :
    ∃ c m, showL kd n s = c :: m ∧ c ≠ 32 ∧ tokL c m = showTok kd n s := by
  rcases h with ⟨rfl, rfl, rfl⟩ | ⟨rfl, hn, rfl⟩ | ⟨rfl, rfl⟩ | ⟨rfl, rfl⟩ | ⟨rfl, rfl⟩
  · exact ⟨110, [117, 108, 108], rfl, by decide, by decide⟩
  · rcases hn with rfl | rfl
    · exact ⟨102, [97, 108, 115, 101], rfl, by decide, by decide⟩
    · exact ⟨116, [114, 117, 101], rfl, by decide, by decide⟩
  · have hi : Go.Lib.itoa n = Go.Lib.decDigits n.toNat := by unfold Go.Lib.itoa; rw [if_neg (by omega)]
    obtain ⟨c, m, e, hc1, hc2⟩ := dec_head n.toNat
    have hsh : showL 2 n [] = c :: m := by simp [showL, hi, e]
    have hall := dec_dig n.toNat
    rw [e] at hall
    have hd : dig c = true := hall c List.mem_cons_self
    have hnum := numGo_dec n.toNat (by omega)
    rw [e] at hnum
    refine ⟨c, m, hsh, ?_, ?_⟩
    · intro h; subst h; simp at hc1
    · unfold tokL
      rw [if_neg (by rintro ⟨rfl, _⟩; simp at hc2), if_neg (by rw [ltr_dig hd]; decide), if_pos hd]
      unfold numL showTok
      rw [takeW_of_all hall, hnum, if_pos rfl, hsh]
      simp only
      rw [show ((n.toNat : Nat) : Int) = n by omega]
  · have hsh : showL 3 0 s = 39 :: (dbl s ++ [39]) := by simp [showL]
    refine ⟨39, dbl s ++ [39], hsh, by decide, ?_⟩
    unfold tokL
    rw [if_neg (fun h => absurd h.1 (by decide)), if_neg (by decide), if_neg (by decide), if_pos rfl]
    unfold strL showTok
    rw [strGo_dbl]
    simp only
    rw [if_pos (ht rfl), if_neg (by decide), if_pos trivial, hsh]
    simp
  · have hsh : showL 4 0 s = 120 :: 39 :: (hexL s ++ [39]) := by simp [showL]
    refine ⟨120, 39 :: (hexL s ++ [39]), hsh, by decide, ?_⟩
    unfold tokL
    rw [if_pos ⟨rfl, rfl⟩]
    unfold rawL showTok
    rw [List.drop_succ_cons, List.drop_zero, rawGo_hex]
    simp only
    rw [if_pos hs, if_neg (by decide), if_neg (by decide), if_pos trivial, hsh]
    simp
theorem lead_cons {c : UInt8} (m : List UInt8) (h : c ≠ 32) : lead (c :: m) = c :: m := by
  unfold lead
  rw [List.dropWhile_cons, if_neg (by simpa using h)]
theorem lead_rep_app (l : List UInt8) : ∀ n : Nat, lead (List.replicate n 32 ++ l) = lead l
  | 0 => rfl
  | n + 1 => by
    have := lead_rep_app l n
    unfold lead at this ⊢
    rw [List.replicate_succ, List.cons_append, List.dropWhile_cons, if_pos (by decide)]
    exact this
theorem lead_reps : ∀ n : Nat, lead (List.replicate n 32) = []
  | 0 => rfl
  | n + 1 => by
    unfold lead
    rw [List.replicate_succ, List.dropWhile_cons, if_pos (by decide)]
    exact lead_reps n
theorem showTok_ok (kd n : Int) (s : List UInt8) : (showTok kd n s).2.2.2.2 = 0 ∧ (showTok kd n s).2.2.2.1 = (showL kd n s).length := by
  unfold showTok
  split
  · exact ⟨rfl, rfl⟩
  · split
    · exact ⟨rfl, rfl⟩
    · split <;> exact ⟨rfl, rfl⟩
/-- .. whatever blanks stand around. -/
theorem scans_show {kd n : Int} {s : List UInt8} (h : okL kd n s) (h0 : 0 ≤ n) (h1 : n ≤ 9223372036854775807) (hs : s.length ≤ 64) (ht : kd = 3 → okT s = true) (a b : Nat) :
    Scans (List.replicate a 32 ++ (showL kd n s ++ List.replicate b 32)) [showTok kd n s] 0 := by
  obtain ⟨c, m, e, hc, htok⟩ := tok_show h h0 h1 hs ht
  obtain ⟨ok, len⟩ := showTok_ok kd n s
  have hl : lead (List.replicate a 32 ++ (showL kd n s ++ List.replicate b 32)) = c :: (m ++ List.replicate b 32) := by
    rw [lead_rep_app, e, List.cons_append, lead_cons _ hc]
  have ht2 : tokL c (m ++ List.replicate b 32) = showTok kd n s := by
    cases b with
    | zero => rw [List.replicate_zero, List.append_nil]; exact htok
    | succ b => rw [List.replicate_succ, tok_ext _ (by rw [htok]; exact ok)]; exact htok
  have hd : (c :: (m ++ List.replicate b 32)).drop (tokL c (m ++ List.replicate b 32)).2.2.2.1 = List.replicate b 32 := by
    rw [ht2, len, e, ← List.cons_append, List.drop_left']
    rfl
  have := Scans.tok hl (by rw [ht2]; exact ok) (hd ▸ Scans.nil (lead_reps b))
  rw [if_pos rfl, ht2] at this
  exact this
theorem sp_both (a : Nat) (l : List UInt8) : ((⟨#[32]⟩ : ByteArray) ++ ⟨(List.replicate a (32 : UInt8) ++ (l ++ List.replicate a 32)).toArray⟩) ++ (⟨#[32]⟩ : ByteArray) = ⟨(List.replicate (a + 1) (32 : UInt8) ++ (l ++ List.replicate (a + 1) 32)).toArray⟩ := by
  have e : (⟨#[32]⟩ : ByteArray) = ⟨([32] : List UInt8).toArray⟩ := rfl
  have h1 := ba_append [32] (List.replicate a (32 : UInt8) ++ (l ++ List.replicate a 32))
  have h2 := ba_append ([32] ++ (List.replicate a (32 : UInt8) ++ (l ++ List.replicate a 32))) [32]
  have r2 : List.replicate (a + 1) (32 : UInt8) = List.replicate a 32 ++ [32] := List.replicate_succ'
  have key : [32] ++ (List.replicate a (32 : UInt8) ++ (l ++ List.replicate a 32)) ++ [32] = (32 :: List.replicate a 32) ++ (l ++ (List.replicate a 32 ++ [32])) := by simp
  rw [e, h1, h2, key, ← r2]
  rfl
theorem showL_len {kd n : Int} {s : List UInt8} (h : s.length ≤ 64) (hn : 0 ≤ n) (hn2 : n ≤ 9223372036854775807) : (showL kd n s).length ≤ 200 := by
  have h1 := dbl_length_le s
  have h2 := hexL_length s
  have h3 : (Go.Lib.itoa n).length ≤ 100 := by
    have key : ∀ (d u : Nat), u < 10 ^ (d + 1) → (Go.Lib.decDigits u).length ≤ d + 1 := by
      intro d
      induction d with
      | zero => intro u hu; unfold Go.Lib.decDigits; rw [dif_pos (by simpa using hu)]; simp
      | succ d ih =>
        intro u hu
        unfold Go.Lib.decDigits
        split
        · simp
        · have := ih (u / 10) (by rw [Nat.pow_succ] at hu; omega)
          simp; omega
    unfold Go.Lib.itoa
    rw [if_neg (by omega)]
    have := key 19 n.toNat (by have : (10 : Nat) ^ 20 = 100000000000000000000 := by decide
                               omega)
    omega
  unfold showL
  split
  · simp
  · split
    · split <;> simp
    · split
      · omega
      · split
        · simp; omega
        · simp; omega
theorem lit_show (kd n : Int) (s : ByteArray) (h : okL kd n (L s)) : lex_Literal.f (toT (showTok kd n (L s))).f0 (toT (showTok kd n (L s))).f1 (toT (showTok kd n (L s))).f2 = some (kd, n, s, true) := by
  have hb : ∀ x : ByteArray, L x = [] → x = ⟨#[]⟩ := by
    intro x hx
    apply ByteArray.ext
    apply Array.toList_inj.mp
    exact hx
  have lw : ∀ a b : List UInt8, ((⟨a.toArray⟩ : ByteArray).toList = b) ↔ a = b := by
    intro a b
    rw [Go.Lib.toList_data]
  rcases h with ⟨rfl, rfl, hs⟩ | ⟨rfl, hn, hs⟩ | ⟨rfl, hs⟩ | ⟨rfl, rfl⟩ | ⟨rfl, rfl⟩
  · rw [hs, hb s hs]
    have e : showTok 0 0 [] = (1, 0, [110, 117, 108, 108], 4, 0) := rfl
    rw [e]
    unfold lex_Literal.f toT
    simp only
    rw [if_neg (by decide), if_neg (by decide), if_neg (by decide), if_pos (by decide)]
    rw [if_neg (fun x => by have := (lw _ _).mp x; revert this; decide), if_neg (fun x => by have := (lw _ _).mp x; revert this; decide)]
    have : ((⟨([110, 117, 108, 108] : List UInt8).toArray⟩ : ByteArray).toList == ([110, 117, 108, 108] : List UInt8)) = true := beq_iff_eq.mpr ((lw _ _).mpr rfl)
    rw [this]
  · rw [hs, hb s hs]
    rcases hn with rfl | rfl
    · have e : showTok 1 0 [] = (1, 0, [102, 97, 108, 115, 101], 5, 0) := rfl
      rw [e]
      unfold lex_Literal.f toT
      simp only
      rw [if_neg (by decide), if_neg (by decide), if_neg (by decide), if_pos (by decide)]
      rw [if_neg (fun x => by have := (lw _ _).mp x; revert this; decide), if_pos ((lw _ _).mpr rfl)]
    · have e : showTok 1 1 [] = (1, 0, [116, 114, 117, 101], 4, 0) := rfl
      rw [e]
      unfold lex_Literal.f toT
      simp only
      rw [if_neg (by decide), if_neg (by decide), if_neg (by decide), if_pos (by decide)]
      rw [if_pos ((lw _ _).mpr rfl)]
  · rw [hs, hb s hs]
    have e : showTok 2 n [] = (2, n, [], (showL 2 n []).length, 0) := by unfold showTok; rw [if_pos rfl]
    rw [e]
    unfold lex_Literal.f toT
    simp only
    rw [if_pos trivial]
  · have e : showTok 3 0 (L s) = (3, 0, L s, (showL 3 0 (L s)).length, 0) := by unfold showTok; rw [if_neg (by decide), if_pos rfl]
    rw [e]
    unfold lex_Literal.f toT
    simp only
    rw [if_neg (by decide), if_pos trivial, ba_L]
  · have e : showTok 4 0 (L s) = (4, 0, L s, (showL 4 0 (L s)).length, 0) := by unfold showTok; rw [if_neg (by decide), if_neg (by decide), if_pos rfl]
    rw [e]
    unfold lex_Literal.f toT
    simp only
    rw [if_neg (by decide), if_neg (by decide), if_pos trivial, ba_L]
theorem LexShown_pure : Stat.LexShown := by
  intro a0 a1 a2 x hw hx
  apply Ev.get
  have hxr := bounds_u8 hx
  have hn : inR a1 := bounds_i64 hw.2.1
  unfold corollarylaw11_LexShown.f
  refine Ev.bind (Ev.of (right_eq ⟨a0, a1, a2⟩)) ?_
  have off : Ev (fun k => corollarylaw11_LexShown.j0 k x true a0 a1 a2) true := by
    apply Ev.succ
    simp only [corollarylaw11_LexShown.j0]
    exact Ev.pos trivial (Ev.bind awake_ev (Ev.pure _))
  by_cases hr : vR ⟨a0, a1, a2⟩ = true
  · refine Ev.pos hr ?_
    by_cases h0 : a1 < 0
    · exact Ev.pos h0 off
    · refine Ev.neg h0 ?_
      by_cases h60 : (a2.size : Int) > 60
      · rw [decide_eq_true h60]; exact off
      · rw [decide_eq_false h60]
        apply Ev.succ
        simp only [corollarylaw11_LexShown.j0]
        refine Ev.neg (by decide) (Ev.bind (Ev.of (show_eq hr hn)) ?_)
        have hok := ok_of_right hr
        have hlen : (L a2).length ≤ 64 := by rw [L_len]; omega
        have ht : a0 = 3 → okT (L a2) = true := by
          intro h3
          unfold okT
          rw [ba_L]
          have hz : a1 = 0 := by
            rcases hok with ⟨h, _⟩ | ⟨h, _⟩ | ⟨h, _⟩ | ⟨_, h⟩ | ⟨h, _⟩
            · exact absurd (show a0 = 0 from h) (by omega)
            · exact absurd (show a0 = 1 from h) (by omega)
            · exact absurd (show a0 = 2 from h) (by omega)
            · exact h
            · exact absurd (show a0 = 4 from h) (by omega)
          rw [h3, hz] at hr
          exact hr
        have hsl := showL_len (kd := a0) hlen (by omega) hn.2
        have hm : Int.tmod x 8 = x % 8 := Int.tmod_eq_emod_of_nonneg (by omega)
        have loop : ∀ (m j : Nat), (j : Int) + m = x % 8 → Ev (fun k => corollarylaw11_LexShown.l0 k x ⟨(List.replicate j (32 : UInt8) ++ (showL a0 a1 (L a2) ++ List.replicate j 32)).toArray⟩ (j : Int) a0 a1 a2) true := by
          intro m
          induction m with
          | zero =>
            intro j hj
            apply Ev.succ
            simp only [corollarylaw11_LexShown.l0]
            rw [hm, w64 (by omega) (by omega)]
            refine Ev.neg (by omega) ?_
            have hs : L (⟨(List.replicate j (32 : UInt8) ++ (showL a0 a1 (L a2) ++ List.replicate j 32)).toArray⟩ : ByteArray) = List.replicate j 32 ++ (showL a0 a1 (L a2) ++ List.replicate j 32) := by simp [L]
            have hz5 : (⟨(List.replicate j (32 : UInt8) ++ (showL a0 a1 (L a2) ++ List.replicate j 32)).toArray⟩ : ByteArray).size ≤ 512 := by
              rw [ba_size, List.length_append, List.length_append, List.length_replicate]
              omega
            have sc := Scan_ev ⟨(List.replicate j (32 : UInt8) ++ (showL a0 a1 (L a2) ++ List.replicate j 32)).toArray⟩ (ts := [showTok a0 a1 (L a2)]) (e := 0) (by rw [hs]; exact scans_show hok (show 0 ≤ a1 by omega) hn.2 hlen ht j j) hz5
            refine Ev.bind sc (Ev.pos rfl (Ev.succ ?_))
            simp only [corollarylaw11_LexShown.j2]
            refine Ev.neg (by simp) (Ev.pos (by simp) ?_)
            have hrd : rd_T41 ([showTok a0 a1 (L a2)].map toT) 0 = toT (showTok a0 a1 (L a2)) := rfl
            rw [hrd, lit_show a0 a1 a2 hok]
            simp only [Option.bind_some]
            refine Ev.pos (by simp) (Ev.pos trivial (Ev.bind awake_ev (Ev.pure _)))
          | succ m ih =>
            intro j hj
            apply Ev.succ
            simp only [corollarylaw11_LexShown.l0]
            have hsz : (⟨(List.replicate j (32 : UInt8) ++ (showL a0 a1 (L a2) ++ List.replicate j 32)).toArray⟩ : ByteArray).size ≤ 1000 := by
              rw [ba_size]; simp only [List.length_append, List.length_replicate]; omega
            have e32 : (⟨#[32]⟩ : ByteArray).size = 1 := rfl
            rw [hm, w64 (n := x % 8) (by omega) (by omega), sp_both, inc64 (by omega)]
            refine Ev.pos (by omega) (Ev.pos (by omega) (Ev.pos (by rw [ByteArray.size_append, e32]; omega) ?_))
            exact ih (j + 1) (by omega)
        have := loop (x % 8).toNat 0 (by omega)
        rw [List.replicate_zero, List.nil_append, List.append_nil] at this
        exact this
  · exact Ev.neg hr off
end Go.Proofs.YtjcjndpfihchnaaDoor.Pure
