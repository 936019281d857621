-- Written by our own program (wip/xprint) over the seat's translation. Lean checks it.
import Derived.Test.YtjcjndpfihchnaaDoorPx0
import Derived.Test.YtjcjndpfihchnaaDoorPx1
import Derived.Test.YtjcjndpfihchnaaDoorPx26
namespace Go.Proofs.YtjcjndpfihchnaaDoor.P
open Go.RowKit Go.Proofs.YtjcjndpfihchnaaDoorW.PrintWords Go.Proofs.YtjcjndpfihchnaaDoorW.PrintLast Go.Proofs.YtjcjndpfihchnaaDoorW.PrintMore
attribute [local go_sem] max2_int min2_mn max_two min_two max_three min_three max_four min_four   -- for this text's walks alone
set_option linter.unusedVariables false
set_option linter.unusedSimpArgs false


/-! ### lex_token: function 16 -/
-- SUPPLIED (wip/xprint)
/-- The signs, the longer ones first. -/
def signs : List ByteArray := [⟨#[60, 62]⟩, ⟨#[60, 61]⟩, ⟨#[62, 61]⟩, ⟨#[40]⟩, ⟨#[41]⟩, ⟨#[44]⟩, ⟨#[46]⟩, ⟨#[42]⟩, ⟨#[43]⟩, ⟨#[45]⟩, ⟨#[61]⟩, ⟨#[60]⟩, ⟨#[62]⟩]
def signOf (a0 : ByteArray) : List ByteArray → Int × Int × ByteArray × Int × Int
  | [] => (0, 0, ⟨#[]⟩, 0, 3)
  | g :: l => if Go.Lib.hasPrefix a0.data.toList g.data.toList = true then (5, 0, g, (g.size : Int), 0) else signOf a0 l
def lex_token.f (k : Nat) (a0 : ByteArray) : Option (Int × Int × ByteArray × Int × Int) :=
  if Go.Lib.hasPrefix a0.data.toList [120, 39] = true then lex_raw.f k a0
  else if a0.size = 0 then none
  else (lex_letter.f (bt a0 0)).bind fun l => if l = true then (lex_span.f k a0 true).bind fun n => (if 0 ≤ n ∧ n ≤ (a0.size : Int) then some (1, 0, a0.extract 0 n.toNat, n, 0) else none)
  else (lex_digit.f (bt a0 0)).bind fun d => if d = true then (lex_span.f k a0 false).bind fun n => (if 0 ≤ n ∧ n ≤ (a0.size : Int) then lex_number.f k (a0.extract 0 n.toNat) else none)
  else if bt a0 0 = 39 then lex_str.f a0 else some (signOf a0 signs)
theorem lex_token.mono : ∀ a0 k, LeO (lex_token.f k a0) (lex_token.f (k + 1) a0) := by
  intro a0 k
  unfold lex_token.f
  repeat' first
    | exact lex_raw.mono _ _
    | exact lex_span.mono _ _ _
    | exact lex_number.mono _ _
    | exact LeO.refl _
    | refine LeO.ite ?_ ?_
    | refine LeO.bind ?_ (fun _ => ?_)
theorem keepB {w w1 w2 : World} {o : Obj} (BK : w1.heap[w.heap.size]? = some o) (HB : Below w.heap.size w w1) (hb : Below w1.heap.size w1 w2) : w2.heap[w.heap.size]? = some o ∧ Below w.heap.size w w2 := by
  have hlt : w.heap.size < w1.heap.size := by
    rcases Nat.lt_or_ge w.heap.size w1.heap.size with h' | h'
    · exact h'
    · rw [Array.getElem?_eq_none h'] at BK; cases BK
  exact ⟨(hb.block _ hlt).trans BK, HB.trans (hb.mono HB.size)⟩
theorem sign_ix0 (w : World) : (Instr.index 70 (Value.agg #[Value.string { data := #[60, 62] }, Value.string { data := #[60, 61] }, Value.string { data := #[62, 61] }, Value.string { data := #[40] }, Value.string { data := #[41] }, Value.string { data := #[44] }, Value.string { data := #[46] }, Value.string { data := #[42] }, Value.string { data := #[43] }, Value.string { data := #[45] }, Value.string { data := #[61] }, Value.string { data := #[60] }, Value.string { data := #[62] }]) (Value.int IntKind.i64 0)).run Tryd.prog w = .ok (.string ⟨#[60, 62]⟩) w := by kernel_rfl
theorem sign_ix1 (w : World) : (Instr.index 70 (Value.agg #[Value.string { data := #[60, 62] }, Value.string { data := #[60, 61] }, Value.string { data := #[62, 61] }, Value.string { data := #[40] }, Value.string { data := #[41] }, Value.string { data := #[44] }, Value.string { data := #[46] }, Value.string { data := #[42] }, Value.string { data := #[43] }, Value.string { data := #[45] }, Value.string { data := #[61] }, Value.string { data := #[60] }, Value.string { data := #[62] }]) (Value.int IntKind.i64 1)).run Tryd.prog w = .ok (.string ⟨#[60, 61]⟩) w := by kernel_rfl
theorem sign_ix2 (w : World) : (Instr.index 70 (Value.agg #[Value.string { data := #[60, 62] }, Value.string { data := #[60, 61] }, Value.string { data := #[62, 61] }, Value.string { data := #[40] }, Value.string { data := #[41] }, Value.string { data := #[44] }, Value.string { data := #[46] }, Value.string { data := #[42] }, Value.string { data := #[43] }, Value.string { data := #[45] }, Value.string { data := #[61] }, Value.string { data := #[60] }, Value.string { data := #[62] }]) (Value.int IntKind.i64 2)).run Tryd.prog w = .ok (.string ⟨#[62, 61]⟩) w := by kernel_rfl
theorem sign_ix3 (w : World) : (Instr.index 70 (Value.agg #[Value.string { data := #[60, 62] }, Value.string { data := #[60, 61] }, Value.string { data := #[62, 61] }, Value.string { data := #[40] }, Value.string { data := #[41] }, Value.string { data := #[44] }, Value.string { data := #[46] }, Value.string { data := #[42] }, Value.string { data := #[43] }, Value.string { data := #[45] }, Value.string { data := #[61] }, Value.string { data := #[60] }, Value.string { data := #[62] }]) (Value.int IntKind.i64 3)).run Tryd.prog w = .ok (.string ⟨#[40]⟩) w := by kernel_rfl
theorem sign_ix4 (w : World) : (Instr.index 70 (Value.agg #[Value.string { data := #[60, 62] }, Value.string { data := #[60, 61] }, Value.string { data := #[62, 61] }, Value.string { data := #[40] }, Value.string { data := #[41] }, Value.string { data := #[44] }, Value.string { data := #[46] }, Value.string { data := #[42] }, Value.string { data := #[43] }, Value.string { data := #[45] }, Value.string { data := #[61] }, Value.string { data := #[60] }, Value.string { data := #[62] }]) (Value.int IntKind.i64 4)).run Tryd.prog w = .ok (.string ⟨#[41]⟩) w := by kernel_rfl
theorem sign_ix5 (w : World) : (Instr.index 70 (Value.agg #[Value.string { data := #[60, 62] }, Value.string { data := #[60, 61] }, Value.string { data := #[62, 61] }, Value.string { data := #[40] }, Value.string { data := #[41] }, Value.string { data := #[44] }, Value.string { data := #[46] }, Value.string { data := #[42] }, Value.string { data := #[43] }, Value.string { data := #[45] }, Value.string { data := #[61] }, Value.string { data := #[60] }, Value.string { data := #[62] }]) (Value.int IntKind.i64 5)).run Tryd.prog w = .ok (.string ⟨#[44]⟩) w := by kernel_rfl
theorem sign_ix6 (w : World) : (Instr.index 70 (Value.agg #[Value.string { data := #[60, 62] }, Value.string { data := #[60, 61] }, Value.string { data := #[62, 61] }, Value.string { data := #[40] }, Value.string { data := #[41] }, Value.string { data := #[44] }, Value.string { data := #[46] }, Value.string { data := #[42] }, Value.string { data := #[43] }, Value.string { data := #[45] }, Value.string { data := #[61] }, Value.string { data := #[60] }, Value.string { data := #[62] }]) (Value.int IntKind.i64 6)).run Tryd.prog w = .ok (.string ⟨#[46]⟩) w := by kernel_rfl
theorem sign_ix7 (w : World) : (Instr.index 70 (Value.agg #[Value.string { data := #[60, 62] }, Value.string { data := #[60, 61] }, Value.string { data := #[62, 61] }, Value.string { data := #[40] }, Value.string { data := #[41] }, Value.string { data := #[44] }, Value.string { data := #[46] }, Value.string { data := #[42] }, Value.string { data := #[43] }, Value.string { data := #[45] }, Value.string { data := #[61] }, Value.string { data := #[60] }, Value.string { data := #[62] }]) (Value.int IntKind.i64 7)).run Tryd.prog w = .ok (.string ⟨#[42]⟩) w := by kernel_rfl
theorem sign_ix8 (w : World) : (Instr.index 70 (Value.agg #[Value.string { data := #[60, 62] }, Value.string { data := #[60, 61] }, Value.string { data := #[62, 61] }, Value.string { data := #[40] }, Value.string { data := #[41] }, Value.string { data := #[44] }, Value.string { data := #[46] }, Value.string { data := #[42] }, Value.string { data := #[43] }, Value.string { data := #[45] }, Value.string { data := #[61] }, Value.string { data := #[60] }, Value.string { data := #[62] }]) (Value.int IntKind.i64 8)).run Tryd.prog w = .ok (.string ⟨#[43]⟩) w := by kernel_rfl
theorem sign_ix9 (w : World) : (Instr.index 70 (Value.agg #[Value.string { data := #[60, 62] }, Value.string { data := #[60, 61] }, Value.string { data := #[62, 61] }, Value.string { data := #[40] }, Value.string { data := #[41] }, Value.string { data := #[44] }, Value.string { data := #[46] }, Value.string { data := #[42] }, Value.string { data := #[43] }, Value.string { data := #[45] }, Value.string { data := #[61] }, Value.string { data := #[60] }, Value.string { data := #[62] }]) (Value.int IntKind.i64 9)).run Tryd.prog w = .ok (.string ⟨#[45]⟩) w := by kernel_rfl
theorem sign_ix10 (w : World) : (Instr.index 70 (Value.agg #[Value.string { data := #[60, 62] }, Value.string { data := #[60, 61] }, Value.string { data := #[62, 61] }, Value.string { data := #[40] }, Value.string { data := #[41] }, Value.string { data := #[44] }, Value.string { data := #[46] }, Value.string { data := #[42] }, Value.string { data := #[43] }, Value.string { data := #[45] }, Value.string { data := #[61] }, Value.string { data := #[60] }, Value.string { data := #[62] }]) (Value.int IntKind.i64 10)).run Tryd.prog w = .ok (.string ⟨#[61]⟩) w := by kernel_rfl
theorem sign_ix11 (w : World) : (Instr.index 70 (Value.agg #[Value.string { data := #[60, 62] }, Value.string { data := #[60, 61] }, Value.string { data := #[62, 61] }, Value.string { data := #[40] }, Value.string { data := #[41] }, Value.string { data := #[44] }, Value.string { data := #[46] }, Value.string { data := #[42] }, Value.string { data := #[43] }, Value.string { data := #[45] }, Value.string { data := #[61] }, Value.string { data := #[60] }, Value.string { data := #[62] }]) (Value.int IntKind.i64 11)).run Tryd.prog w = .ok (.string ⟨#[60]⟩) w := by kernel_rfl
theorem sign_ix12 (w : World) : (Instr.index 70 (Value.agg #[Value.string { data := #[60, 62] }, Value.string { data := #[60, 61] }, Value.string { data := #[62, 61] }, Value.string { data := #[40] }, Value.string { data := #[41] }, Value.string { data := #[44] }, Value.string { data := #[46] }, Value.string { data := #[42] }, Value.string { data := #[43] }, Value.string { data := #[45] }, Value.string { data := #[61] }, Value.string { data := #[60] }, Value.string { data := #[62] }]) (Value.int IntKind.i64 12)).run Tryd.prog w = .ok (.string ⟨#[62]⟩) w := by kernel_rfl
set_option maxHeartbeats 8000000 in
set_option maxRecDepth 100000 in
theorem lex_token.calls (k : Nat) (a0 : ByteArray) (r1 : Int) (r2 : Int) (r3 : ByteArray) (r4 : Int) (r5 : Int) (w : World) (h : lex_token.f k a0 = some (r1, r2, r3, r4, r5)) (hG : Glob w) :
    Calls Tryd.prog 16 #[.string a0] w fun e w' => e = .returned (.tuple #[.agg #[.int .i64 r1, .int .i64 r2, .string r3], .int .i64 r4, .int .i64 r5]) ∧ Below w.heap.size w w' := by
  have huT := Tryd.underlying41
  have HG := Aside0.mk hG
  clear hG
  have BK := Aside0.mk (heap_alloc_new w (Obj.cells #[Value.int IntKind.i64 0, Value.int IntKind.i64 0, Value.string { data := #[] }] 41))
  have HB := Aside0.mk ((Below.refl w.heap.size w).alloc (Nat.le_refl _) (Obj.cells #[Value.int IntKind.i64 0, Value.int IntKind.i64 0, Value.string { data := #[] }] 41))
  unfold lex_token.f at h
  by_cases hp : Go.Lib.hasPrefix a0.data.toList [120, 39] = true
  · rw [if_pos hp] at h
    have H := Aside0.mk h
    have HP := Aside0.mk (show strings_HasPrefix.f a0 ⟨#[120, 39]⟩ = some true from congrArg some hp)
    clear h hp
    go_enter Tryd.func16, Tryd.ntmps16
    go_wp2_with (go_at_call 28; fail)
    first | refine (strings_HasPrefix.calls a0 ⟨#[120, 39]⟩ true _ HP.out).mono ?_ | refine (strings_HasPrefix.calls a0 ⟨#[120, 39]⟩ true _ HP.out).mono ?_
    rintro e w1 ⟨rfl, hb⟩
    replace hb := hb.below
    obtain ⟨bk, hbb⟩ := keepB BK.out HB.out hb
    clear BK HB hb
    have BK := Aside0.mk bk
    have HB := Aside0.mk hbb
    clear bk hbb
    go_wp2_with (go_at_call 29; fail)
    first | refine (lex_raw.calls k a0 r1 r2 r3 r4 r5 _ H.out (Glob.below HG.out HB.out)).mono ?_ | refine (lex_raw.calls k a0 r1 r2 r3 r4 r5 _ H.out (Glob.below HG.out HB.out)).mono ?_
    rintro e w2 ⟨rfl, hb⟩
    replace hb := hb
    obtain ⟨bk, hbb⟩ := keepB BK.out HB.out hb
    clear BK HB hb
    have BK := Aside0.mk bk
    have HB := Aside0.mk hbb
    clear bk hbb
    have hz0 : w2.cell? ⟨w.heap.size, 0, none⟩ = some (.int .i64 0) := (blk_cell BK.out 0).trans rfl
    have hz1 : w2.cell? ⟨w.heap.size, 1, none⟩ = some (.int .i64 0) := (blk_cell BK.out 1).trans rfl
    have hz2 : w2.cell? ⟨w.heap.size, 2, none⟩ = some (.string (⟨#[]⟩ : ByteArray)) := (blk_cell BK.out 2).trans rfl
    have hf0 := blk_frozen BK.out 0
    have hf1 := blk_frozen BK.out 1
    have hf2 := blk_frozen BK.out 2
    go_wp2
    refine bodyPost_ret (results_ctt rfl _ _ w.heap.size 41 #[.int .i64 (r1), .int .i64 (r2), .string (r3)] (0, 0) _ rfl q21_ Tryd.underlying41 rfl (by kernel_rfl)) rfl ?_
    exact ⟨rfl, ((HB.out.setCell (Nat.le_refl _) _).setCell (Nat.le_refl _) _).setCell (Nat.le_refl _) _⟩
  · rw [if_neg hp] at h
    have HP := Aside0.mk (show strings_HasPrefix.f a0 ⟨#[120, 39]⟩ = some false from congrArg some (Bool.eq_false_iff.mpr hp))
    clear hp
    by_cases hs : a0.size = 0
    · rw [if_pos hs] at h; cases h
    · rw [if_neg hs] at h
      have hs0 : 0 < a0.size := by omega
      clear hs
      have hx : ((a0[0]'hs0).toNat : Int) = bt a0 0 := bt_at a0 0 hs0
      rw [Option.bind_eq_some_iff] at h
      obtain ⟨l, hl, h⟩ := h
      have HL := Aside0.mk hl
      clear hl
      by_cases hl : l = true
      · subst hl
        rw [if_pos rfl, Option.bind_eq_some_iff] at h
        obtain ⟨n, hn, h⟩ := h
        by_cases hnb : 0 ≤ n ∧ n ≤ (a0.size : Int)
        · rw [if_pos hnb] at h
          obtain ⟨hn0, hn1⟩ := hnb
          simp only [Option.some.injEq, Prod.mk.injEq] at h
          obtain ⟨rfl, rfl, rfl, rfl, rfl⟩ := h
          have HN := Aside0.mk hn
          clear hn
          go_enter Tryd.func16, Tryd.ntmps16
          go_wp2_with (go_at_call 28; fail)
          first | refine (strings_HasPrefix.calls a0 ⟨#[120, 39]⟩ false _ HP.out).mono ?_ | refine (strings_HasPrefix.calls a0 ⟨#[120, 39]⟩ false _ HP.out).mono ?_
          rintro e w1 ⟨rfl, hb⟩
          replace hb := hb.below
          obtain ⟨bk, hbb⟩ := keepB BK.out HB.out hb
          clear BK HB hb
          have BK := Aside0.mk bk
          have HB := Aside0.mk hbb
          clear bk hbb
          go_wp2_with (go_at_call 30; fail)
          first | refine (lex_letter.calls (bt a0 0) true _ HL.out).mono ?_ | refine (lex_letter.calls _ true _ (hx.symm ▸ HL.out)).mono ?_
          rintro e w2 ⟨rfl, hb⟩
          replace hb := hb.below
          obtain ⟨bk, hbb⟩ := keepB BK.out HB.out hb
          clear BK HB hb
          have BK := Aside0.mk bk
          have HB := Aside0.mk hbb
          clear bk hbb
          go_wp2_with (go_at_call 31; fail)
          first | refine (lex_span.calls k a0 true n _ HN.out).mono ?_ | refine (lex_span.calls k a0 true n _ HN.out).mono ?_
          rintro e w3 ⟨rfl, hb⟩
          replace hb := hb.below
          obtain ⟨bk, hbb⟩ := keepB BK.out HB.out hb
          clear BK HB hb
          have BK := Aside0.mk bk
          have HB := Aside0.mk hbb
          clear bk hbb
          have hz0 : w3.cell? ⟨w.heap.size, 0, none⟩ = some (.int .i64 0) := (blk_cell BK.out 0).trans rfl
          have hz1 : w3.cell? ⟨w.heap.size, 1, none⟩ = some (.int .i64 0) := (blk_cell BK.out 1).trans rfl
          have hz2 : w3.cell? ⟨w.heap.size, 2, none⟩ = some (.string (⟨#[]⟩ : ByteArray)) := (blk_cell BK.out 2).trans rfl
          have hf0 := blk_frozen BK.out 0
          have hf1 := blk_frozen BK.out 1
          have hf2 := blk_frozen BK.out 2
          go_wp2
          refine bodyPost_ret (results_ctt rfl _ _ w.heap.size 41 #[.int .i64 (1), .int .i64 (0), .string (a0.extract 0 n.toNat)] (0, 0) _ rfl (by refine blk_put (cs := #[.int .i64 (1), .int .i64 (0), .string (⟨#[]⟩ : ByteArray)]) ?_ 2 _ rfl; refine blk_put (cs := #[.int .i64 (1), .int .i64 0, .string (⟨#[]⟩ : ByteArray)]) ?_ 1 _ rfl; refine blk_put (cs := #[.int .i64 0, .int .i64 0, .string (⟨#[]⟩ : ByteArray)]) ?_ 0 _ rfl; exact BK.out) Tryd.underlying41 rfl (by kernel_rfl)) rfl ?_
          exact ⟨rfl, ((HB.out.setCell (Nat.le_refl _) _).setCell (Nat.le_refl _) _).setCell (Nat.le_refl _) _⟩
        · rw [if_neg hnb] at h; cases h
      · have hl' : l = false := by simpa using hl
        subst hl'
        clear hl
        rw [if_neg (by decide), Option.bind_eq_some_iff] at h
        obtain ⟨d, hd, h⟩ := h
        have HD := Aside0.mk hd
        clear hd
        by_cases hd : d = true
        · subst hd
          rw [if_pos rfl, Option.bind_eq_some_iff] at h
          obtain ⟨n, hn, h⟩ := h
          by_cases hnb : 0 ≤ n ∧ n ≤ (a0.size : Int)
          · rw [if_pos hnb] at h
            obtain ⟨hn0, hn1⟩ := hnb
            have H := Aside0.mk h
            have HN := Aside0.mk hn
            clear hn h
            go_enter Tryd.func16, Tryd.ntmps16
            go_wp2_with (go_at_call 28; fail)
            first | refine (strings_HasPrefix.calls a0 ⟨#[120, 39]⟩ false _ HP.out).mono ?_ | refine (strings_HasPrefix.calls a0 ⟨#[120, 39]⟩ false _ HP.out).mono ?_
            rintro e w1 ⟨rfl, hb⟩
            replace hb := hb.below
            obtain ⟨bk, hbb⟩ := keepB BK.out HB.out hb
            clear BK HB hb
            have BK := Aside0.mk bk
            have HB := Aside0.mk hbb
            clear bk hbb
            go_wp2_with (go_at_call 30; fail)
            first | refine (lex_letter.calls (bt a0 0) false _ HL.out).mono ?_ | refine (lex_letter.calls _ false _ (hx.symm ▸ HL.out)).mono ?_
            rintro e w2 ⟨rfl, hb⟩
            replace hb := hb.below
            obtain ⟨bk, hbb⟩ := keepB BK.out HB.out hb
            clear BK HB hb
            have BK := Aside0.mk bk
            have HB := Aside0.mk hbb
            clear bk hbb
            go_wp2_with (go_at_call 32; fail)
            first | refine (lex_digit.calls (bt a0 0) true _ HD.out).mono ?_ | refine (lex_digit.calls _ true _ (hx.symm ▸ HD.out)).mono ?_
            rintro e w3 ⟨rfl, hb⟩
            replace hb := hb.below
            obtain ⟨bk, hbb⟩ := keepB BK.out HB.out hb
            clear BK HB hb
            have BK := Aside0.mk bk
            have HB := Aside0.mk hbb
            clear bk hbb
            go_wp2_with (go_at_call 31; fail)
            first | refine (lex_span.calls k a0 false n _ HN.out).mono ?_ | refine (lex_span.calls k a0 false n _ HN.out).mono ?_
            rintro e w4 ⟨rfl, hb⟩
            replace hb := hb.below
            obtain ⟨bk, hbb⟩ := keepB BK.out HB.out hb
            clear BK HB hb
            have BK := Aside0.mk bk
            have HB := Aside0.mk hbb
            clear bk hbb
            go_wp2_with (go_at_call 33; fail)
            first | refine (lex_number.calls k _ r1 r2 r3 r4 r5 _ H.out).mono ?_ | refine (lex_number.calls k _ r1 r2 r3 r4 r5 _ H.out).mono ?_
            rintro e w5 ⟨rfl, hb⟩
            replace hb := hb
            obtain ⟨bk, hbb⟩ := keepB BK.out HB.out hb
            clear BK HB hb
            have BK := Aside0.mk bk
            have HB := Aside0.mk hbb
            clear bk hbb
            have hz0 : w5.cell? ⟨w.heap.size, 0, none⟩ = some (.int .i64 0) := (blk_cell BK.out 0).trans rfl
            have hz1 : w5.cell? ⟨w.heap.size, 1, none⟩ = some (.int .i64 0) := (blk_cell BK.out 1).trans rfl
            have hz2 : w5.cell? ⟨w.heap.size, 2, none⟩ = some (.string (⟨#[]⟩ : ByteArray)) := (blk_cell BK.out 2).trans rfl
            have hf0 := blk_frozen BK.out 0
            have hf1 := blk_frozen BK.out 1
            have hf2 := blk_frozen BK.out 2
            go_wp2
            refine bodyPost_ret (results_ctt rfl _ _ w.heap.size 41 #[.int .i64 (r1), .int .i64 (r2), .string (r3)] (0, 0) _ rfl q21_ Tryd.underlying41 rfl (by kernel_rfl)) rfl ?_
            exact ⟨rfl, ((HB.out.setCell (Nat.le_refl _) _).setCell (Nat.le_refl _) _).setCell (Nat.le_refl _) _⟩
          · rw [if_neg hnb] at h; cases h
        · have hd' : d = false := by simpa using hd
          subst hd'
          clear hd
          rw [if_neg (by decide)] at h
          by_cases h39 : bt a0 0 = 39
          · rw [if_pos h39] at h
            have H := Aside0.mk h
            clear h
            have H39 := Aside0.mk h39
            clear h39
            go_enter Tryd.func16, Tryd.ntmps16
            go_wp2_with (go_at_call 28; fail)
            first | refine (strings_HasPrefix.calls a0 ⟨#[120, 39]⟩ false _ HP.out).mono ?_ | refine (strings_HasPrefix.calls a0 ⟨#[120, 39]⟩ false _ HP.out).mono ?_
            rintro e w1 ⟨rfl, hb⟩
            replace hb := hb.below
            obtain ⟨bk, hbb⟩ := keepB BK.out HB.out hb
            clear BK HB hb
            have BK := Aside0.mk bk
            have HB := Aside0.mk hbb
            clear bk hbb
            go_wp2_with (go_at_call 30; fail)
            first | refine (lex_letter.calls (bt a0 0) false _ HL.out).mono ?_ | refine (lex_letter.calls _ false _ (hx.symm ▸ HL.out)).mono ?_
            rintro e w2 ⟨rfl, hb⟩
            replace hb := hb.below
            obtain ⟨bk, hbb⟩ := keepB BK.out HB.out hb
            clear BK HB hb
            have BK := Aside0.mk bk
            have HB := Aside0.mk hbb
            clear bk hbb
            go_wp2_with (go_at_call 32; fail)
            first | refine (lex_digit.calls (bt a0 0) false _ HD.out).mono ?_ | refine (lex_digit.calls _ false _ (hx.symm ▸ HD.out)).mono ?_
            rintro e w3 ⟨rfl, hb⟩
            replace hb := hb.below
            obtain ⟨bk, hbb⟩ := keepB BK.out HB.out hb
            clear BK HB hb
            have BK := Aside0.mk bk
            have HB := Aside0.mk hbb
            clear bk hbb
            have h39 := H39.out
            go_wp2_with (go_at_call 34; fail)
            first | refine (lex_str.calls a0 r1 r2 r3 r4 r5 _ H.out (Glob.below HG.out HB.out)).mono ?_ | refine (lex_str.calls a0 r1 r2 r3 r4 r5 _ H.out (Glob.below HG.out HB.out)).mono ?_
            rintro e w4 ⟨rfl, hb⟩
            replace hb := hb
            obtain ⟨bk, hbb⟩ := keepB BK.out HB.out hb
            clear BK HB hb
            have BK := Aside0.mk bk
            have HB := Aside0.mk hbb
            clear bk hbb
            have hz0 : w4.cell? ⟨w.heap.size, 0, none⟩ = some (.int .i64 0) := (blk_cell BK.out 0).trans rfl
            have hz1 : w4.cell? ⟨w.heap.size, 1, none⟩ = some (.int .i64 0) := (blk_cell BK.out 1).trans rfl
            have hz2 : w4.cell? ⟨w.heap.size, 2, none⟩ = some (.string (⟨#[]⟩ : ByteArray)) := (blk_cell BK.out 2).trans rfl
            have hf0 := blk_frozen BK.out 0
            have hf1 := blk_frozen BK.out 1
            have hf2 := blk_frozen BK.out 2
            go_wp2
            refine bodyPost_ret (results_ctt rfl _ _ w.heap.size 41 #[.int .i64 (r1), .int .i64 (r2), .string (r3)] (0, 0) _ rfl q21_ Tryd.underlying41 rfl (by kernel_rfl)) rfl ?_
            exact ⟨rfl, ((HB.out.setCell (Nat.le_refl _) _).setCell (Nat.le_refl _) _).setCell (Nat.le_refl _) _⟩
          · rw [if_neg h39] at h
            have h39b : (bt a0 0 == 39) = false := by simpa using h39
            have HS := Aside0.mk (Option.some.inj h)
            clear h
            go_enter Tryd.func16, Tryd.ntmps16
            go_wp2_with (go_at_call 28; fail)
            first | refine (strings_HasPrefix.calls a0 ⟨#[120, 39]⟩ false _ HP.out).mono ?_ | refine (strings_HasPrefix.calls a0 ⟨#[120, 39]⟩ false _ HP.out).mono ?_
            rintro e w1 ⟨rfl, hb⟩
            replace hb := hb.below
            obtain ⟨bk, hbb⟩ := keepB BK.out HB.out hb
            clear BK HB hb
            have BK := Aside0.mk bk
            have HB := Aside0.mk hbb
            clear bk hbb
            go_wp2_with (go_at_call 30; fail)
            first | refine (lex_letter.calls (bt a0 0) false _ HL.out).mono ?_ | refine (lex_letter.calls _ false _ (hx.symm ▸ HL.out)).mono ?_
            rintro e w2 ⟨rfl, hb⟩
            replace hb := hb.below
            obtain ⟨bk, hbb⟩ := keepB BK.out HB.out hb
            clear BK HB hb
            have BK := Aside0.mk bk
            have HB := Aside0.mk hbb
            clear bk hbb
            go_wp2_with (go_at_call 32; fail)
            first | refine (lex_digit.calls (bt a0 0) false _ HD.out).mono ?_ | refine (lex_digit.calls _ false _ (hx.symm ▸ HD.out)).mono ?_
            rintro e w3 ⟨rfl, hb⟩
            replace hb := hb.below
            obtain ⟨bk, hbb⟩ := keepB BK.out HB.out hb
            clear BK HB hb
            have BK := Aside0.mk bk
            have HB := Aside0.mk hbb
            clear bk hbb
            go_wp2_with fail
            go_loopw [49] (fun i wr => ∃ m : Nat, m ≤ 13 ∧ i = .int .i64 m ∧ Aside0 (signOf a0 (signs.drop m) = (r1, r2, r3, r4, r5)) ∧ Aside0 (wr.heap[w.heap.size]? = some (.cells #[.int .i64 0, .int .i64 0, .string (⟨#[]⟩ : ByteArray)] 41 (0, 0))) ∧ Aside0 (Below w.heap.size w wr)) (fun i _ => 13 - (intOf i).toNat)
            case atStart => exact ⟨0, by omega, rfl, HS, BK, HB⟩
            case round =>
              clear HS BK HB
              obtain ⟨m, hm, rfl, HSm, BK, HB⟩ := hrel
              have hcs : m = 0 ∨ m = 1 ∨ m = 2 ∨ m = 3 ∨ m = 4 ∨ m = 5 ∨ m = 6 ∨ m = 7 ∨ m = 8 ∨ m = 9 ∨ m = 10 ∨ m = 11 ∨ m = 12 ∨ m = 13 := by omega
              clear hm
              rcases hcs with rfl | rfl | rfl | rfl | rfl | rfl | rfl | rfl | rfl | rfl | rfl | rfl | rfl | rfl
              · have hix := sign_ix0
                by_cases hg : Go.Lib.hasPrefix a0.data.toList [60, 62] = true
                · have HG2 := Aside0.mk (show strings_HasPrefix.f a0 (⟨#[60, 62]⟩ : ByteArray) = some true from congrArg some hg)
                  have HE := (if_pos hg).symm.trans HSm.out
                  clear hg HSm
                  simp only [Prod.mk.injEq] at HE
                  obtain ⟨rfl, rfl, rfl, rfl, rfl⟩ := HE
                  go_wp2_with (go_at_call 28; fail)
                  first | refine (strings_HasPrefix.calls a0 (⟨#[60, 62]⟩ : ByteArray) true _ HG2.out).mono ?_ | refine (strings_HasPrefix.calls a0 (⟨#[60, 62]⟩ : ByteArray) true _ HG2.out).mono ?_
                  rintro e w4 ⟨rfl, hb⟩
                  replace hb := hb.below
                  obtain ⟨bk, hbb⟩ := keepB BK.out HB.out hb
                  clear BK HB hb
                  have BK := Aside0.mk bk
                  have HB := Aside0.mk hbb
                  clear bk hbb
                  have hz0 : w4.cell? ⟨w.heap.size, 0, none⟩ = some (.int .i64 0) := (blk_cell BK.out 0).trans rfl
                  have hz1 : w4.cell? ⟨w.heap.size, 1, none⟩ = some (.int .i64 0) := (blk_cell BK.out 1).trans rfl
                  have hz2 : w4.cell? ⟨w.heap.size, 2, none⟩ = some (.string (⟨#[]⟩ : ByteArray)) := (blk_cell BK.out 2).trans rfl
                  have hf0 := blk_frozen BK.out 0
                  have hf1 := blk_frozen BK.out 1
                  have hf2 := blk_frozen BK.out 2
                  go_wp2
                  refine bodyPost_ret (results_ctt rfl _ _ w.heap.size 41 #[.int .i64 (5), .int .i64 (0), .string ((⟨#[60, 62]⟩ : ByteArray))] (0, 0) _ rfl q4_ Tryd.underlying41 rfl (by kernel_rfl)) rfl ?_
                  exact ⟨rfl, ((HB.out.setCell (Nat.le_refl _) _).setCell (Nat.le_refl _) _).setCell (Nat.le_refl _) _⟩
                · have HG2 := Aside0.mk (show strings_HasPrefix.f a0 (⟨#[60, 62]⟩ : ByteArray) = some false from congrArg some (Bool.eq_false_iff.mpr hg))
                  have HE : signOf a0 (signs.drop 1) = (r1, r2, r3, r4, r5) := (if_neg hg).symm.trans HSm.out
                  have HN2 := Aside0.mk HE
                  clear hg HSm HE
                  go_wp2_with (go_at_call 28; fail)
                  first | refine (strings_HasPrefix.calls a0 (⟨#[60, 62]⟩ : ByteArray) false _ HG2.out).mono ?_ | refine (strings_HasPrefix.calls a0 (⟨#[60, 62]⟩ : ByteArray) false _ HG2.out).mono ?_
                  rintro e w4 ⟨rfl, hb⟩
                  replace hb := hb.below
                  obtain ⟨bk, hbb⟩ := keepB BK.out HB.out hb
                  clear BK HB hb
                  have BK := Aside0.mk bk
                  have HB := Aside0.mk hbb
                  clear bk hbb
                  go_wp2
                  go_roundw
                  case rel => exact ⟨1, by omega, by first | rfl | go_num, HN2, BK, HB⟩
                  case measure => simp [intOf]
              · have hix := sign_ix1
                by_cases hg : Go.Lib.hasPrefix a0.data.toList [60, 61] = true
                · have HG2 := Aside0.mk (show strings_HasPrefix.f a0 (⟨#[60, 61]⟩ : ByteArray) = some true from congrArg some hg)
                  have HE := (if_pos hg).symm.trans HSm.out
                  clear hg HSm
                  simp only [Prod.mk.injEq] at HE
                  obtain ⟨rfl, rfl, rfl, rfl, rfl⟩ := HE
                  go_wp2_with (go_at_call 28; fail)
                  first | refine (strings_HasPrefix.calls a0 (⟨#[60, 61]⟩ : ByteArray) true _ HG2.out).mono ?_ | refine (strings_HasPrefix.calls a0 (⟨#[60, 61]⟩ : ByteArray) true _ HG2.out).mono ?_
                  rintro e w4 ⟨rfl, hb⟩
                  replace hb := hb.below
                  obtain ⟨bk, hbb⟩ := keepB BK.out HB.out hb
                  clear BK HB hb
                  have BK := Aside0.mk bk
                  have HB := Aside0.mk hbb
                  clear bk hbb
                  have hz0 : w4.cell? ⟨w.heap.size, 0, none⟩ = some (.int .i64 0) := (blk_cell BK.out 0).trans rfl
                  have hz1 : w4.cell? ⟨w.heap.size, 1, none⟩ = some (.int .i64 0) := (blk_cell BK.out 1).trans rfl
                  have hz2 : w4.cell? ⟨w.heap.size, 2, none⟩ = some (.string (⟨#[]⟩ : ByteArray)) := (blk_cell BK.out 2).trans rfl
                  have hf0 := blk_frozen BK.out 0
                  have hf1 := blk_frozen BK.out 1
                  have hf2 := blk_frozen BK.out 2
                  go_wp2
                  refine bodyPost_ret (results_ctt rfl _ _ w.heap.size 41 #[.int .i64 (5), .int .i64 (0), .string ((⟨#[60, 61]⟩ : ByteArray))] (0, 0) _ rfl q4_ Tryd.underlying41 rfl (by kernel_rfl)) rfl ?_
                  exact ⟨rfl, ((HB.out.setCell (Nat.le_refl _) _).setCell (Nat.le_refl _) _).setCell (Nat.le_refl _) _⟩
                · have HG2 := Aside0.mk (show strings_HasPrefix.f a0 (⟨#[60, 61]⟩ : ByteArray) = some false from congrArg some (Bool.eq_false_iff.mpr hg))
                  have HE : signOf a0 (signs.drop 2) = (r1, r2, r3, r4, r5) := (if_neg hg).symm.trans HSm.out
                  have HN2 := Aside0.mk HE
                  clear hg HSm HE
                  go_wp2_with (go_at_call 28; fail)
                  first | refine (strings_HasPrefix.calls a0 (⟨#[60, 61]⟩ : ByteArray) false _ HG2.out).mono ?_ | refine (strings_HasPrefix.calls a0 (⟨#[60, 61]⟩ : ByteArray) false _ HG2.out).mono ?_
                  rintro e w4 ⟨rfl, hb⟩
                  replace hb := hb.below
                  obtain ⟨bk, hbb⟩ := keepB BK.out HB.out hb
                  clear BK HB hb
                  have BK := Aside0.mk bk
                  have HB := Aside0.mk hbb
                  clear bk hbb
                  go_wp2
                  go_roundw
                  case rel => exact ⟨2, by omega, by first | rfl | go_num, HN2, BK, HB⟩
                  case measure => simp [intOf]
              · have hix := sign_ix2
                by_cases hg : Go.Lib.hasPrefix a0.data.toList [62, 61] = true
                · have HG2 := Aside0.mk (show strings_HasPrefix.f a0 (⟨#[62, 61]⟩ : ByteArray) = some true from congrArg some hg)
                  have HE := (if_pos hg).symm.trans HSm.out
                  clear hg HSm
                  simp only [Prod.mk.injEq] at HE
                  obtain ⟨rfl, rfl, rfl, rfl, rfl⟩ := HE
                  go_wp2_with (go_at_call 28; fail)
                  first | refine (strings_HasPrefix.calls a0 (⟨#[62, 61]⟩ : ByteArray) true _ HG2.out).mono ?_ | refine (strings_HasPrefix.calls a0 (⟨#[62, 61]⟩ : ByteArray) true _ HG2.out).mono ?_
                  rintro e w4 ⟨rfl, hb⟩
                  replace hb := hb.below
                  obtain ⟨bk, hbb⟩ := keepB BK.out HB.out hb
                  clear BK HB hb
                  have BK := Aside0.mk bk
                  have HB := Aside0.mk hbb
                  clear bk hbb
                  have hz0 : w4.cell? ⟨w.heap.size, 0, none⟩ = some (.int .i64 0) := (blk_cell BK.out 0).trans rfl
                  have hz1 : w4.cell? ⟨w.heap.size, 1, none⟩ = some (.int .i64 0) := (blk_cell BK.out 1).trans rfl
                  have hz2 : w4.cell? ⟨w.heap.size, 2, none⟩ = some (.string (⟨#[]⟩ : ByteArray)) := (blk_cell BK.out 2).trans rfl
                  have hf0 := blk_frozen BK.out 0
                  have hf1 := blk_frozen BK.out 1
                  have hf2 := blk_frozen BK.out 2
                  go_wp2
                  refine bodyPost_ret (results_ctt rfl _ _ w.heap.size 41 #[.int .i64 (5), .int .i64 (0), .string ((⟨#[62, 61]⟩ : ByteArray))] (0, 0) _ rfl q4_ Tryd.underlying41 rfl (by kernel_rfl)) rfl ?_
                  exact ⟨rfl, ((HB.out.setCell (Nat.le_refl _) _).setCell (Nat.le_refl _) _).setCell (Nat.le_refl _) _⟩
                · have HG2 := Aside0.mk (show strings_HasPrefix.f a0 (⟨#[62, 61]⟩ : ByteArray) = some false from congrArg some (Bool.eq_false_iff.mpr hg))
                  have HE : signOf a0 (signs.drop 3) = (r1, r2, r3, r4, r5) := (if_neg hg).symm.trans HSm.out
                  have HN2 := Aside0.mk HE
                  clear hg HSm HE
                  go_wp2_with (go_at_call 28; fail)
                  first | refine (strings_HasPrefix.calls a0 (⟨#[62, 61]⟩ : ByteArray) false _ HG2.out).mono ?_ | refine (strings_HasPrefix.calls a0 (⟨#[62, 61]⟩ : ByteArray) false _ HG2.out).mono ?_
                  rintro e w4 ⟨rfl, hb⟩
                  replace hb := hb.below
                  obtain ⟨bk, hbb⟩ := keepB BK.out HB.out hb
                  clear BK HB hb
                  have BK := Aside0.mk bk
                  have HB := Aside0.mk hbb
                  clear bk hbb
                  go_wp2
                  go_roundw
                  case rel => exact ⟨3, by omega, by first | rfl | go_num, HN2, BK, HB⟩
                  case measure => simp [intOf]
              · have hix := sign_ix3
                by_cases hg : Go.Lib.hasPrefix a0.data.toList [40] = true
                · have HG2 := Aside0.mk (show strings_HasPrefix.f a0 (⟨#[40]⟩ : ByteArray) = some true from congrArg some hg)
                  have HE := (if_pos hg).symm.trans HSm.out
                  clear hg HSm
                  simp only [Prod.mk.injEq] at HE
                  obtain ⟨rfl, rfl, rfl, rfl, rfl⟩ := HE
                  go_wp2_with (go_at_call 28; fail)
                  first | refine (strings_HasPrefix.calls a0 (⟨#[40]⟩ : ByteArray) true _ HG2.out).mono ?_ | refine (strings_HasPrefix.calls a0 (⟨#[40]⟩ : ByteArray) true _ HG2.out).mono ?_
                  rintro e w4 ⟨rfl, hb⟩
                  replace hb := hb.below
                  obtain ⟨bk, hbb⟩ := keepB BK.out HB.out hb
                  clear BK HB hb
                  have BK := Aside0.mk bk
                  have HB := Aside0.mk hbb
                  clear bk hbb
                  have hz0 : w4.cell? ⟨w.heap.size, 0, none⟩ = some (.int .i64 0) := (blk_cell BK.out 0).trans rfl
                  have hz1 : w4.cell? ⟨w.heap.size, 1, none⟩ = some (.int .i64 0) := (blk_cell BK.out 1).trans rfl
                  have hz2 : w4.cell? ⟨w.heap.size, 2, none⟩ = some (.string (⟨#[]⟩ : ByteArray)) := (blk_cell BK.out 2).trans rfl
                  have hf0 := blk_frozen BK.out 0
                  have hf1 := blk_frozen BK.out 1
                  have hf2 := blk_frozen BK.out 2
                  go_wp2
                  refine bodyPost_ret (results_ctt rfl _ _ w.heap.size 41 #[.int .i64 (5), .int .i64 (0), .string ((⟨#[40]⟩ : ByteArray))] (0, 0) _ rfl q4_ Tryd.underlying41 rfl (by kernel_rfl)) rfl ?_
                  exact ⟨rfl, ((HB.out.setCell (Nat.le_refl _) _).setCell (Nat.le_refl _) _).setCell (Nat.le_refl _) _⟩
                · have HG2 := Aside0.mk (show strings_HasPrefix.f a0 (⟨#[40]⟩ : ByteArray) = some false from congrArg some (Bool.eq_false_iff.mpr hg))
                  have HE : signOf a0 (signs.drop 4) = (r1, r2, r3, r4, r5) := (if_neg hg).symm.trans HSm.out
                  have HN2 := Aside0.mk HE
                  clear hg HSm HE
                  go_wp2_with (go_at_call 28; fail)
                  first | refine (strings_HasPrefix.calls a0 (⟨#[40]⟩ : ByteArray) false _ HG2.out).mono ?_ | refine (strings_HasPrefix.calls a0 (⟨#[40]⟩ : ByteArray) false _ HG2.out).mono ?_
                  rintro e w4 ⟨rfl, hb⟩
                  replace hb := hb.below
                  obtain ⟨bk, hbb⟩ := keepB BK.out HB.out hb
                  clear BK HB hb
                  have BK := Aside0.mk bk
                  have HB := Aside0.mk hbb
                  clear bk hbb
                  go_wp2
                  go_roundw
                  case rel => exact ⟨4, by omega, by first | rfl | go_num, HN2, BK, HB⟩
                  case measure => simp [intOf]
              · have hix := sign_ix4
                by_cases hg : Go.Lib.hasPrefix a0.data.toList [41] = true
                · have HG2 := Aside0.mk (show strings_HasPrefix.f a0 (⟨#[41]⟩ : ByteArray) = some true from congrArg some hg)
                  have HE := (if_pos hg).symm.trans HSm.out
                  clear hg HSm
                  simp only [Prod.mk.injEq] at HE
                  obtain ⟨rfl, rfl, rfl, rfl, rfl⟩ := HE
                  go_wp2_with (go_at_call 28; fail)
                  first | refine (strings_HasPrefix.calls a0 (⟨#[41]⟩ : ByteArray) true _ HG2.out).mono ?_ | refine (strings_HasPrefix.calls a0 (⟨#[41]⟩ : ByteArray) true _ HG2.out).mono ?_
                  rintro e w4 ⟨rfl, hb⟩
                  replace hb := hb.below
                  obtain ⟨bk, hbb⟩ := keepB BK.out HB.out hb
                  clear BK HB hb
                  have BK := Aside0.mk bk
                  have HB := Aside0.mk hbb
                  clear bk hbb
                  have hz0 : w4.cell? ⟨w.heap.size, 0, none⟩ = some (.int .i64 0) := (blk_cell BK.out 0).trans rfl
                  have hz1 : w4.cell? ⟨w.heap.size, 1, none⟩ = some (.int .i64 0) := (blk_cell BK.out 1).trans rfl
                  have hz2 : w4.cell? ⟨w.heap.size, 2, none⟩ = some (.string (⟨#[]⟩ : ByteArray)) := (blk_cell BK.out 2).trans rfl
                  have hf0 := blk_frozen BK.out 0
                  have hf1 := blk_frozen BK.out 1
                  have hf2 := blk_frozen BK.out 2
                  go_wp2
                  refine bodyPost_ret (results_ctt rfl _ _ w.heap.size 41 #[.int .i64 (5), .int .i64 (0), .string ((⟨#[41]⟩ : ByteArray))] (0, 0) _ rfl q4_ Tryd.underlying41 rfl (by kernel_rfl)) rfl ?_
                  exact ⟨rfl, ((HB.out.setCell (Nat.le_refl _) _).setCell (Nat.le_refl _) _).setCell (Nat.le_refl _) _⟩
                · have HG2 := Aside0.mk (show strings_HasPrefix.f a0 (⟨#[41]⟩ : ByteArray) = some false from congrArg some (Bool.eq_false_iff.mpr hg))
                  have HE : signOf a0 (signs.drop 5) = (r1, r2, r3, r4, r5) := (if_neg hg).symm.trans HSm.out
                  have HN2 := Aside0.mk HE
                  clear hg HSm HE
                  go_wp2_with (go_at_call 28; fail)
                  first | refine (strings_HasPrefix.calls a0 (⟨#[41]⟩ : ByteArray) false _ HG2.out).mono ?_ | refine (strings_HasPrefix.calls a0 (⟨#[41]⟩ : ByteArray) false _ HG2.out).mono ?_
                  rintro e w4 ⟨rfl, hb⟩
                  replace hb := hb.below
                  obtain ⟨bk, hbb⟩ := keepB BK.out HB.out hb
                  clear BK HB hb
                  have BK := Aside0.mk bk
                  have HB := Aside0.mk hbb
                  clear bk hbb
                  go_wp2
                  go_roundw
                  case rel => exact ⟨5, by omega, by first | rfl | go_num, HN2, BK, HB⟩
                  case measure => simp [intOf]
              · have hix := sign_ix5
                by_cases hg : Go.Lib.hasPrefix a0.data.toList [44] = true
                · have HG2 := Aside0.mk (show strings_HasPrefix.f a0 (⟨#[44]⟩ : ByteArray) = some true from congrArg some hg)
                  have HE := (if_pos hg).symm.trans HSm.out
                  clear hg HSm
                  simp only [Prod.mk.injEq] at HE
                  obtain ⟨rfl, rfl, rfl, rfl, rfl⟩ := HE
                  go_wp2_with (go_at_call 28; fail)
                  first | refine (strings_HasPrefix.calls a0 (⟨#[44]⟩ : ByteArray) true _ HG2.out).mono ?_ | refine (strings_HasPrefix.calls a0 (⟨#[44]⟩ : ByteArray) true _ HG2.out).mono ?_
                  rintro e w4 ⟨rfl, hb⟩
                  replace hb := hb.below
                  obtain ⟨bk, hbb⟩ := keepB BK.out HB.out hb
                  clear BK HB hb
                  have BK := Aside0.mk bk
                  have HB := Aside0.mk hbb
                  clear bk hbb
                  have hz0 : w4.cell? ⟨w.heap.size, 0, none⟩ = some (.int .i64 0) := (blk_cell BK.out 0).trans rfl
                  have hz1 : w4.cell? ⟨w.heap.size, 1, none⟩ = some (.int .i64 0) := (blk_cell BK.out 1).trans rfl
                  have hz2 : w4.cell? ⟨w.heap.size, 2, none⟩ = some (.string (⟨#[]⟩ : ByteArray)) := (blk_cell BK.out 2).trans rfl
                  have hf0 := blk_frozen BK.out 0
                  have hf1 := blk_frozen BK.out 1
                  have hf2 := blk_frozen BK.out 2
                  go_wp2
                  refine bodyPost_ret (results_ctt rfl _ _ w.heap.size 41 #[.int .i64 (5), .int .i64 (0), .string ((⟨#[44]⟩ : ByteArray))] (0, 0) _ rfl q4_ Tryd.underlying41 rfl (by kernel_rfl)) rfl ?_
                  exact ⟨rfl, ((HB.out.setCell (Nat.le_refl _) _).setCell (Nat.le_refl _) _).setCell (Nat.le_refl _) _⟩
                · have HG2 := Aside0.mk (show strings_HasPrefix.f a0 (⟨#[44]⟩ : ByteArray) = some false from congrArg some (Bool.eq_false_iff.mpr hg))
                  have HE : signOf a0 (signs.drop 6) = (r1, r2, r3, r4, r5) := (if_neg hg).symm.trans HSm.out
                  have HN2 := Aside0.mk HE
                  clear hg HSm HE
                  go_wp2_with (go_at_call 28; fail)
                  first | refine (strings_HasPrefix.calls a0 (⟨#[44]⟩ : ByteArray) false _ HG2.out).mono ?_ | refine (strings_HasPrefix.calls a0 (⟨#[44]⟩ : ByteArray) false _ HG2.out).mono ?_
                  rintro e w4 ⟨rfl, hb⟩
                  replace hb := hb.below
                  obtain ⟨bk, hbb⟩ := keepB BK.out HB.out hb
                  clear BK HB hb
                  have BK := Aside0.mk bk
                  have HB := Aside0.mk hbb
                  clear bk hbb
                  go_wp2
                  go_roundw
                  case rel => exact ⟨6, by omega, by first | rfl | go_num, HN2, BK, HB⟩
                  case measure => simp [intOf]
              · have hix := sign_ix6
                by_cases hg : Go.Lib.hasPrefix a0.data.toList [46] = true
                · have HG2 := Aside0.mk (show strings_HasPrefix.f a0 (⟨#[46]⟩ : ByteArray) = some true from congrArg some hg)
                  have HE := (if_pos hg).symm.trans HSm.out
                  clear hg HSm
                  simp only [Prod.mk.injEq] at HE
                  obtain ⟨rfl, rfl, rfl, rfl, rfl⟩ := HE
                  go_wp2_with (go_at_call 28; fail)
                  first | refine (strings_HasPrefix.calls a0 (⟨#[46]⟩ : ByteArray) true _ HG2.out).mono ?_ | refine (strings_HasPrefix.calls a0 (⟨#[46]⟩ : ByteArray) true _ HG2.out).mono ?_
                  rintro e w4 ⟨rfl, hb⟩
                  replace hb := hb.below
                  obtain ⟨bk, hbb⟩ := keepB BK.out HB.out hb
                  clear BK HB hb
                  have BK := Aside0.mk bk
                  have HB := Aside0.mk hbb
                  clear bk hbb
                  have hz0 : w4.cell? ⟨w.heap.size, 0, none⟩ = some (.int .i64 0) := (blk_cell BK.out 0).trans rfl
                  have hz1 : w4.cell? ⟨w.heap.size, 1, none⟩ = some (.int .i64 0) := (blk_cell BK.out 1).trans rfl
                  have hz2 : w4.cell? ⟨w.heap.size, 2, none⟩ = some (.string (⟨#[]⟩ : ByteArray)) := (blk_cell BK.out 2).trans rfl
                  have hf0 := blk_frozen BK.out 0
                  have hf1 := blk_frozen BK.out 1
                  have hf2 := blk_frozen BK.out 2
                  go_wp2
                  refine bodyPost_ret (results_ctt rfl _ _ w.heap.size 41 #[.int .i64 (5), .int .i64 (0), .string ((⟨#[46]⟩ : ByteArray))] (0, 0) _ rfl q4_ Tryd.underlying41 rfl (by kernel_rfl)) rfl ?_
                  exact ⟨rfl, ((HB.out.setCell (Nat.le_refl _) _).setCell (Nat.le_refl _) _).setCell (Nat.le_refl _) _⟩
                · have HG2 := Aside0.mk (show strings_HasPrefix.f a0 (⟨#[46]⟩ : ByteArray) = some false from congrArg some (Bool.eq_false_iff.mpr hg))
                  have HE : signOf a0 (signs.drop 7) = (r1, r2, r3, r4, r5) := (if_neg hg).symm.trans HSm.out
                  have HN2 := Aside0.mk HE
                  clear hg HSm HE
                  go_wp2_with (go_at_call 28; fail)
                  first | refine (strings_HasPrefix.calls a0 (⟨#[46]⟩ : ByteArray) false _ HG2.out).mono ?_ | refine (strings_HasPrefix.calls a0 (⟨#[46]⟩ : ByteArray) false _ HG2.out).mono ?_
                  rintro e w4 ⟨rfl, hb⟩
                  replace hb := hb.below
                  obtain ⟨bk, hbb⟩ := keepB BK.out HB.out hb
                  clear BK HB hb
                  have BK := Aside0.mk bk
                  have HB := Aside0.mk hbb
                  clear bk hbb
                  go_wp2
                  go_roundw
                  case rel => exact ⟨7, by omega, by first | rfl | go_num, HN2, BK, HB⟩
                  case measure => simp [intOf]
              · have hix := sign_ix7
                by_cases hg : Go.Lib.hasPrefix a0.data.toList [42] = true
                · have HG2 := Aside0.mk (show strings_HasPrefix.f a0 (⟨#[42]⟩ : ByteArray) = some true from congrArg some hg)
                  have HE := (if_pos hg).symm.trans HSm.out
                  clear hg HSm
                  simp only [Prod.mk.injEq] at HE
                  obtain ⟨rfl, rfl, rfl, rfl, rfl⟩ := HE
                  go_wp2_with (go_at_call 28; fail)
                  first | refine (strings_HasPrefix.calls a0 (⟨#[42]⟩ : ByteArray) true _ HG2.out).mono ?_ | refine (strings_HasPrefix.calls a0 (⟨#[42]⟩ : ByteArray) true _ HG2.out).mono ?_
                  rintro e w4 ⟨rfl, hb⟩
                  replace hb := hb.below
                  obtain ⟨bk, hbb⟩ := keepB BK.out HB.out hb
                  clear BK HB hb
                  have BK := Aside0.mk bk
                  have HB := Aside0.mk hbb
                  clear bk hbb
                  have hz0 : w4.cell? ⟨w.heap.size, 0, none⟩ = some (.int .i64 0) := (blk_cell BK.out 0).trans rfl
                  have hz1 : w4.cell? ⟨w.heap.size, 1, none⟩ = some (.int .i64 0) := (blk_cell BK.out 1).trans rfl
                  have hz2 : w4.cell? ⟨w.heap.size, 2, none⟩ = some (.string (⟨#[]⟩ : ByteArray)) := (blk_cell BK.out 2).trans rfl
                  have hf0 := blk_frozen BK.out 0
                  have hf1 := blk_frozen BK.out 1
                  have hf2 := blk_frozen BK.out 2
                  go_wp2
                  refine bodyPost_ret (results_ctt rfl _ _ w.heap.size 41 #[.int .i64 (5), .int .i64 (0), .string ((⟨#[42]⟩ : ByteArray))] (0, 0) _ rfl q4_ Tryd.underlying41 rfl (by kernel_rfl)) rfl ?_
                  exact ⟨rfl, ((HB.out.setCell (Nat.le_refl _) _).setCell (Nat.le_refl _) _).setCell (Nat.le_refl _) _⟩
                · have HG2 := Aside0.mk (show strings_HasPrefix.f a0 (⟨#[42]⟩ : ByteArray) = some false from congrArg some (Bool.eq_false_iff.mpr hg))
                  have HE : signOf a0 (signs.drop 8) = (r1, r2, r3, r4, r5) := (if_neg hg).symm.trans HSm.out
                  have HN2 := Aside0.mk HE
                  clear hg HSm HE
                  go_wp2_with (go_at_call 28; fail)
                  first | refine (strings_HasPrefix.calls a0 (⟨#[42]⟩ : ByteArray) false _ HG2.out).mono ?_ | refine (strings_HasPrefix.calls a0 (⟨#[42]⟩ : ByteArray) false _ HG2.out).mono ?_
                  rintro e w4 ⟨rfl, hb⟩
                  replace hb := hb.below
                  obtain ⟨bk, hbb⟩ := keepB BK.out HB.out hb
                  clear BK HB hb
                  have BK := Aside0.mk bk
                  have HB := Aside0.mk hbb
                  clear bk hbb
                  go_wp2
                  go_roundw
                  case rel => exact ⟨8, by omega, by first | rfl | go_num, HN2, BK, HB⟩
                  case measure => simp [intOf]
              · have hix := sign_ix8
                by_cases hg : Go.Lib.hasPrefix a0.data.toList [43] = true
                · have HG2 := Aside0.mk (show strings_HasPrefix.f a0 (⟨#[43]⟩ : ByteArray) = some true from congrArg some hg)
                  have HE := (if_pos hg).symm.trans HSm.out
                  clear hg HSm
                  simp only [Prod.mk.injEq] at HE
                  obtain ⟨rfl, rfl, rfl, rfl, rfl⟩ := HE
                  go_wp2_with (go_at_call 28; fail)
                  first | refine (strings_HasPrefix.calls a0 (⟨#[43]⟩ : ByteArray) true _ HG2.out).mono ?_ | refine (strings_HasPrefix.calls a0 (⟨#[43]⟩ : ByteArray) true _ HG2.out).mono ?_
                  rintro e w4 ⟨rfl, hb⟩
                  replace hb := hb.below
                  obtain ⟨bk, hbb⟩ := keepB BK.out HB.out hb
                  clear BK HB hb
                  have BK := Aside0.mk bk
                  have HB := Aside0.mk hbb
                  clear bk hbb
                  have hz0 : w4.cell? ⟨w.heap.size, 0, none⟩ = some (.int .i64 0) := (blk_cell BK.out 0).trans rfl
                  have hz1 : w4.cell? ⟨w.heap.size, 1, none⟩ = some (.int .i64 0) := (blk_cell BK.out 1).trans rfl
                  have hz2 : w4.cell? ⟨w.heap.size, 2, none⟩ = some (.string (⟨#[]⟩ : ByteArray)) := (blk_cell BK.out 2).trans rfl
                  have hf0 := blk_frozen BK.out 0
                  have hf1 := blk_frozen BK.out 1
                  have hf2 := blk_frozen BK.out 2
                  go_wp2
                  refine bodyPost_ret (results_ctt rfl _ _ w.heap.size 41 #[.int .i64 (5), .int .i64 (0), .string ((⟨#[43]⟩ : ByteArray))] (0, 0) _ rfl q4_ Tryd.underlying41 rfl (by kernel_rfl)) rfl ?_
                  exact ⟨rfl, ((HB.out.setCell (Nat.le_refl _) _).setCell (Nat.le_refl _) _).setCell (Nat.le_refl _) _⟩
                · have HG2 := Aside0.mk (show strings_HasPrefix.f a0 (⟨#[43]⟩ : ByteArray) = some false from congrArg some (Bool.eq_false_iff.mpr hg))
                  have HE : signOf a0 (signs.drop 9) = (r1, r2, r3, r4, r5) := (if_neg hg).symm.trans HSm.out
                  have HN2 := Aside0.mk HE
                  clear hg HSm HE
                  go_wp2_with (go_at_call 28; fail)
                  first | refine (strings_HasPrefix.calls a0 (⟨#[43]⟩ : ByteArray) false _ HG2.out).mono ?_ | refine (strings_HasPrefix.calls a0 (⟨#[43]⟩ : ByteArray) false _ HG2.out).mono ?_
                  rintro e w4 ⟨rfl, hb⟩
                  replace hb := hb.below
                  obtain ⟨bk, hbb⟩ := keepB BK.out HB.out hb
                  clear BK HB hb
                  have BK := Aside0.mk bk
                  have HB := Aside0.mk hbb
                  clear bk hbb
                  go_wp2
                  go_roundw
                  case rel => exact ⟨9, by omega, by first | rfl | go_num, HN2, BK, HB⟩
                  case measure => simp [intOf]
              · have hix := sign_ix9
                by_cases hg : Go.Lib.hasPrefix a0.data.toList [45] = true
                · have HG2 := Aside0.mk (show strings_HasPrefix.f a0 (⟨#[45]⟩ : ByteArray) = some true from congrArg some hg)
                  have HE := (if_pos hg).symm.trans HSm.out
                  clear hg HSm
                  simp only [Prod.mk.injEq] at HE
                  obtain ⟨rfl, rfl, rfl, rfl, rfl⟩ := HE
                  go_wp2_with (go_at_call 28; fail)
                  first | refine (strings_HasPrefix.calls a0 (⟨#[45]⟩ : ByteArray) true _ HG2.out).mono ?_ | refine (strings_HasPrefix.calls a0 (⟨#[45]⟩ : ByteArray) true _ HG2.out).mono ?_
                  rintro e w4 ⟨rfl, hb⟩
                  replace hb := hb.below
                  obtain ⟨bk, hbb⟩ := keepB BK.out HB.out hb
                  clear BK HB hb
                  have BK := Aside0.mk bk
                  have HB := Aside0.mk hbb
                  clear bk hbb
                  have hz0 : w4.cell? ⟨w.heap.size, 0, none⟩ = some (.int .i64 0) := (blk_cell BK.out 0).trans rfl
                  have hz1 : w4.cell? ⟨w.heap.size, 1, none⟩ = some (.int .i64 0) := (blk_cell BK.out 1).trans rfl
                  have hz2 : w4.cell? ⟨w.heap.size, 2, none⟩ = some (.string (⟨#[]⟩ : ByteArray)) := (blk_cell BK.out 2).trans rfl
                  have hf0 := blk_frozen BK.out 0
                  have hf1 := blk_frozen BK.out 1
                  have hf2 := blk_frozen BK.out 2
                  go_wp2
                  refine bodyPost_ret (results_ctt rfl _ _ w.heap.size 41 #[.int .i64 (5), .int .i64 (0), .string ((⟨#[45]⟩ : ByteArray))] (0, 0) _ rfl q4_ Tryd.underlying41 rfl (by kernel_rfl)) rfl ?_
                  exact ⟨rfl, ((HB.out.setCell (Nat.le_refl _) _).setCell (Nat.le_refl _) _).setCell (Nat.le_refl _) _⟩
                · have HG2 := Aside0.mk (show strings_HasPrefix.f a0 (⟨#[45]⟩ : ByteArray) = some false from congrArg some (Bool.eq_false_iff.mpr hg))
                  have HE : signOf a0 (signs.drop 10) = (r1, r2, r3, r4, r5) := (if_neg hg).symm.trans HSm.out
                  have HN2 := Aside0.mk HE
                  clear hg HSm HE
                  go_wp2_with (go_at_call 28; fail)
                  first | refine (strings_HasPrefix.calls a0 (⟨#[45]⟩ : ByteArray) false _ HG2.out).mono ?_ | refine (strings_HasPrefix.calls a0 (⟨#[45]⟩ : ByteArray) false _ HG2.out).mono ?_
                  rintro e w4 ⟨rfl, hb⟩
                  replace hb := hb.below
                  obtain ⟨bk, hbb⟩ := keepB BK.out HB.out hb
                  clear BK HB hb
                  have BK := Aside0.mk bk
                  have HB := Aside0.mk hbb
                  clear bk hbb
                  go_wp2
                  go_roundw
                  case rel => exact ⟨10, by omega, by first | rfl | go_num, HN2, BK, HB⟩
                  case measure => simp [intOf]
              · have hix := sign_ix10
                by_cases hg : Go.Lib.hasPrefix a0.data.toList [61] = true
                · have HG2 := Aside0.mk (show strings_HasPrefix.f a0 (⟨#[61]⟩ : ByteArray) = some true from congrArg some hg)
                  have HE := (if_pos hg).symm.trans HSm.out
                  clear hg HSm
                  simp only [Prod.mk.injEq] at HE
                  obtain ⟨rfl, rfl, rfl, rfl, rfl⟩ := HE
                  go_wp2_with (go_at_call 28; fail)
                  first | refine (strings_HasPrefix.calls a0 (⟨#[61]⟩ : ByteArray) true _ HG2.out).mono ?_ | refine (strings_HasPrefix.calls a0 (⟨#[61]⟩ : ByteArray) true _ HG2.out).mono ?_
                  rintro e w4 ⟨rfl, hb⟩
                  replace hb := hb.below
                  obtain ⟨bk, hbb⟩ := keepB BK.out HB.out hb
                  clear BK HB hb
                  have BK := Aside0.mk bk
                  have HB := Aside0.mk hbb
                  clear bk hbb
                  have hz0 : w4.cell? ⟨w.heap.size, 0, none⟩ = some (.int .i64 0) := (blk_cell BK.out 0).trans rfl
                  have hz1 : w4.cell? ⟨w.heap.size, 1, none⟩ = some (.int .i64 0) := (blk_cell BK.out 1).trans rfl
                  have hz2 : w4.cell? ⟨w.heap.size, 2, none⟩ = some (.string (⟨#[]⟩ : ByteArray)) := (blk_cell BK.out 2).trans rfl
                  have hf0 := blk_frozen BK.out 0
                  have hf1 := blk_frozen BK.out 1
                  have hf2 := blk_frozen BK.out 2
                  go_wp2
                  refine bodyPost_ret (results_ctt rfl _ _ w.heap.size 41 #[.int .i64 (5), .int .i64 (0), .string ((⟨#[61]⟩ : ByteArray))] (0, 0) _ rfl q4_ Tryd.underlying41 rfl (by kernel_rfl)) rfl ?_
                  exact ⟨rfl, ((HB.out.setCell (Nat.le_refl _) _).setCell (Nat.le_refl _) _).setCell (Nat.le_refl _) _⟩
                · have HG2 := Aside0.mk (show strings_HasPrefix.f a0 (⟨#[61]⟩ : ByteArray) = some false from congrArg some (Bool.eq_false_iff.mpr hg))
                  have HE : signOf a0 (signs.drop 11) = (r1, r2, r3, r4, r5) := (if_neg hg).symm.trans HSm.out
                  have HN2 := Aside0.mk HE
                  clear hg HSm HE
                  go_wp2_with (go_at_call 28; fail)
                  first | refine (strings_HasPrefix.calls a0 (⟨#[61]⟩ : ByteArray) false _ HG2.out).mono ?_ | refine (strings_HasPrefix.calls a0 (⟨#[61]⟩ : ByteArray) false _ HG2.out).mono ?_
                  rintro e w4 ⟨rfl, hb⟩
                  replace hb := hb.below
                  obtain ⟨bk, hbb⟩ := keepB BK.out HB.out hb
                  clear BK HB hb
                  have BK := Aside0.mk bk
                  have HB := Aside0.mk hbb
                  clear bk hbb
                  go_wp2
                  go_roundw
                  case rel => exact ⟨11, by omega, by first | rfl | go_num, HN2, BK, HB⟩
                  case measure => simp [intOf]
              · have hix := sign_ix11
                by_cases hg : Go.Lib.hasPrefix a0.data.toList [60] = true
                · have HG2 := Aside0.mk (show strings_HasPrefix.f a0 (⟨#[60]⟩ : ByteArray) = some true from congrArg some hg)
                  have HE := (if_pos hg).symm.trans HSm.out
                  clear hg HSm
                  simp only [Prod.mk.injEq] at HE
                  obtain ⟨rfl, rfl, rfl, rfl, rfl⟩ := HE
                  go_wp2_with (go_at_call 28; fail)
                  first | refine (strings_HasPrefix.calls a0 (⟨#[60]⟩ : ByteArray) true _ HG2.out).mono ?_ | refine (strings_HasPrefix.calls a0 (⟨#[60]⟩ : ByteArray) true _ HG2.out).mono ?_
                  rintro e w4 ⟨rfl, hb⟩
                  replace hb := hb.below
                  obtain ⟨bk, hbb⟩ := keepB BK.out HB.out hb
                  clear BK HB hb
                  have BK := Aside0.mk bk
                  have HB := Aside0.mk hbb
                  clear bk hbb
                  have hz0 : w4.cell? ⟨w.heap.size, 0, none⟩ = some (.int .i64 0) := (blk_cell BK.out 0).trans rfl
                  have hz1 : w4.cell? ⟨w.heap.size, 1, none⟩ = some (.int .i64 0) := (blk_cell BK.out 1).trans rfl
                  have hz2 : w4.cell? ⟨w.heap.size, 2, none⟩ = some (.string (⟨#[]⟩ : ByteArray)) := (blk_cell BK.out 2).trans rfl
                  have hf0 := blk_frozen BK.out 0
                  have hf1 := blk_frozen BK.out 1
                  have hf2 := blk_frozen BK.out 2
                  go_wp2
                  refine bodyPost_ret (results_ctt rfl _ _ w.heap.size 41 #[.int .i64 (5), .int .i64 (0), .string ((⟨#[60]⟩ : ByteArray))] (0, 0) _ rfl q4_ Tryd.underlying41 rfl (by kernel_rfl)) rfl ?_
                  exact ⟨rfl, ((HB.out.setCell (Nat.le_refl _) _).setCell (Nat.le_refl _) _).setCell (Nat.le_refl _) _⟩
                · have HG2 := Aside0.mk (show strings_HasPrefix.f a0 (⟨#[60]⟩ : ByteArray) = some false from congrArg some (Bool.eq_false_iff.mpr hg))
                  have HE : signOf a0 (signs.drop 12) = (r1, r2, r3, r4, r5) := (if_neg hg).symm.trans HSm.out
                  have HN2 := Aside0.mk HE
                  clear hg HSm HE
                  go_wp2_with (go_at_call 28; fail)
                  first | refine (strings_HasPrefix.calls a0 (⟨#[60]⟩ : ByteArray) false _ HG2.out).mono ?_ | refine (strings_HasPrefix.calls a0 (⟨#[60]⟩ : ByteArray) false _ HG2.out).mono ?_
                  rintro e w4 ⟨rfl, hb⟩
                  replace hb := hb.below
                  obtain ⟨bk, hbb⟩ := keepB BK.out HB.out hb
                  clear BK HB hb
                  have BK := Aside0.mk bk
                  have HB := Aside0.mk hbb
                  clear bk hbb
                  go_wp2
                  go_roundw
                  case rel => exact ⟨12, by omega, by first | rfl | go_num, HN2, BK, HB⟩
                  case measure => simp [intOf]
              · have hix := sign_ix12
                by_cases hg : Go.Lib.hasPrefix a0.data.toList [62] = true
                · have HG2 := Aside0.mk (show strings_HasPrefix.f a0 (⟨#[62]⟩ : ByteArray) = some true from congrArg some hg)
                  have HE := (if_pos hg).symm.trans HSm.out
                  clear hg HSm
                  simp only [Prod.mk.injEq] at HE
                  obtain ⟨rfl, rfl, rfl, rfl, rfl⟩ := HE
                  go_wp2_with (go_at_call 28; fail)
                  first | refine (strings_HasPrefix.calls a0 (⟨#[62]⟩ : ByteArray) true _ HG2.out).mono ?_ | refine (strings_HasPrefix.calls a0 (⟨#[62]⟩ : ByteArray) true _ HG2.out).mono ?_
                  rintro e w4 ⟨rfl, hb⟩
                  replace hb := hb.below
                  obtain ⟨bk, hbb⟩ := keepB BK.out HB.out hb
                  clear BK HB hb
                  have BK := Aside0.mk bk
                  have HB := Aside0.mk hbb
                  clear bk hbb
                  have hz0 : w4.cell? ⟨w.heap.size, 0, none⟩ = some (.int .i64 0) := (blk_cell BK.out 0).trans rfl
                  have hz1 : w4.cell? ⟨w.heap.size, 1, none⟩ = some (.int .i64 0) := (blk_cell BK.out 1).trans rfl
                  have hz2 : w4.cell? ⟨w.heap.size, 2, none⟩ = some (.string (⟨#[]⟩ : ByteArray)) := (blk_cell BK.out 2).trans rfl
                  have hf0 := blk_frozen BK.out 0
                  have hf1 := blk_frozen BK.out 1
                  have hf2 := blk_frozen BK.out 2
                  go_wp2
                  refine bodyPost_ret (results_ctt rfl _ _ w.heap.size 41 #[.int .i64 (5), .int .i64 (0), .string ((⟨#[62]⟩ : ByteArray))] (0, 0) _ rfl q4_ Tryd.underlying41 rfl (by kernel_rfl)) rfl ?_
                  exact ⟨rfl, ((HB.out.setCell (Nat.le_refl _) _).setCell (Nat.le_refl _) _).setCell (Nat.le_refl _) _⟩
                · have HG2 := Aside0.mk (show strings_HasPrefix.f a0 (⟨#[62]⟩ : ByteArray) = some false from congrArg some (Bool.eq_false_iff.mpr hg))
                  have HE : signOf a0 (signs.drop 13) = (r1, r2, r3, r4, r5) := (if_neg hg).symm.trans HSm.out
                  have HN2 := Aside0.mk HE
                  clear hg HSm HE
                  go_wp2_with (go_at_call 28; fail)
                  first | refine (strings_HasPrefix.calls a0 (⟨#[62]⟩ : ByteArray) false _ HG2.out).mono ?_ | refine (strings_HasPrefix.calls a0 (⟨#[62]⟩ : ByteArray) false _ HG2.out).mono ?_
                  rintro e w4 ⟨rfl, hb⟩
                  replace hb := hb.below
                  obtain ⟨bk, hbb⟩ := keepB BK.out HB.out hb
                  clear BK HB hb
                  have BK := Aside0.mk bk
                  have HB := Aside0.mk hbb
                  clear bk hbb
                  go_wp2
                  go_roundw
                  case rel => exact ⟨13, by omega, by first | rfl | go_num, HN2, BK, HB⟩
                  case measure => simp [intOf]
              · have HE := HSm.out
                simp only [signs, List.drop_succ_cons, List.drop_zero, signOf, Prod.mk.injEq] at HE
                obtain ⟨rfl, rfl, rfl, rfl, rfl⟩ := HE
                have hz0 : wr.cell? ⟨w.heap.size, 0, none⟩ = some (.int .i64 0) := (blk_cell BK.out 0).trans rfl
                have hz1 : wr.cell? ⟨w.heap.size, 1, none⟩ = some (.int .i64 0) := (blk_cell BK.out 1).trans rfl
                have hz2 : wr.cell? ⟨w.heap.size, 2, none⟩ = some (.string (⟨#[]⟩ : ByteArray)) := (blk_cell BK.out 2).trans rfl
                have hf0 := blk_frozen BK.out 0
                have hf1 := blk_frozen BK.out 1
                have hf2 := blk_frozen BK.out 2
                go_wp2
                refine bodyPost_ret (results_ctt rfl _ _ w.heap.size 41 #[.int .i64 (0), .int .i64 (0), .string ((⟨#[]⟩ : ByteArray))] (0, 0) _ rfl (by refine blk_put (cs := #[.int .i64 (0), .int .i64 (0), .string (⟨#[]⟩ : ByteArray)]) ?_ 2 _ rfl; refine blk_put (cs := #[.int .i64 (0), .int .i64 0, .string (⟨#[]⟩ : ByteArray)]) ?_ 1 _ rfl; refine blk_put (cs := #[.int .i64 0, .int .i64 0, .string (⟨#[]⟩ : ByteArray)]) ?_ 0 _ rfl; exact BK.out) Tryd.underlying41 rfl (by kernel_rfl)) rfl ?_
                exact ⟨rfl, ((HB.out.setCell (Nat.le_refl _) _).setCell (Nat.le_refl _) _).setCell (Nat.le_refl _) _⟩


/-! ### lex_Scan: function 8 -/
def lex_Scan.l0 : Nat → ByteArray → List (S41) → Option ((List (S41)) × Int)
  | 0, _, _ => none
  | k + 1, x0, x4 => (strings_TrimLeft.f x0 (⟨#[32]⟩ : ByteArray)).bind fun t129 => (if t129.toList = ([] : List UInt8) then (some (x4, 0)) else ((lex_token.f k t129).bind fun bt130 => (if bt130.2.2.2.2 = 0 then (if x4.length < 4398046511104 then (if 0 ≤ bt130.2.2.2.1 then (if bt130.2.2.2.1 ≤ (t129.size : Int) then (lex_Scan.l0 k (t129.extract (bt130.2.2.2.1 : Int).toNat t129.size) (x4 ++ [(⟨bt130.1, bt130.2.1, bt130.2.2.1⟩ : S41)])) else (none)) else (none)) else (none)) else (some (([] : List (S41)), bt130.2.2.2.2)))))
def lex_Scan.f (k : Nat) (a0 : ByteArray) : Option ((List (S41)) × Int) := if (a0.size : Int) > 512 then (some (([] : List (S41)), 5)) else (lex_Scan.l0 k a0 ([] : List (S41)))
theorem lex_Scan.mono_l : ∀ k, (∀ y0 y1, LeO (lex_Scan.l0 k y0 y1) (lex_Scan.l0 (k + 1) y0 y1))
  | 0 => fun _ _ r h => by simp [lex_Scan.l0] at h
  | k + 1 => by
    have ih0 := lex_Scan.mono_l k
    · intro y0 y1
      unfold lex_Scan.l0
      repeat' first
      | (with_reducible exact ih0 _ _)
      | (with_reducible exact lex_token.mono _ _)
      | (with_reducible exact LeO.refl _)
      | (with_reducible exact LeO.none _)
      | (with_reducible refine LeO.ite ?_ ?_)
      | (with_reducible refine LeO.bind ?_ (fun _ => ?_))
      | exact ih0 _ _
      | exact lex_token.mono _ _
      | exact LeO.none _
      | refine LeO.ite ?_ ?_
      | refine LeO.bind ?_ (fun _ => ?_)
theorem lex_Scan.mono : ∀ a0 k, LeO (lex_Scan.f k a0) (lex_Scan.f (k + 1) a0) := by
  intro a0 k
  have ih0 := lex_Scan.mono_l k
  unfold lex_Scan.f
  repeat' first
      | (with_reducible exact ih0 _ _)
      | (with_reducible exact lex_token.mono _ _)
      | (with_reducible exact LeO.refl _)
      | (with_reducible exact LeO.none _)
      | (with_reducible refine LeO.ite ?_ ?_)
      | (with_reducible refine LeO.bind ?_ (fun _ => ?_))
      | exact ih0 _ _
      | exact lex_token.mono _ _
      | exact LeO.none _
      | refine LeO.ite ?_ ?_
      | refine LeO.bind ?_ (fun _ => ?_)
def lex_Scan.T10 : Bool × List (List Nat × List Nat) := (true, [([], []), ([], []), ([1], [1]), ([0, 2], [0, 2]), ([], []), ([], []), ([4, 5], [4, 5]), ([3, 3, 0, 1, 2, 3], [0, 3]), ([6, 7, 0, 1, 2, 3, 4, 5, 6, 7], [4, 6])])
def lex_Scan.B10 : List Nat := [0, 0, 2, 7, 0, 0, 48, 15, 255]
theorem lex_Scan.tab10 : rtab .any (opsOf Tryd.f8 10) = lex_Scan.T10 := by kernel_rfl
theorem lex_Scan.bits10 : waitsOk lex_Scan.T10.2 lex_Scan.B10 = true := by kernel_rfl
set_option maxHeartbeats 8000000 in
set_option maxRecDepth 100000 in
theorem lex_Scan.calls (k : Nat) (a0 : ByteArray) (r1 : List (S41)) (r2 : Int) (w : World) (h : lex_Scan.f k a0 = some (r1, r2)) (hG : Glob w) :
    Calls Tryd.prog 8 #[.string a0] w fun e w' => ∃ v0_ : Value, e = .returned (.tuple #[v0_, .int .i64 r2]) ∧ Kd.R k41 41 w' w.heap.size (fun _ => True) v0_ r1 ∧ Below w.heap.size w w' := by
  have hu41 := Tryd.underlying41
  have HG := Aside0.mk hG
  clear hG
  have HB := Aside0.mk (Below.refl w.heap.size w)
  have H : (if (a0.size : Int) > 512 then (some (([] : List (S41)), 5)) else (lex_Scan.l0 k a0 ([] : List (S41)))) = some (r1, r2) := h
  clear h
  by_cases c2 : (a0.size : Int) > 512
  · rw [if_pos c2] at H
    have c2b0 : decide (512 < (a0.size : Int)) = true := decide_eq_true c2
    have c2b1 : decide (512 < a0.size) = true := decide_eq_true (by omega)
    clear c2
    simp only [Option.some.injEq, Prod.mk.injEq] at H
    obtain ⟨rfl, rfl⟩ := H
    go_enter Tryd.func8, Tryd.ntmps8
    go_wp2
    go_ret2
    exact ⟨_, q3_, q29_, q0_⟩
  · rw [if_neg c2] at H
    have c2b0 : decide (512 < (a0.size : Int)) = false := decide_eq_false c2
    have c2b1 : decide (512 < a0.size) = false := decide_eq_false (by omega)
    clear c2
    have H' := Aside0.mk H
    clear H
    go_enter Tryd.func8, Tryd.ntmps8
    go_wp2
    go_loopg [0, 4] k (fun kq v0 v4 w' => ∃ (x0_1 : ByteArray) (x4_1 : List (S41)), v0 = .string x0_1 ∧ Aside0 (lex_Scan.l0 kq x0_1 x4_1 = some (r1, r2)) ∧ Aside0 (kq ≤ k) ∧ Aside0 (Kd.R k41 41 w' w.heap.size (fun _ => True) v4 x4_1) ∧ Aside0 (Below w.heap.size w w'))
    case atStart => exact ⟨(a0), (([] : List (S41))), q11_, H', ⟨Nat.le_refl _⟩, ⟨q29_⟩, ⟨q0_⟩⟩
    case round =>
      clear H'
      try clear c2
      try clear c2b0
      try clear c2b1
      try clear p2
      obtain ⟨x0_1, x4_1, rfl, HA, HK1, HO_4, HB⟩ := hrel
      cases gk with
      | zero => exact absurd HA.out (by simp [lex_Scan.l0])
      | succ k1 =>
        have H := HA.out
        clear HA
        simp only [lex_Scan.l0] at H
        replace H := Option.bind_eq_some_iff.mp H
        obtain ⟨t129, A30, H⟩ := H
        replace H : (if t129.toList = ([] : List UInt8) then (some (x4_1, 0)) else ((lex_token.f k1 t129).bind fun bt130 => (if bt130.2.2.2.2 = 0 then (if x4_1.length < 4398046511104 then (if 0 ≤ bt130.2.2.2.1 then (if bt130.2.2.2.1 ≤ (t129.size : Int) then (lex_Scan.l0 k1 (t129.extract (bt130.2.2.2.1 : Int).toNat t129.size) (x4_1 ++ [(⟨bt130.1, bt130.2.1, bt130.2.2.1⟩ : S41)])) else (none)) else (none)) else (none)) else (some (([] : List (S41)), bt130.2.2.2.2))))) = some (r1, r2) := H
        have A3 := Aside0.mk A30
        clear A30
        by_cases c4 : t129.toList = ([] : List UInt8)
        · rw [if_pos c4] at H
          have c4b0 : (t129.toList == ([] : List UInt8)) = true := beq_iff_eq.mpr c4
          have c4b1 : (t129.toList != ([] : List UInt8)) = false := bne_eq_false_iff_eq.mpr c4
          clear c4
          simp only [Option.some.injEq, Prod.mk.injEq] at H
          obtain ⟨rfl, rfl⟩ := H
          go_wp2_with (first | ((with_reducible refine gate_callee (f := 15) rfl ?_); refine goesL_ (some 12) rfl rfl Tryd.func15 (by kernel_rfl) rfl #[.string x0_1, .string (⟨#[32]⟩ : ByteArray)] rfl q2_ ?_; (with_reducible refine (strings_TrimLeft.calls x0_1 (⟨#[32]⟩ : ByteArray) t129 _ A3.out).mono ?_); rintro e w' ⟨rfl, ⟨nd, rfl⟩⟩; refine ⟨_, rfl, ?_⟩))
          go_ret2
          exact ⟨_, q3_, q17_, q0_⟩
        · rw [if_neg c4] at H
          have c4b0 : (t129.toList == ([] : List UInt8)) = false := beq_eq_false_iff_ne.mpr c4
          have c4b1 : (t129.toList != ([] : List UInt8)) = true := bne_iff_ne.mpr c4
          replace H := Option.bind_eq_some_iff.mp H
          obtain ⟨⟨t130, t131, t132, t133, t134⟩, A50, H⟩ := H
          replace H : (if t134 = 0 then (if x4_1.length < 4398046511104 then (if 0 ≤ t133 then (if t133 ≤ (t129.size : Int) then (lex_Scan.l0 k1 (t129.extract (t133 : Int).toNat t129.size) (x4_1 ++ [(⟨t130, t131, t132⟩ : S41)])) else (none)) else (none)) else (none)) else (some (([] : List (S41)), t134))) = some (r1, r2) := H
          have A5 := Aside0.mk A50
          clear A50
          by_cases c6 : t134 = 0
          · rw [if_pos c6] at H
            have c6b0 : (t134 == 0) = true := beq_iff_eq.mpr c6
            have c6b1 : (t134 != 0) = false := bne_eq_false_iff_eq.mpr c6
            clear c6
            by_cases c7 : x4_1.length < 4398046511104
            · rw [if_pos c7] at H
              have LMc7 := Aside0.mk c7
              clear c7
              obtain ⟨y136, hy136⟩ : ∃ y_ : List (S41), y_ = (x4_1 ++ [(⟨t130, t131, t132⟩ : S41)]) := ⟨_, rfl⟩
              replace H : (if 0 ≤ t133 then (if t133 ≤ (t129.size : Int) then (lex_Scan.l0 k1 (t129.extract (t133 : Int).toNat t129.size) y136) else (none)) else (none)) = some (r1, r2) := by first | (rw [hy136]; with_reducible exact H) | (have H2_ := (Option.bind_some _ _).symm.trans H; rw [hy136]; with_reducible exact H2_) | (have H2_ := (Option.bind_some _ _).symm.trans H; with_reducible exact H2_) | with_reducible exact H | (rw [hy136]; exact H) | exact H
              have Ny136 := Aside0.mk hy136
              clear hy136
              by_cases c8 : 0 ≤ t133
              · rw [if_pos c8] at H
                have c8b0 := eq_true c8
                have c8b1 : decide (0 ≤ t133) = true := decide_eq_true c8
                clear c8
                by_cases c9 : t133 ≤ (t129.size : Int)
                · rw [if_pos c9] at H
                  have c9b0 := eq_true c9
                  have c9b1 : decide (t133 ≤ (t129.size : Int)) = true := decide_eq_true c9
                  clear c9
                  have H' := Aside0.mk H
                  clear H
                  try go_wp2_with (first | ((with_reducible refine gate_callee (f := 15) rfl ?_); refine goesL_ (some 12) rfl rfl Tryd.func15 (by kernel_rfl) rfl #[.string x0_1, .string (⟨#[32]⟩ : ByteArray)] rfl q2_ ?_; (with_reducible refine (strings_TrimLeft.calls x0_1 (⟨#[32]⟩ : ByteArray) t129 _ A3.out).mono ?_); rintro e w' ⟨rfl, ⟨nd, rfl⟩⟩; refine ⟨_, rfl, ?_⟩; (try (rw [drewN_self wr]; generalize hq_ : World.drewN wr _ = wr; have n0_ : Aside0 (Kd.R k41 41 wr w.heap.size (fun _ => True) u4 x4_1) := ⟨by rw [← hq_]; exact q17_⟩; have n1_ : Aside0 (Below w.heap.size w wr) := ⟨q38_⟩; clear HO_4 HB hq_; have HO_4 := n0_; have HB := n1_; clear n0_ n1_))) | ((with_reducible refine gate_callee (f := 16) rfl ?_); refine goesL_ (some 18) rfl rfl Tryd.func16 (by kernel_rfl) rfl #[.string t129] rfl q2_ ?_; (with_reducible refine (lex_token.calls k1 t129 t130 t131 t132 t133 t134 _ A5.out q8_).mono ?_); rintro e w10 ⟨rfl, hb⟩; refine ⟨_, rfl, ?_⟩; have n0_ := Aside0.mk (Kd.R_below q17_ hb); have n1_ := Aside0.mk (below_step q0_ hb); clear HO_4; clear HB; have HO_4 := n0_; have HB := n1_; clear n0_ n1_; (try clear hb); (try clear hb2); (try clear hk); (try clear hi)) | ((with_reducible refine gate_dst (N := 5) rfl ?_); refine box_event ?hg (N := 5) ?hd (cs := #[.int .i64 0, .int .i64 0, .string (⟨#[]⟩ : ByteArray)]) (t := 41) ?hr ?_; (case hd => rfl); (case hg => rfl); (case hr => first | (go_simp; done) | (go_simp; rfl)); intro gb135 hg w11 hbox hb; have n0_ := Aside0.mk (Kd.R_below (Kd.R_elderB q17_ gb135 (Nat.le_of_eq hg.symm)) hb); have n1_ := Aside0.mk (below_step q0_ hb); have n2_ := Aside0.mk (hbox); have n3_ := Aside0.mk ((q1_ : w.heap.size ≤ gb135)); have n4_ := Aside0.mk ((q1_ : w.heap.size ≤ gb135)); clear HO_4; clear HB; have HO_4 := n0_; have HB := n1_; have BK135 := n2_; have GW135 := n3_; have GE135 := n4_; clear n0_ n1_ n2_ n3_ n4_; clear hb hbox hg; have hcz12_0 : w11.cell? ⟨gb135, 0, none⟩ = some (.int .i64 0) := (blk_cell BK135.out 0).trans rfl; have hcz12_1 : w11.cell? ⟨gb135, 1, none⟩ = some (.int .i64 0) := (blk_cell BK135.out 1).trans rfl; have hcz12_2 : w11.cell? ⟨gb135, 2, none⟩ = some (.string (⟨#[]⟩ : ByteArray)) := (blk_cell BK135.out 2).trans rfl; have hfz12_0 := blk_frozen BK135.out 0; have hfz12_1 := blk_frozen BK135.out 1; have hfz12_2 := blk_frozen BK135.out 2))
                  have n0_ : Aside0 (Kd.R k41 41 (((w11.setCell ⟨gb135, 0, none⟩ (.int .i64 t130)).setCell ⟨gb135, 1, none⟩ (.int .i64 t131)).setCell ⟨gb135, 2, none⟩ (.string t132)) w.heap.size (fun k_ => k_ ≠ gb135) u4 x4_1) := ⟨by (with_reducible repeat (first | apply Kd.R_alloc | apply Kd.R_drewN | apply Kd.R_drew)); exact Kd.R_mono (Kd.R_far (p := ⟨gb135, 2, none⟩) (Kd.R_far (p := ⟨gb135, 1, none⟩) (Kd.R_far (p := ⟨gb135, 0, none⟩) (Kd.R_mono HO_4.out (fun k_ hk => (⟨hk, hk.2⟩ : _ ∧ k_ ≠ gb135))) (fun _ hk => hk.2) (.int .i64 t130)) (fun _ hk => hk.2) (.int .i64 t131)) (fun _ hk => hk.2) (.string t132)) (fun _ hk => hk.1.2)⟩
                  have n1_ : Aside0 ((((w11.setCell ⟨gb135, 0, none⟩ (.int .i64 t130)).setCell ⟨gb135, 1, none⟩ (.int .i64 t131)).setCell ⟨gb135, 2, none⟩ (.string t132)).heap[gb135]? = some (.cells #[.int .i64 t130, .int .i64 t131, .string t132] 41 (0, 0))) := ⟨by (with_reducible repeat first | apply bN_ | apply bD_ | apply bA_); refine blk_put (cs := #[.int .i64 t130, .int .i64 t131, .string (⟨#[]⟩ : ByteArray)]) ?_ 2 _ rfl; (with_reducible repeat first | apply bN_ | apply bD_ | apply bA_); refine blk_put (cs := #[.int .i64 t130, .int .i64 0, .string (⟨#[]⟩ : ByteArray)]) ?_ 1 _ rfl; (with_reducible repeat first | apply bN_ | apply bD_ | apply bA_); refine blk_put (cs := #[.int .i64 0, .int .i64 0, .string (⟨#[]⟩ : ByteArray)]) ?_ 0 _ rfl; (with_reducible repeat first | apply bN_ | apply bD_ | apply bA_); exact BK135.out⟩
                  have n2_ : Aside0 (Below w.heap.size w (((w11.setCell ⟨gb135, 0, none⟩ (.int .i64 t130)).setCell ⟨gb135, 1, none⟩ (.int .i64 t131)).setCell ⟨gb135, 2, none⟩ (.string t132))) := ⟨q0_⟩
                  (try clear HO_4)
                  (try clear BK135)
                  (try clear HB)
                  generalize (((w11.setCell ⟨gb135, 0, none⟩ (.int .i64 t130)).setCell ⟨gb135, 1, none⟩ (.int .i64 t131)).setCell ⟨gb135, 2, none⟩ (.string t132)) = w13 at n0_ n1_ n2_ ⊢
                  have HO_4 := n0_
                  have BK135 := n1_
                  have HB := n2_
                  clear n0_ n1_ n2_
                  have n0_ := Aside0.mk (Kd.R_drew HO_4.out)
                  have n1_ := Aside0.mk (blk_drew BK135.out)
                  have n2_ := Aside0.mk (below_drew1 HB.out)
                  clear HO_4
                  clear BK135
                  clear HB
                  have HO_4 := n0_
                  have BK135 := n1_
                  have HB := n2_
                  clear n0_ n1_ n2_
                  refine start_ (n := 9) (S := fun w' => w'.cell? ⟨gb135, 0, none⟩ = some (.int .i64 t130) ∧ w'.cell? ⟨gb135, 1, none⟩ = some (.int .i64 t131) ∧ w'.cell? ⟨gb135, 2, none⟩ = some (.string t132)) (ds := []) #[false, false, false, false, false, false, false, false, false] (by kernel_rfl) rfl rfl ⟨(blk_cell BK135.out 0).trans rfl, (blk_cell BK135.out 1).trans rfl, (blk_cell BK135.out 2).trans rfl⟩ (fun hHeld => ?_); refine with_tabW lex_Scan.tab10 lex_Scan.bits10 (fun HT_ HW_ => ?_)
                  generalize w13.drew = w14 at HO_4 BK135 HB hHeld ⊢
                  refine pure_ (i := 0) (N := some 25) (v := ?_) (a' := ?_) #[true, false, false, false, false, false, false, false, false] rfl rfl (any_of HT_.out (by kernel_rfl)) (fun _ _ _ h => h) (Or.inl ⟨by rfl, ?_⟩) ?_ ?_
                  rotate_left
                  · intro w'
                    go_simp
                    with_reducible rfl
                  rotate_left
                  · simp only [Act.put, List.setIfInBounds_toArray, List.set_cons_zero, List.set_cons_succ, i64_w, i32_w]
                    rfl
                  refine pure_ (i := 4) (N := some 29) (v := ?_) (a' := ?_) #[true, false, false, false, true, false, false, false, false] rfl rfl (any_of HT_.out (by kernel_rfl)) (fun _ _ _ h => h) (Or.inl ⟨by rfl, ?_⟩) ?_ ?_
                  rotate_left
                  · intro w'
                    go_simp
                    with_reducible rfl
                  rotate_left
                  · simp only [Act.put, List.setIfInBounds_toArray, List.set_cons_zero, List.set_cons_succ, i64_w, i32_w]
                    rfl
                  refine pure_ (i := 5) (N := some 30) (v := ?_) (a' := ?_) #[true, false, false, false, true, true, false, false, false] rfl rfl (any_of HT_.out (by kernel_rfl)) (fun _ _ _ h => h) (Or.inl ⟨by rfl, ?_⟩) ?_ ?_
                  rotate_left
                  · intro w'
                    go_simp
                    with_reducible rfl
                  rotate_left
                  · simp only [Act.put, List.setIfInBounds_toArray, List.set_cons_zero, List.set_cons_succ, i64_w, i32_w]
                    rfl
                  refine pure_ (i := 6) (N := some 31) (v := ?_) (a' := ?_) #[true, false, false, false, true, true, true, false, false] rfl rfl (any_of HT_.out (by kernel_rfl)) (fun _ _ _ h => h) (Or.inl ⟨by rfl, ?_⟩) ?_ ?_
                  rotate_left
                  · intro w'
                    go_simp
                    with_reducible rfl
                  rotate_left
                  · simp only [Act.put, List.setIfInBounds_toArray, List.set_cons_zero, List.set_cons_succ, i64_w, i32_w]
                    rfl
                  refine take_ (i := 1) (N := some 26) (v := ?_) (a' := ?_) #[true, true, false, false, true, true, true, false, false] rfl rfl (take_ofW HT_.out HW_.out (by kernel_rfl)) (fun _ _ _ h => h) (Or.inl ⟨by rfl, ?_⟩) hHeld ?_ ?_
                  rotate_left
                  · rintro w' ⟨s0, s1, s2⟩
                    go_simp
                    with_reducible rfl
                  rotate_left
                  · simp only [Act.put, List.setIfInBounds_toArray, List.set_cons_zero, List.set_cons_succ, i64_w, i32_w]
                    rfl
                  refine one_ (i := 2) (N := some 27) #[true, true, true, false, true, true, true, false, false] rfl rfl (one_of HT_.out (by kernel_rfl)) (by decide) (fun K hK => ?_)
                  refine value_ (w1 := ?_) (v := ?_) (by rfl) rfl ?_ ?_
                  rotate_left 2
                  · go_simp
                    constructor
                    · rfl
                    · rfl
                  refine hK.out _ _ ⟨(blk_cell (blk_alloc BK135.out _) 0).trans rfl, (blk_cell (blk_alloc BK135.out _) 1).trans rfl, (blk_cell (blk_alloc BK135.out _) 2).trans rfl⟩ (fun hHeld => ?_)
                  clear hK K
                  refine norm_ (a' := ?_) ?_ ?_
                  rotate_left
                  · show Act.put _ (some 27) _ = _
                    simp only [Act.put, List.setIfInBounds_toArray, List.set_cons_zero, List.set_cons_succ, i64_w, i32_w]
                    rfl
                  refine one_ (i := 3) (N := some 28) #[true, true, true, true, true, true, true, false, false] rfl rfl (one_of HT_.out (by kernel_rfl)) (by decide) (fun K hK => ?_)
                  refine Kd.R_append_step k41 (w0 := w) w.heap.size (by rfl) (.tmp 25) (.tmp 27) 23 41 (.agg #[(.int .i64 0), (.int .i64 0), (.string ⟨#[]⟩)]) 32 rfl Tryd.underlying23 info41 rfl (by decide) (by omega) u4 x4_1 (⟨t130, t131, t132⟩ : S41) [.int .i64 t130, .int .i64 t131, .string t132] (fun k_ => k_ ≠ gb135) (fun _ => False) rfl rfl ?aP (fun _ hk => hk.elim) ?aF ?aO ?aB ?aS ?aL ?_
                  (case aP => exact k41_mkM _ _ _ (⟨t130, t131, t132⟩ : S41))
                  (case aB => exact q0_)
                  (case aF => exact (fun k_ hk => Kd.freshB (g := gb135) (o := .cells #[.int .i64 t130, .int .i64 t131, .string t132] 41 (0, 0)) (by (with_reducible repeat first | apply bN_ | apply bD_ | apply bA_); exact BK135.out) k_ hk))
                  (case aO => exact q17_)
                  (case aS => exact (below_size q0_))
                  (case aL => have := LMc7.out; omega)
                  intro v137 w15 ho hb hg hat
                  rw [← Ny136.out] at ho
                  have n0_ := Aside0.mk (blk_grown (g := gb135) (o := .cells #[.int .i64 t130, .int .i64 t131, .string t132] 41 (0, 0)) (by (with_reducible repeat first | apply bN_ | apply bD_ | apply bA_); exact BK135.out) hg (Kd.R_away HO_4.out (fun _ hk => hk)))
                  have n1_ := Aside0.mk (hb)
                  have n2_ := Aside0.mk (ho)
                  clear BK135
                  clear HB
                  clear HO_4
                  have BK135 := n0_
                  have HB := n1_
                  have HO138 := n2_
                  clear n0_ n1_ n2_
                  clear ho hb hg hat
                  refine hK.out _ _ ⟨(blk_cell BK135.out 0).trans rfl, (blk_cell BK135.out 1).trans rfl, (blk_cell BK135.out 2).trans rfl⟩ (fun hHeld => ?_)
                  clear hK K
                  refine norm_ (a' := ?_) ?_ ?_
                  rotate_left
                  · show Act.put _ (some 28) _ = _
                    simp only [Act.put, List.setIfInBounds_toArray, List.set_cons_zero, List.set_cons_succ, i64_w, i32_w]
                    rfl
                  refine pure_ (i := 7) (N := some 4) (v := ?_) (a' := ?_) #[true, true, true, true, true, true, true, true, false] rfl rfl (any_of HT_.out (by kernel_rfl)) (fun _ _ _ h => h) (Or.inl ⟨by rfl, ?_⟩) ?_ ?_
                  rotate_left
                  · intro w'
                    go_simp
                    with_reducible rfl
                  rotate_left
                  · simp only [Act.put, List.setIfInBounds_toArray, List.set_cons_zero, List.set_cons_succ, i64_w, i32_w]
                    rfl
                  refine pure_ (i := 8) (N := some 0) (v := ?_) (a' := ?_) #[true, true, true, true, true, true, true, true, true] rfl rfl (any_of HT_.out (by kernel_rfl)) (fun _ _ _ h => h) (Or.inl ⟨by rfl, ?_⟩) ?_ ?_
                  rotate_left
                  · intro w'
                    go_simp
                    with_reducible rfl
                  rotate_left
                  · simp only [Act.put, List.setIfInBounds_toArray, List.set_cons_zero, List.set_cons_succ, i64_w, i32_w]
                    rfl
                  refine done_ (done_of HT_.out (by kernel_rfl)) ?_
                  try go_wp2
                  go_roundg k1
                  case measure => have := HK1.out; omega
                  case rel => exact ⟨(t129.extract (t133 : Int).toNat t129.size), (y136), q11_, H', ⟨by have := HK1.out; omega⟩, ⟨by (with_reducible repeat (first | apply Kd.R_alloc | apply Kd.R_drewN | apply Kd.R_drew)); exact Kd.R_mono HO138.out (fun _ hk => trivial)⟩, ⟨q0_⟩⟩
                · rw [if_neg c9] at H
                  exact absurd H (by simp)
              · rw [if_neg c8] at H
                exact absurd H (by simp)
            · rw [if_neg c7] at H
              exact absurd H (by simp)
          · rw [if_neg c6] at H
            have c6b0 : (t134 == 0) = false := beq_eq_false_iff_ne.mpr c6
            have c6b1 : (t134 != 0) = true := bne_iff_ne.mpr c6
            simp only [Option.some.injEq, Prod.mk.injEq] at H
            obtain ⟨rfl, rfl⟩ := H
            go_wp2_with (first | ((with_reducible refine gate_callee (f := 15) rfl ?_); refine goesL_ (some 12) rfl rfl Tryd.func15 (by kernel_rfl) rfl #[.string x0_1, .string (⟨#[32]⟩ : ByteArray)] rfl q2_ ?_; (with_reducible refine (strings_TrimLeft.calls x0_1 (⟨#[32]⟩ : ByteArray) t129 _ A3.out).mono ?_); rintro e w' ⟨rfl, ⟨nd, rfl⟩⟩; refine ⟨_, rfl, ?_⟩; (try (rw [drewN_self wr]; generalize hq_ : World.drewN wr _ = wr; have n0_ : Aside0 (Kd.R k41 41 wr w.heap.size (fun _ => True) u4 x4_1) := ⟨by rw [← hq_]; exact q17_⟩; have n1_ : Aside0 (Below w.heap.size w wr) := ⟨q38_⟩; clear HO_4 HB hq_; have HO_4 := n0_; have HB := n1_; clear n0_ n1_))) | ((with_reducible refine gate_callee (f := 16) rfl ?_); refine goesL_ (some 18) rfl rfl Tryd.func16 (by kernel_rfl) rfl #[.string t129] rfl q2_ ?_; (with_reducible refine (lex_token.calls k1 t129 t130 t131 t132 t133 t134 _ A5.out q8_).mono ?_); rintro e w16 ⟨rfl, hb⟩; refine ⟨_, rfl, ?_⟩; have n0_ := Aside0.mk (Kd.R_below q17_ hb); have n1_ := Aside0.mk (below_step q0_ hb); clear HO_4; clear HB; have HO_4 := n0_; have HB := n1_; clear n0_ n1_; (try clear hb); (try clear hb2); (try clear hk); (try clear hi)) | ((with_reducible refine gate_dst (N := 5) rfl ?_); refine box_event ?hg (N := 5) ?hd (cs := #[.int .i64 0, .int .i64 0, .string (⟨#[]⟩ : ByteArray)]) (t := 41) ?hr ?_; (case hd => rfl); (case hg => rfl); (case hr => first | (go_simp; done) | (go_simp; rfl)); intro gb135 hg w17 hbox hb; have n0_ := Aside0.mk (Kd.R_below (Kd.R_elderB q17_ gb135 (Nat.le_of_eq hg.symm)) hb); have n1_ := Aside0.mk (below_step q0_ hb); have n2_ := Aside0.mk (hbox); have n3_ := Aside0.mk ((q1_ : w.heap.size ≤ gb135)); have n4_ := Aside0.mk ((q1_ : w.heap.size ≤ gb135)); clear HO_4; clear HB; have HO_4 := n0_; have HB := n1_; have BK135 := n2_; have GW135 := n3_; have GE135 := n4_; clear n0_ n1_ n2_ n3_ n4_; clear hb hbox hg; have hcz18_0 : w17.cell? ⟨gb135, 0, none⟩ = some (.int .i64 0) := (blk_cell BK135.out 0).trans rfl; have hcz18_1 : w17.cell? ⟨gb135, 1, none⟩ = some (.int .i64 0) := (blk_cell BK135.out 1).trans rfl; have hcz18_2 : w17.cell? ⟨gb135, 2, none⟩ = some (.string (⟨#[]⟩ : ByteArray)) := (blk_cell BK135.out 2).trans rfl; have hfz18_0 := blk_frozen BK135.out 0; have hfz18_1 := blk_frozen BK135.out 1; have hfz18_2 := blk_frozen BK135.out 2))
            go_ret2
            exact ⟨_, q3_, q29_, q0_⟩

end Go.Proofs.YtjcjndpfihchnaaDoor.P
