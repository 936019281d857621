-- Written by our own program (wip/xprint) over the seat's translation. Lean checks it.
import Derived.Test.YtjcjndpfihchnaaDoorPx0
import Derived.Test.YtjcjndpfihchnaaDoorPx1
namespace Go.Proofs.YtjcjndpfihchnaaDoor.P
open Go.RowKit Go.Proofs.YtjcjndpfihchnaaDoorW.PrintWords Go.Proofs.YtjcjndpfihchnaaDoorW.PrintLast Go.Proofs.YtjcjndpfihchnaaDoorW.PrintMore
attribute [local go_sem] max2_int min2_mn max_two min_two max_three min_three max_four min_four   -- for this text's walks alone
set_option linter.unusedVariables false
set_option linter.unusedSimpArgs false


/-! ### strconv_FormatBool_41: function 41 -/
def strconv_FormatBool_41.f (a0 : Bool) : Option (ByteArray) := if a0 = true then (some (⟨#[116, 114, 117, 101]⟩ : ByteArray)) else (some (⟨#[102, 97, 108, 115, 101]⟩ : ByteArray))
set_option maxHeartbeats 8000000 in
set_option maxRecDepth 100000 in
theorem strconv_FormatBool_41.calls (a0 : Bool) (r : ByteArray) (w : World) (h : strconv_FormatBool_41.f a0 = some r) :
    Calls Tryd.prog 41 #[.bool a0] w fun e w' => e = .returned (.string r) ∧ Drawn0 w w' := by
  have H : (if a0 = true then (some (⟨#[116, 114, 117, 101]⟩ : ByteArray)) else (some (⟨#[102, 97, 108, 115, 101]⟩ : ByteArray))) = some r := h
  clear h
  by_cases c2 : a0 = true
  · subst c2
    replace H := ifT_ H
    obtain rfl := Option.some.inj H
    go_enter Tryd.func41, Tryd.ntmps41
    go_wp2
    go_ret
    exact ⟨q11_, q16_⟩
  · replace c2 := Bool.eq_false_iff.mpr c2
    subst c2
    replace H := ifF_ H
    obtain rfl := Option.some.inj H
    go_enter Tryd.func41, Tryd.ntmps41
    go_wp2
    go_ret
    exact ⟨q11_, q16_⟩


/-! ### strconv_FormatBool_19: function 19 -/
def strconv_FormatBool_19.f (a0 : Bool) : Option (ByteArray) := (strconv_FormatBool_41.f a0).bind fun t146 => (some t146)
set_option maxHeartbeats 8000000 in
set_option maxRecDepth 100000 in
theorem strconv_FormatBool_19.calls (a0 : Bool) (r : ByteArray) (w : World) (h : strconv_FormatBool_19.f a0 = some r) :
    Calls Tryd.prog 19 #[.bool a0] w fun e w' => e = .returned (.string r) ∧ Drawn0 w w' := by
  have H : ((strconv_FormatBool_41.f a0).bind fun t146 => (some t146)) = some r := h
  clear h
  replace H := Option.bind_eq_some_iff.mp H
  obtain ⟨t146, A20, H⟩ := H
  replace H : (some t146) = some r := H
  have A2 := Aside0.mk A20
  clear A20
  obtain rfl := Option.some.inj H
  go_enter Tryd.func19, Tryd.ntmps19
  go_wp2_with (first | ((with_reducible refine gate_callee (f := 41) rfl ?_); refine goesL_ (some 4) rfl rfl Tryd.func41 (by kernel_rfl) rfl #[.bool a0] rfl q2_ ?_; (with_reducible refine (strconv_FormatBool_41.calls a0 t146 _ A2.out).mono ?_); rintro e w' ⟨rfl, ⟨nd, rfl⟩⟩; refine ⟨_, rfl, ?_⟩))
  go_ret
  exact ⟨q11_, q16_⟩


/-! ### strconv_Itoa_20: function 20 -/
-- SUPPLIED (wip/xprint)
/-- A number's decimal numeral. By the kit's contract (Lib.itoa). -/
def strconv_Itoa_20.f (a0 : Int) : Option (ByteArray) := if -9223372036854775808 ≤ a0 ∧ a0 ≤ 9223372036854775807 then some ⟨(Go.Lib.itoa a0).toArray⟩ else none
theorem strconv_Itoa_20.calls (a0 : Int) (r : ByteArray) (w : World) (h : strconv_Itoa_20.f a0 = some r) (hG : Glob w) :
    Calls Tryd.prog 20 #[.int .i64 a0] w fun e w' => e = .returned (.string r) ∧ Below w.heap.size w w' := by
  unfold strconv_Itoa_20.f at h
  split at h
  · rename_i hs
    obtain rfl := Option.some.inj h
    refine (Any.strconv_Itoa { Tryd.laysItoa with } a0 hs.1 hs.2 w hG.pow10).mono ?_
    rintro e w' ⟨rfl, k, os, rfl⟩
    exact ⟨rfl, rfl, rfl, rfl, (by show w.heap.size ≤ (w.heap ++ os).size; rw [Array.size_append]; omega), fun j hj => (show (w.heap ++ os)[j]? = w.heap[j]? from Array.getElem?_append_left hj)⟩
  · exact absurd h (by simp)


/-! ### strings_ReplaceAll: function 21 -/
-- SUPPLIED (wip/xprint)
/-- Each place of a text in a text replaced. By the kit's contract (Lib.replaceAll). -/
def strings_ReplaceAll.f (a0 : ByteArray) (a1 : ByteArray) (a2 : ByteArray) : Option (ByteArray) := if a0.size < 1000000 ∧ 1 ≤ a1.size ∧ a0.size + Go.Lib.countB a0 a1 * a2.size ≤ 1000000 then some ⟨(Go.Lib.replaceAll a0.data.toList a1.data.toList a2.data.toList).toArray⟩ else none
theorem strings_ReplaceAll.calls (a0 : ByteArray) (a1 : ByteArray) (a2 : ByteArray) (r : ByteArray) (w : World) (h : strings_ReplaceAll.f a0 a1 a2 = some r) (hG : Glob w) :
    Calls Tryd.prog 21 #[.string a0, .string a1, .string a2] w fun e w' => e = .returned (.string r) ∧ Below w.heap.size w w' := by
  unfold strings_ReplaceAll.f at h
  split at h
  · rename_i hs
    obtain rfl := Option.some.inj h
    obtain ⟨m, hm⟩ := hG.maxlen
    exact Any.strings_ReplaceAll { Tryd.laysReplace with } Tryd.extraReplace a0 a1 a2 m w (by omega) hm hs.2.1 (by omega)
  · exact absurd h (by simp)


/-! ### value_Show: function 13 -/
def hxTab : List UInt8 := [48, 49, 50, 51, 52, 53, 54, 55, 56, 57, 97, 98, 99, 100, 101, 102]
def hxd (n : Nat) : UInt8 := hxTab.getD n 0
def hexL : List UInt8 → List UInt8
  | [] => []
  | c :: l => hxd (c.toNat / 16) :: hxd (c.toNat % 16) :: hexL l
def show_bytes (s : ByteArray) : Option ByteArray := if s.size ≤ 1000000 then some (((⟨#[120, 39]⟩ : ByteArray) ++ (⟨(hexL s.data.toList).toArray⟩ : ByteArray)) ++ (⟨#[39]⟩ : ByteArray)) else none
theorem hexL_append : ∀ (a b : List UInt8), hexL (a ++ b) = hexL a ++ hexL b
  | [], _ => rfl
  | c :: a, b => by simp [hexL, hexL_append a b]
theorem hexL_length : ∀ a : List UInt8, (hexL a).length = 2 * a.length
  | [] => rfl
  | c :: a => by simp [hexL, hexL_length a]; omega
theorem hexL_take {l : List UInt8} {k : Nat} (h : k < l.length) : hexL (l.take (k + 1)) = hexL (l.take k) ++ [hxd (l[k].toNat / 16), hxd (l[k].toNat % 16)] := by
  rw [List.take_succ_eq_append_getElem h, hexL_append]; rfl
theorem hxd_at {n : Nat} (h : n < 16) : (((⟨#[48, 49, 50, 51, 52, 53, 54, 55, 56, 57, 97, 98, 99, 100, 101, 102]⟩ : ByteArray)[n]'h).toNat : Int) = ((hxd n).toNat : Int) := by
  have key : ∀ m : Fin 16, ((⟨#[48, 49, 50, 51, 52, 53, 54, 55, 56, 57, 97, 98, 99, 100, 101, 102]⟩ : ByteArray)[m.val]'m.isLt) = hxd m.val := by decide +kernel
  rw [key ⟨n, h⟩]
set_option maxHeartbeats 8000000 in
set_option maxRecDepth 100000 in
theorem show_bytes.calls (a0_1 : Int) (a0_2 : ByteArray) (r : ByteArray) (w : World) (hr : value_Right.f 4 a0_1 a0_2 = some true) (h : show_bytes a0_2 = some r) (hG : Glob w) :
    Calls Tryd.prog 13 #[.agg #[.int .i64 4, .int .i64 a0_1, .string a0_2]] w fun e w' => e = .returned (.string r) ∧ Below w.heap.size w w' := by
  have huV := Tryd.underlying36
  have HG := Aside0.mk hG
  clear hG
  have HB := Aside0.mk (Below.refl w.heap.size w)
  unfold show_bytes at h
  split at h
  case isFalse => cases h
  rename_i hsz
  have A2 := Aside0.mk hr
  clear hr
  have HR := Aside0.mk (Option.some.inj h)
  clear h
  go_enter Tryd.func13, Tryd.ntmps13
  go_upto_region 12 with (first | ((with_reducible refine gate_dst (N := 1) rfl ?_); refine box_event ?hg (N := 1) ?hd (cs := #[.int .i64 4, .int .i64 a0_1, .string a0_2]) (t := 36) ?hr ?_; (case hd => rfl); (case hg => rfl); (case hr => first | (go_simp; done) | (go_simp; rfl)); intro gb125 hg w21 hbox hb; have n0_ := Aside0.mk (below_step q0_ hb); have n1_ := Aside0.mk (hbox); have n2_ := Aside0.mk ((q1_ : w.heap.size ≤ gb125)); have n3_ := Aside0.mk ((q1_ : w.heap.size ≤ gb125)); clear HB; have HB := n0_; have BK125 := n1_; have GW125 := n2_; have GE125 := n3_; clear n0_ n1_ n2_ n3_; clear hb hbox hg; have hcz22_0 : w21.cell? ⟨gb125, 0, none⟩ = some (.int .i64 4) := (blk_cell BK125.out 0).trans rfl; have hcz22_1 : w21.cell? ⟨gb125, 1, none⟩ = some (.int .i64 a0_1) := (blk_cell BK125.out 1).trans rfl; have hcz22_2 : w21.cell? ⟨gb125, 2, none⟩ = some (.string a0_2) := (blk_cell BK125.out 2).trans rfl; have hfz22_0 := blk_frozen BK125.out 0; have hfz22_1 := blk_frozen BK125.out 1; have hfz22_2 := blk_frozen BK125.out 2) | ((with_reducible refine gate_callee (f := 12) rfl ?_); refine goesL_ (some 6) rfl rfl Tryd.func12 (by kernel_rfl) rfl #[.agg #[.int .i64 4, .int .i64 a0_1, .string a0_2]] rfl q2_ ?_; (with_reducible refine (value_Right.calls 4 a0_1 a0_2 true _ A2.out (by first | exact HG.out | (refine Glob.below HG.out ?_; (repeat (first | (with_reducible first | exact HB.out | apply below_alloc | apply pw_below_drewN | apply below_drew1 | refine below_set ?_ GE125.out) | exact HB.out))) | (repeat (first | exact HG.out | apply Glob.drewN | apply Glob.drew | apply Glob.alloc)))).mono ?_); rintro e w23 ⟨rfl, hb⟩; refine ⟨_, rfl, ?_⟩; have n0_ := Aside0.mk (blk_below (g := gb125) (o := .cells #[.int .i64 4, .int .i64 a0_1, .string a0_2] 36 (0, 0)) (by (with_reducible repeat first | apply bN_ | apply bD_ | apply bA_); exact BK125.out) hb); have n1_ := Aside0.mk (below_step q0_ hb); clear BK125; clear HB; have BK125 := n0_; have HB := n1_; clear n0_ n1_; (try clear hb); (try clear hb2); (try clear hk); (try clear hi); have hcz24_0 : w23.cell? ⟨gb125, 0, none⟩ = some (.int .i64 4) := (blk_cell BK125.out 0).trans rfl; have hcz24_1 : w23.cell? ⟨gb125, 1, none⟩ = some (.int .i64 a0_1) := (blk_cell BK125.out 1).trans rfl; have hcz24_2 : w23.cell? ⟨gb125, 2, none⟩ = some (.string a0_2) := (blk_cell BK125.out 2).trans rfl; have hfz24_0 := blk_frozen BK125.out 0; have hfz24_1 := blk_frozen BK125.out 1; have hfz24_2 := blk_frozen BK125.out 2))
  have hgl : gb125 < w23.heap.size := World.block_lt_of_cell? w23 _ hcz24_2
  have HI := Aside0.mk (Go.Lib.fresh_isBuilder 55 5 w23)
  have HW := Aside0.mk ((Below.refl w23.heap.size w23).alloc (Nat.le_refl _) (Obj.cells #[Value.pointer none, Value.slice none 0 0] 55))
  generalize hwz : w23.alloc (Obj.cells #[Value.pointer none, Value.slice none 0 0] 55) = wz at HI HW ⊢
  clear hwz
  have hcz : wz.cell? ⟨gb125, 2, none⟩ = some (.string a0_2) := (HW.out.cell hgl).trans hcz24_2
  clear hcz22_0 hcz22_1 hcz22_2 hfz22_0 hfz22_1 hfz22_2
  go_wp2
  go_loopw [33] (fun i wr => ∃ k : Nat, k ≤ a0_2.size ∧ i = .int .i64 k ∧ Aside0 (Go.Lib.IsBuilder 55 5 w23.heap.size w23.heap.size (Go.Lib.byteCells (hexL (a0_2.data.toList.take k))) wr) ∧ Aside0 (Below w23.heap.size w23 wr)) (fun i _ => a0_2.size - (intOf i).toNat)
  case atStart => exact ⟨0, Nat.zero_le _, rfl, HI, HW⟩
  case round =>
    obtain ⟨k, hk, rfl, HB2, HW2⟩ := hrel
    have hcz3 : wr.cell? ⟨gb125, 2, none⟩ = some (.string a0_2) := (HW2.out.cell hgl).trans hcz24_2
    by_cases hlt : k < a0_2.size
    · have hc16 : ((a0_2[k]'hlt).toNat : Int) / 16 < 16 := by have := (a0_2[k]'hlt).toNat_lt; omega
      have hc16n : (a0_2[k]'hlt).toNat / 16 < 16 := by have := (a0_2[k]'hlt).toNat_lt; omega
      have hd16n : (a0_2[k]'hlt).toNat % 16 < 16 := Nat.mod_lt _ (by omega)
      have hBw : w23.heap.size ≤ wr.heap.size := HW2.out.size
      have hlk : (Go.Lib.byteCells (hexL (a0_2.data.toList.take k))).length = 2 * k := by
        rw [Go.Lib.byteCells_length, hexL_length, List.length_take, ← Go.Lib.size_eq]; omega
      have hnx : Go.Lib.byteCells (hexL (a0_2.data.toList.take k)) ++ [Value.int .u8 ((hxd ((a0_2[k]'hlt).toNat / 16)).toNat : Int)] ++ [Value.int .u8 ((hxd ((a0_2[k]'hlt).toNat % 16)).toNat : Int)] = Go.Lib.byteCells (hexL (a0_2.data.toList.take (k + 1))) := by
        have hk' : k < a0_2.data.toList.length := by rw [← Go.Lib.size_eq]; exact hlt
        have hg : a0_2.data.toList[k]'hk' = a0_2[k]'hlt := by simp [ByteArray.getElem_eq_getElem_data]
        rw [hexL_take hk', hg, Go.Lib.byteCells_append, List.append_assoc]; rfl
      have HNX := Aside0.mk hnx
      have HLK := Aside0.mk hlk
      clear hnx hlk
      go_wp2_with (go_at_call 22; fail)
      refine (Any.Builder_WriteByte Tryd.laysWriteByte Tryd.extraWriteByte w23.heap.size w23.heap.size _ _ wr HB2.out (by rw [HLK.out]; omega) hBw).mono ?_
      rintro e w1 ⟨rfl, h1, hb1⟩
      rw [hxd_at hc16n] at h1
      have hcz4 : w1.cell? ⟨gb125, 2, none⟩ = some (.string a0_2) := (hb1.cell hgl).trans hcz3
      have hBw1 : w23.heap.size ≤ w1.heap.size := Nat.le_trans hBw hb1.size
      have H1 := Aside0.mk h1
      have HW3 := Aside0.mk (HW2.out.trans hb1)
      clear h1 hb1
      go_wp2_with (go_at_call 22; fail)
      refine (Any.Builder_WriteByte Tryd.laysWriteByte Tryd.extraWriteByte w23.heap.size w23.heap.size _ _ w1 (Or.inr H1.out) (by rw [List.length_append, HLK.out]; simp; omega) hBw1).mono ?_
      rintro e w2 ⟨rfl, h2, hb2⟩
      rw [hxd_at hd16n] at h2
      have h2' : Go.Lib.IsBuilder 55 5 w23.heap.size w23.heap.size (Go.Lib.byteCells (hexL (a0_2.data.toList.take (k + 1)))) w2 := HNX.out ▸ Or.inr h2
      have H2 := Aside0.mk h2'
      have HW4 := Aside0.mk (HW3.out.trans hb2)
      clear h2 h2' hb2
      go_wp2
      exact ⟨⟨k + 1, by omega, by go_num, H2, HW4⟩, by simp [intOf]; omega⟩
    · have hke : k = a0_2.size := by omega
      subst hke
      have hall : a0_2.data.toList.take a0_2.size = a0_2.data.toList := by rw [Go.Lib.size_eq, List.take_length]
      have hBw : w23.heap.size ≤ wr.heap.size := HW2.out.size
      have HB3 := Aside0.mk (hall ▸ HB2.out)
      clear HB2 hall
      have hs5 : (9223372036854775807 < 2 + (hexL a0_2.data.toList).length) = False := eq_false (by rw [hexL_length, ← Go.Lib.size_eq]; omega)
      have hs6 : (9223372036854775807 < 2 + (hexL a0_2.data.toList).length + 1) = False := eq_false (by rw [hexL_length, ← Go.Lib.size_eq]; omega)
      go_wp2_with (go_at_call 23; fail)
      refine (Any.Builder_String_any Tryd.laysBString Tryd.extraBString w23.heap.size w23.heap.size _ wr HB3.out hBw).mono ?_
      rintro e w3 ⟨rfl, hb3⟩
      have Hb3 := Aside0.mk (HB.out.trans ((HW2.out.trans hb3).mono (HB.out.size)))
      clear hb3
      go_wp2
      go_ret
      exact ⟨congrArg _ (congrArg _ HR.out), Hb3.out⟩
def value_Show.f (a0_0 : Int) (a0_1 : Int) (a0_2 : ByteArray) : Option (ByteArray) := (value_Right.f a0_0 a0_1 a0_2).bind fun t169 => (if t169 = true then (if a0_0 = 1 then ((strconv_FormatBool_19.f (a0_1 == 1)).bind fun t170 => (some t170)) else (if a0_0 = 2 then ((strconv_Itoa_20.f a0_1).bind fun t171 => (some t171)) else (if a0_0 = 3 then ((strings_ReplaceAll.f a0_2 (⟨#[39]⟩ : ByteArray) (⟨#[39, 39]⟩ : ByteArray)).bind fun t172 => (if 1 + t172.size ≤ 9223372036854775807 then (if ((⟨#[39]⟩ : ByteArray) ++ t172).size + 1 ≤ 9223372036854775807 then (some (((⟨#[39]⟩ : ByteArray) ++ t172) ++ (⟨#[39]⟩ : ByteArray))) else (none)) else (none))) else (if a0_0 = 4 then (show_bytes a0_2) else (some (⟨#[110, 117, 108, 108]⟩ : ByteArray)))))) else (some (⟨#[]⟩ : ByteArray)))
set_option maxHeartbeats 8000000 in
set_option maxRecDepth 100000 in
theorem value_Show.calls (a0_0 : Int) (a0_1 : Int) (a0_2 : ByteArray) (r : ByteArray) (w : World) (h : value_Show.f a0_0 a0_1 a0_2 = some r) (hG : Glob w) :
    Calls Tryd.prog 13 #[.agg #[.int .i64 a0_0, .int .i64 a0_1, .string a0_2]] w fun e w' => e = .returned (.string r) ∧ Below w.heap.size w w' := by
  have hu36 := Tryd.underlying36
  have HG := Aside0.mk hG
  clear hG
  have HB := Aside0.mk (Below.refl w.heap.size w)
  have H : ((value_Right.f a0_0 a0_1 a0_2).bind fun t169 => (if t169 = true then (if a0_0 = 1 then ((strconv_FormatBool_19.f (a0_1 == 1)).bind fun t170 => (some t170)) else (if a0_0 = 2 then ((strconv_Itoa_20.f a0_1).bind fun t171 => (some t171)) else (if a0_0 = 3 then ((strings_ReplaceAll.f a0_2 (⟨#[39]⟩ : ByteArray) (⟨#[39, 39]⟩ : ByteArray)).bind fun t172 => (if 1 + t172.size ≤ 9223372036854775807 then (if ((⟨#[39]⟩ : ByteArray) ++ t172).size + 1 ≤ 9223372036854775807 then (some (((⟨#[39]⟩ : ByteArray) ++ t172) ++ (⟨#[39]⟩ : ByteArray))) else (none)) else (none))) else (if a0_0 = 4 then (show_bytes a0_2) else (some (⟨#[110, 117, 108, 108]⟩ : ByteArray)))))) else (some (⟨#[]⟩ : ByteArray)))) = some r := h
  clear h
  replace H := Option.bind_eq_some_iff.mp H
  obtain ⟨t169, A20, H⟩ := H
  replace H : (if t169 = true then (if a0_0 = 1 then ((strconv_FormatBool_19.f (a0_1 == 1)).bind fun t170 => (some t170)) else (if a0_0 = 2 then ((strconv_Itoa_20.f a0_1).bind fun t171 => (some t171)) else (if a0_0 = 3 then ((strings_ReplaceAll.f a0_2 (⟨#[39]⟩ : ByteArray) (⟨#[39, 39]⟩ : ByteArray)).bind fun t172 => (if 1 + t172.size ≤ 9223372036854775807 then (if ((⟨#[39]⟩ : ByteArray) ++ t172).size + 1 ≤ 9223372036854775807 then (some (((⟨#[39]⟩ : ByteArray) ++ t172) ++ (⟨#[39]⟩ : ByteArray))) else (none)) else (none))) else (if a0_0 = 4 then (show_bytes a0_2) else (some (⟨#[110, 117, 108, 108]⟩ : ByteArray)))))) else (some (⟨#[]⟩ : ByteArray))) = some r := H
  have A2 := Aside0.mk A20
  clear A20
  by_cases c3 : t169 = true
  · subst c3
    replace H := ifT_ H
    by_cases c4 : a0_0 = 1
    · rw [if_pos c4] at H
      have c4b0 : (a0_0 == 1) = true := beq_iff_eq.mpr c4
      have c4b1 : (a0_0 != 1) = false := bne_eq_false_iff_eq.mpr c4
      clear c4
      replace H := Option.bind_eq_some_iff.mp H
      obtain ⟨t170, A50, H⟩ := H
      replace H : (some t170) = some r := H
      have A5 := Aside0.mk A50
      clear A50
      obtain rfl := Option.some.inj H
      go_enter Tryd.func13, Tryd.ntmps13
      go_wp2_with (first | ((with_reducible refine gate_dst (N := 1) rfl ?_); refine box_event ?hg (N := 1) ?hd (cs := #[.int .i64 a0_0, .int .i64 a0_1, .string a0_2]) (t := 36) ?hr ?_; (case hd => rfl); (case hg => rfl); (case hr => first | (go_simp; done) | (go_simp; rfl)); intro gb168 hg w6 hbox hb; have n0_ := Aside0.mk (below_step q0_ hb); have n1_ := Aside0.mk (hbox); have n2_ := Aside0.mk ((q1_ : w.heap.size ≤ gb168)); have n3_ := Aside0.mk ((q1_ : w.heap.size ≤ gb168)); clear HB; have HB := n0_; have BK168 := n1_; have GW168 := n2_; have GE168 := n3_; clear n0_ n1_ n2_ n3_; clear hb hbox hg; have hcz7_0 : w6.cell? ⟨gb168, 0, none⟩ = some (.int .i64 a0_0) := (blk_cell BK168.out 0).trans rfl; have hcz7_1 : w6.cell? ⟨gb168, 1, none⟩ = some (.int .i64 a0_1) := (blk_cell BK168.out 1).trans rfl; have hcz7_2 : w6.cell? ⟨gb168, 2, none⟩ = some (.string a0_2) := (blk_cell BK168.out 2).trans rfl; have hfz7_0 := blk_frozen BK168.out 0; have hfz7_1 := blk_frozen BK168.out 1; have hfz7_2 := blk_frozen BK168.out 2) | ((with_reducible refine gate_callee (f := 12) rfl ?_); refine goesL_ (some 6) rfl rfl Tryd.func12 (by kernel_rfl) rfl #[.agg #[.int .i64 a0_0, .int .i64 a0_1, .string a0_2]] rfl q2_ ?_; (with_reducible refine (value_Right.calls a0_0 a0_1 a0_2 true _ A2.out q7_).mono ?_); rintro e w8 ⟨rfl, hb⟩; refine ⟨_, rfl, ?_⟩; have n0_ := Aside0.mk (blk_below (g := gb168) (o := .cells #[.int .i64 a0_0, .int .i64 a0_1, .string a0_2] 36 (0, 0)) q28_ hb); have n1_ := Aside0.mk (below_step q0_ hb); clear BK168; clear HB; have BK168 := n0_; have HB := n1_; clear n0_ n1_; (try clear hb); (try clear hb2); (try clear hk); (try clear hi); have hcz9_0 : w8.cell? ⟨gb168, 0, none⟩ = some (.int .i64 a0_0) := (blk_cell BK168.out 0).trans rfl; have hcz9_1 : w8.cell? ⟨gb168, 1, none⟩ = some (.int .i64 a0_1) := (blk_cell BK168.out 1).trans rfl; have hcz9_2 : w8.cell? ⟨gb168, 2, none⟩ = some (.string a0_2) := (blk_cell BK168.out 2).trans rfl; have hfz9_0 := blk_frozen BK168.out 0; have hfz9_1 := blk_frozen BK168.out 1; have hfz9_2 := blk_frozen BK168.out 2) | ((with_reducible refine gate_callee (f := 19) rfl ?_); refine goesL_ (some 15) rfl rfl Tryd.func19 (by kernel_rfl) rfl #[.bool (a0_1 == 1)] rfl q2_ ?_; (with_reducible refine (strconv_FormatBool_19.calls (a0_1 == 1) t170 _ A5.out).mono ?_); rintro e w' ⟨rfl, ⟨nd, rfl⟩⟩; refine ⟨_, rfl, ?_⟩))
      go_ret
      exact ⟨q3_, q0_⟩
    · rw [if_neg c4] at H
      have c4b0 : (a0_0 == 1) = false := beq_eq_false_iff_ne.mpr c4
      have c4b1 : (a0_0 != 1) = true := bne_iff_ne.mpr c4
      by_cases c10 : a0_0 = 2
      · rw [if_pos c10] at H
        have c10b0 : (a0_0 == 2) = true := beq_iff_eq.mpr c10
        have c10b1 : (a0_0 != 2) = false := bne_eq_false_iff_eq.mpr c10
        clear c10
        replace H := Option.bind_eq_some_iff.mp H
        obtain ⟨t171, A110, H⟩ := H
        replace H : (some t171) = some r := H
        have A11 := Aside0.mk A110
        clear A110
        obtain rfl := Option.some.inj H
        go_enter Tryd.func13, Tryd.ntmps13
        go_wp2_with (first | ((with_reducible refine gate_dst (N := 1) rfl ?_); refine box_event ?hg (N := 1) ?hd (cs := #[.int .i64 a0_0, .int .i64 a0_1, .string a0_2]) (t := 36) ?hr ?_; (case hd => rfl); (case hg => rfl); (case hr => first | (go_simp; done) | (go_simp; rfl)); intro gb168 hg w12 hbox hb; have n0_ := Aside0.mk (below_step q0_ hb); have n1_ := Aside0.mk (hbox); have n2_ := Aside0.mk ((q1_ : w.heap.size ≤ gb168)); have n3_ := Aside0.mk ((q1_ : w.heap.size ≤ gb168)); clear HB; have HB := n0_; have BK168 := n1_; have GW168 := n2_; have GE168 := n3_; clear n0_ n1_ n2_ n3_; clear hb hbox hg; have hcz13_0 : w12.cell? ⟨gb168, 0, none⟩ = some (.int .i64 a0_0) := (blk_cell BK168.out 0).trans rfl; have hcz13_1 : w12.cell? ⟨gb168, 1, none⟩ = some (.int .i64 a0_1) := (blk_cell BK168.out 1).trans rfl; have hcz13_2 : w12.cell? ⟨gb168, 2, none⟩ = some (.string a0_2) := (blk_cell BK168.out 2).trans rfl; have hfz13_0 := blk_frozen BK168.out 0; have hfz13_1 := blk_frozen BK168.out 1; have hfz13_2 := blk_frozen BK168.out 2) | ((with_reducible refine gate_callee (f := 12) rfl ?_); refine goesL_ (some 6) rfl rfl Tryd.func12 (by kernel_rfl) rfl #[.agg #[.int .i64 a0_0, .int .i64 a0_1, .string a0_2]] rfl q2_ ?_; (with_reducible refine (value_Right.calls a0_0 a0_1 a0_2 true _ A2.out q7_).mono ?_); rintro e w14 ⟨rfl, hb⟩; refine ⟨_, rfl, ?_⟩; have n0_ := Aside0.mk (blk_below (g := gb168) (o := .cells #[.int .i64 a0_0, .int .i64 a0_1, .string a0_2] 36 (0, 0)) q28_ hb); have n1_ := Aside0.mk (below_step q0_ hb); clear BK168; clear HB; have BK168 := n0_; have HB := n1_; clear n0_ n1_; (try clear hb); (try clear hb2); (try clear hk); (try clear hi); have hcz15_0 : w14.cell? ⟨gb168, 0, none⟩ = some (.int .i64 a0_0) := (blk_cell BK168.out 0).trans rfl; have hcz15_1 : w14.cell? ⟨gb168, 1, none⟩ = some (.int .i64 a0_1) := (blk_cell BK168.out 1).trans rfl; have hcz15_2 : w14.cell? ⟨gb168, 2, none⟩ = some (.string a0_2) := (blk_cell BK168.out 2).trans rfl; have hfz15_0 := blk_frozen BK168.out 0; have hfz15_1 := blk_frozen BK168.out 1; have hfz15_2 := blk_frozen BK168.out 2) | ((with_reducible refine gate_callee (f := 20) rfl ?_); refine goesL_ (some 20) rfl rfl Tryd.func20 (by kernel_rfl) rfl #[.int .i64 a0_1] rfl q2_ ?_; (with_reducible refine (strconv_Itoa_20.calls a0_1 t171 _ A11.out q7_).mono ?_); rintro e w16 ⟨rfl, hb⟩; refine ⟨_, rfl, ?_⟩; have n0_ := Aside0.mk (blk_below (g := gb168) (o := .cells #[.int .i64 a0_0, .int .i64 a0_1, .string a0_2] 36 (0, 0)) q28_ hb); have n1_ := Aside0.mk (below_step q0_ hb); clear BK168; clear HB; have BK168 := n0_; have HB := n1_; clear n0_ n1_; (try clear hb); (try clear hb2); (try clear hk); (try clear hi)))
        go_ret
        exact ⟨q3_, q0_⟩
      · rw [if_neg c10] at H
        have c10b0 : (a0_0 == 2) = false := beq_eq_false_iff_ne.mpr c10
        have c10b1 : (a0_0 != 2) = true := bne_iff_ne.mpr c10
        by_cases c17 : a0_0 = 3
        · rw [if_pos c17] at H
          have c17b0 : (a0_0 == 3) = true := beq_iff_eq.mpr c17
          have c17b1 : (a0_0 != 3) = false := bne_eq_false_iff_eq.mpr c17
          clear c17
          replace H := Option.bind_eq_some_iff.mp H
          obtain ⟨t172, A180, H⟩ := H
          replace H : (if 1 + t172.size ≤ 9223372036854775807 then (if ((⟨#[39]⟩ : ByteArray) ++ t172).size + 1 ≤ 9223372036854775807 then (some (((⟨#[39]⟩ : ByteArray) ++ t172) ++ (⟨#[39]⟩ : ByteArray))) else (none)) else (none)) = some r := H
          have A18 := Aside0.mk A180
          clear A180
          by_cases c19 : 1 + t172.size ≤ 9223372036854775807
          · rw [if_pos c19] at H
            have c19b0 := eq_true c19
            have c19b1 : decide (1 + t172.size ≤ 9223372036854775807) = true := decide_eq_true c19
            try have c19b2 : (9223372036854775807 < 1 + t172.size) = False := eq_false (Nat.not_lt.2 c19)
            by_cases c20 : ((⟨#[39]⟩ : ByteArray) ++ t172).size + 1 ≤ 9223372036854775807
            · rw [if_pos c20] at H
              have c20b0 := eq_true c20
              have c20b1 : decide (((⟨#[39]⟩ : ByteArray) ++ t172).size + 1 ≤ 9223372036854775807) = true := decide_eq_true c20
              try have c20b2 : (9223372036854775807 < ((⟨#[39]⟩ : ByteArray) ++ t172).size + 1) = False := eq_false (Nat.not_lt.2 c20)
              (try (have c20b3 : 1 + t172.size + 1 ≤ 9223372036854775807 := by first | (have hq_ := c20; simp only [ByteArray.size_append] at hq_; exact hq_) | simpa [ByteArray.size_append] using c20))
              (try (have c20b4 : (9223372036854775807 < 1 + t172.size + 1) = False := eq_false (Nat.not_lt.2 c20b3)))
              obtain rfl := Option.some.inj H
              go_enter Tryd.func13, Tryd.ntmps13
              go_wp2_with (first | ((with_reducible refine gate_dst (N := 1) rfl ?_); refine box_event ?hg (N := 1) ?hd (cs := #[.int .i64 a0_0, .int .i64 a0_1, .string a0_2]) (t := 36) ?hr ?_; (case hd => rfl); (case hg => rfl); (case hr => first | (go_simp; done) | (go_simp; rfl)); intro gb168 hg w21 hbox hb; have n0_ := Aside0.mk (below_step q0_ hb); have n1_ := Aside0.mk (hbox); have n2_ := Aside0.mk ((q1_ : w.heap.size ≤ gb168)); have n3_ := Aside0.mk ((q1_ : w.heap.size ≤ gb168)); clear HB; have HB := n0_; have BK168 := n1_; have GW168 := n2_; have GE168 := n3_; clear n0_ n1_ n2_ n3_; clear hb hbox hg; have hcz22_0 : w21.cell? ⟨gb168, 0, none⟩ = some (.int .i64 a0_0) := (blk_cell BK168.out 0).trans rfl; have hcz22_1 : w21.cell? ⟨gb168, 1, none⟩ = some (.int .i64 a0_1) := (blk_cell BK168.out 1).trans rfl; have hcz22_2 : w21.cell? ⟨gb168, 2, none⟩ = some (.string a0_2) := (blk_cell BK168.out 2).trans rfl; have hfz22_0 := blk_frozen BK168.out 0; have hfz22_1 := blk_frozen BK168.out 1; have hfz22_2 := blk_frozen BK168.out 2) | ((with_reducible refine gate_callee (f := 12) rfl ?_); refine goesL_ (some 6) rfl rfl Tryd.func12 (by kernel_rfl) rfl #[.agg #[.int .i64 a0_0, .int .i64 a0_1, .string a0_2]] rfl q2_ ?_; (with_reducible refine (value_Right.calls a0_0 a0_1 a0_2 true _ A2.out q7_).mono ?_); rintro e w23 ⟨rfl, hb⟩; refine ⟨_, rfl, ?_⟩; have n0_ := Aside0.mk (blk_below (g := gb168) (o := .cells #[.int .i64 a0_0, .int .i64 a0_1, .string a0_2] 36 (0, 0)) q28_ hb); have n1_ := Aside0.mk (below_step q0_ hb); clear BK168; clear HB; have BK168 := n0_; have HB := n1_; clear n0_ n1_; (try clear hb); (try clear hb2); (try clear hk); (try clear hi); have hcz24_0 : w23.cell? ⟨gb168, 0, none⟩ = some (.int .i64 a0_0) := (blk_cell BK168.out 0).trans rfl; have hcz24_1 : w23.cell? ⟨gb168, 1, none⟩ = some (.int .i64 a0_1) := (blk_cell BK168.out 1).trans rfl; have hcz24_2 : w23.cell? ⟨gb168, 2, none⟩ = some (.string a0_2) := (blk_cell BK168.out 2).trans rfl; have hfz24_0 := blk_frozen BK168.out 0; have hfz24_1 := blk_frozen BK168.out 1; have hfz24_2 := blk_frozen BK168.out 2) | ((with_reducible refine gate_callee (f := 21) rfl ?_); refine goesL_ (some 25) rfl rfl Tryd.func21 (by kernel_rfl) rfl #[.string a0_2, .string (⟨#[39]⟩ : ByteArray), .string (⟨#[39, 39]⟩ : ByteArray)] rfl q2_ ?_; (with_reducible refine (strings_ReplaceAll.calls a0_2 (⟨#[39]⟩ : ByteArray) (⟨#[39, 39]⟩ : ByteArray) t172 _ A18.out q7_).mono ?_); rintro e w25 ⟨rfl, hb⟩; refine ⟨_, rfl, ?_⟩; have n0_ := Aside0.mk (blk_below (g := gb168) (o := .cells #[.int .i64 a0_0, .int .i64 a0_1, .string a0_2] 36 (0, 0)) q28_ hb); have n1_ := Aside0.mk (below_step q0_ hb); clear BK168; clear HB; have BK168 := n0_; have HB := n1_; clear n0_ n1_; (try clear hb); (try clear hb2); (try clear hk); (try clear hi)))
              go_ret
              exact ⟨q3_, q0_⟩
            · rw [if_neg c20] at H
              exact absurd H (by simp)
          · rw [if_neg c19] at H
            exact absurd H (by simp)
        · rw [if_neg c17] at H
          have c17b0 : (a0_0 == 3) = false := beq_eq_false_iff_ne.mpr c17
          have c17b1 : (a0_0 != 3) = true := bne_iff_ne.mpr c17
          by_cases c26 : a0_0 = 4
          · rw [if_pos c26] at H
            subst c26
            exact show_bytes.calls a0_1 a0_2 r w A2.out H HG.out
          · rw [if_neg c26] at H
            have c26b0 : (a0_0 == 4) = false := beq_eq_false_iff_ne.mpr c26
            have c26b1 : (a0_0 != 4) = true := bne_iff_ne.mpr c26
            obtain rfl := Option.some.inj H
            go_enter Tryd.func13, Tryd.ntmps13
            go_wp2_with (first | ((with_reducible refine gate_dst (N := 1) rfl ?_); refine box_event ?hg (N := 1) ?hd (cs := #[.int .i64 a0_0, .int .i64 a0_1, .string a0_2]) (t := 36) ?hr ?_; (case hd => rfl); (case hg => rfl); (case hr => first | (go_simp; done) | (go_simp; rfl)); intro gb168 hg w27 hbox hb; have n0_ := Aside0.mk (below_step q0_ hb); have n1_ := Aside0.mk (hbox); have n2_ := Aside0.mk ((q1_ : w.heap.size ≤ gb168)); have n3_ := Aside0.mk ((q1_ : w.heap.size ≤ gb168)); clear HB; have HB := n0_; have BK168 := n1_; have GW168 := n2_; have GE168 := n3_; clear n0_ n1_ n2_ n3_; clear hb hbox hg; have hcz28_0 : w27.cell? ⟨gb168, 0, none⟩ = some (.int .i64 a0_0) := (blk_cell BK168.out 0).trans rfl; have hcz28_1 : w27.cell? ⟨gb168, 1, none⟩ = some (.int .i64 a0_1) := (blk_cell BK168.out 1).trans rfl; have hcz28_2 : w27.cell? ⟨gb168, 2, none⟩ = some (.string a0_2) := (blk_cell BK168.out 2).trans rfl; have hfz28_0 := blk_frozen BK168.out 0; have hfz28_1 := blk_frozen BK168.out 1; have hfz28_2 := blk_frozen BK168.out 2) | ((with_reducible refine gate_callee (f := 12) rfl ?_); refine goesL_ (some 6) rfl rfl Tryd.func12 (by kernel_rfl) rfl #[.agg #[.int .i64 a0_0, .int .i64 a0_1, .string a0_2]] rfl q2_ ?_; (with_reducible refine (value_Right.calls a0_0 a0_1 a0_2 true _ A2.out q7_).mono ?_); rintro e w29 ⟨rfl, hb⟩; refine ⟨_, rfl, ?_⟩; have n0_ := Aside0.mk (blk_below (g := gb168) (o := .cells #[.int .i64 a0_0, .int .i64 a0_1, .string a0_2] 36 (0, 0)) q28_ hb); have n1_ := Aside0.mk (below_step q0_ hb); clear BK168; clear HB; have BK168 := n0_; have HB := n1_; clear n0_ n1_; (try clear hb); (try clear hb2); (try clear hk); (try clear hi); have hcz30_0 : w29.cell? ⟨gb168, 0, none⟩ = some (.int .i64 a0_0) := (blk_cell BK168.out 0).trans rfl; have hcz30_1 : w29.cell? ⟨gb168, 1, none⟩ = some (.int .i64 a0_1) := (blk_cell BK168.out 1).trans rfl; have hcz30_2 : w29.cell? ⟨gb168, 2, none⟩ = some (.string a0_2) := (blk_cell BK168.out 2).trans rfl; have hfz30_0 := blk_frozen BK168.out 0; have hfz30_1 := blk_frozen BK168.out 1; have hfz30_2 := blk_frozen BK168.out 2))
            go_ret
            exact ⟨q3_, q0_⟩
  · replace c3 := Bool.eq_false_iff.mpr c3
    subst c3
    replace H := ifF_ H
    obtain rfl := Option.some.inj H
    go_enter Tryd.func13, Tryd.ntmps13
    go_wp2_with (first | ((with_reducible refine gate_dst (N := 1) rfl ?_); refine box_event ?hg (N := 1) ?hd (cs := #[.int .i64 a0_0, .int .i64 a0_1, .string a0_2]) (t := 36) ?hr ?_; (case hd => rfl); (case hg => rfl); (case hr => first | (go_simp; done) | (go_simp; rfl)); intro gb168 hg w31 hbox hb; have n0_ := Aside0.mk (below_step q0_ hb); have n1_ := Aside0.mk (hbox); have n2_ := Aside0.mk ((q1_ : w.heap.size ≤ gb168)); have n3_ := Aside0.mk ((q1_ : w.heap.size ≤ gb168)); clear HB; have HB := n0_; have BK168 := n1_; have GW168 := n2_; have GE168 := n3_; clear n0_ n1_ n2_ n3_; clear hb hbox hg; have hcz32_0 : w31.cell? ⟨gb168, 0, none⟩ = some (.int .i64 a0_0) := (blk_cell BK168.out 0).trans rfl; have hcz32_1 : w31.cell? ⟨gb168, 1, none⟩ = some (.int .i64 a0_1) := (blk_cell BK168.out 1).trans rfl; have hcz32_2 : w31.cell? ⟨gb168, 2, none⟩ = some (.string a0_2) := (blk_cell BK168.out 2).trans rfl; have hfz32_0 := blk_frozen BK168.out 0; have hfz32_1 := blk_frozen BK168.out 1; have hfz32_2 := blk_frozen BK168.out 2) | ((with_reducible refine gate_callee (f := 12) rfl ?_); refine goesL_ (some 6) rfl rfl Tryd.func12 (by kernel_rfl) rfl #[.agg #[.int .i64 a0_0, .int .i64 a0_1, .string a0_2]] rfl q2_ ?_; (with_reducible refine (value_Right.calls a0_0 a0_1 a0_2 false _ A2.out q7_).mono ?_); rintro e w33 ⟨rfl, hb⟩; refine ⟨_, rfl, ?_⟩; have n0_ := Aside0.mk (blk_below (g := gb168) (o := .cells #[.int .i64 a0_0, .int .i64 a0_1, .string a0_2] 36 (0, 0)) q28_ hb); have n1_ := Aside0.mk (below_step q0_ hb); clear BK168; clear HB; have BK168 := n0_; have HB := n1_; clear n0_ n1_; (try clear hb); (try clear hb2); (try clear hk); (try clear hi)))
    go_ret
    exact ⟨q3_, q0_⟩

end Go.Proofs.YtjcjndpfihchnaaDoor.P
