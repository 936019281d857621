-- HALVED
import Derived.Test.YtchpbnabbjdfgaaDoorPx0
import Derived.Test.YtchpbnabbjdfgaaDoorPx108
import Derived.Test.YtchpbnabbjdfgaaDoorPx112
namespace Go.Proofs.YtchpbnabbjdfgaaDoor.P
open Go.RowKit Go.Proofs.YtchpbnabbjdfgaaDoorW.PrintWords Go.Proofs.YtchpbnabbjdfgaaDoorW.PrintLast Go.Proofs.YtchpbnabbjdfgaaDoorW.PrintMore
attribute [local go_sem] zdo zfb zes zet zdb zdc zdp zdq   -- for this text's walks alone
set_option linter.unusedVariables false
set_option linter.unusedSimpArgs false
set_option maxHeartbeats 8000000
set_option maxRecDepth 100000
def zac.pick (last : ByteArray) : ByteArray → List S56 → ByteArray
 | b, [] => b
 | b, c :: r => zac.pick last (if Op.bytesLess last.toList c.f0.toList = true ∧ (b.size = 0 ∨ Op.bytesLess c.f0.toList b.toList = true) then c.f0 else b) r
def zac.gath (b : ByteArray) : List S81 → List S56 → List S81
 | a, [] => a
 | a, c :: r => zac.gath b (if c.f0 = b then a ++ c.f1 else a) r
def zac.l0 (s : List S56) : Nat → List S56 → ByteArray → Option (List S56)
 | 0, _, _ => none
 | k + 1, l, last =>
  if (zac.pick last ⟨#[]⟩ s).size = 0 then some l else
  if (zac.gath (zac.pick last ⟨#[]⟩ s) [] s).length ≤ 1000000 ∧ l.length ≤ 1000000 then (zab.f k (zac.gath (zac.pick last ⟨#[]⟩ s) [] s)).bind fun t => zac.l0 s k (if t.1.length = 0 then l else l ++ [⟨zac.pick last ⟨#[]⟩ s, t.1⟩]) (zac.pick last ⟨#[]⟩ s) else none
def zac.f (k : Nat) (l0 l1 : List S56) : Option (List S56) := zac.l0 (l0 ++ (l1 ++ [])) k [] ⟨#[]⟩
theorem zac.lmono (s : List S56) : ∀ (k : Nat) (l : List S56) (last : ByteArray), LeO (zac.l0 s k l last) (zac.l0 s (k + 1) l last) := by
 intro k
 induction k with
 | zero => exact fun l last r h => by simp [zac.l0] at h
 | succ k ih => exact fun l last => LeO.ite (LeO.refl _) (LeO.ite (LeO.bind (zab.mono _ _) fun t => ih _ _) (LeO.refl _))
theorem zac.mono : ∀ a0 a1 k, LeO (zac.f k a0 a1) (zac.f (k + 1) a0 a1) := by
 exact fun a0 a1 k => zac.lmono _ k _ _
theorem zac.inj {a b : ByteArray} (h : a.toList = b.toList) : a = b := by
 rw [ByteArray.toList_eq, ByteArray.toList_eq] at h
 cases a; cases b; congr; exact Array.toList_inj.1 h
theorem zac.glen (b : ByteArray) : ∀ (r : List S56) (a : List S81), a.length ≤ (zac.gath b a r).length
 | [], a => Nat.le_refl _
 | c :: r, a => by
  refine Nat.le_trans ?_ (zac.glen b r _)
  split
  ·rw [List.length_append]; omega
  ·exact Nat.le_refl _
set_option maxHeartbeats 4000000 in
theorem zac.change (l : List S56) (Al : Option Addr) (cl : Nat) (nm : ByteArray) (b : List S81) (A : Option Addr) (c : Nat) (W w : World) (base : Nat) (ok okp : Nat → Prop) (hN : Kd.N k56 56 W base ok (.slice Al l.length cl) l) (hF : Kd.F k81 W okp A b.length b) (hle : b.length ≤ c) (hokp : ∀ k, okp k → ok k ∧ some k ≠ (Value.slice Al l.length cl).ownBlock) (hfresh : ∀ k, W.heap.size ≤ k → ok k) (hl : l.length ≤ 1000000) (HB : Below base w W) (hbase : base ≤ W.heap.size) :
  Calls Tryd.prog 59 #[.slice Al l.length cl, .string nm, .slice A b.length c] W fun e w' => ∃ v, e = .returned v ∧ Kd.N k56 56 w' base ok v (if b.length = 0 then l else l ++ [⟨nm, b⟩]) ∧ Below base w w' := by
 have H := zad.mk hN
 have HF := zad.mk hF
 have HO := zad.mk hokp
 have HR := zad.mk hfresh
 have HL := zad.mk hl
 have HB := zad.mk HB
 have HS := zad.mk hbase
 have HE := zad.mk hle
 clear hN hF hokp hfresh hl hbase hle
 by_cases h0 : b.length = 0
 ·have h1 : ((b.length : Int) == 0) = true := by simpa using h0
  rw [if_pos h0]
  have HZ := zad.mk h0
  clear h0
  go_enter Tryd.func59, Tryd.ntmps59
  go_wp2
  go_ret
  exact ⟨_, rfl, H.out, HB.out⟩
 ·have h1 : ((b.length : Int) == 0) = false := by simpa using h0
  rw [if_neg h0]
  have HZ := zad.mk h0
  clear h0
  go_enter Tryd.func59, Tryd.ntmps59
  go_wp2_with (at_builtin; refine Kd.zhw k56 (w0 := w) base rfl _ _ 22 56 (.agg #[(.string ⟨#[]⟩), (.slice none 0 0)]) 40 rfl Tryd.underlying22 (by kernel_rfl) rfl (by decide) (by omega) (.slice Al l.length cl) l ⟨nm, b⟩ [.string nm, .slice A b.length c] ok okp rfl rfl (k56_mkF W _ ⟨nm, b⟩ (A1 := A) (c1 := c) HE.out HF.out) HO.out HR.out H.out HB.out HS.out (by have := HL.out; omega) ?_)
  intro v' w1 hown hb hg hat
  go_wp2
  go_ret
  exact ⟨v', rfl, hown, hb⟩
theorem zac.calls (k : Nat) (P0_ : Nat → Prop) (A0 : Option Addr) (c0 : Nat) (l0 : List S56) (P1_ : Nat → Prop) (A1 : Option Addr) (c1 : Nat) (l1 : List S56) (r : List S56) (w : World) (hs0 : Kd.V k56 56 w w.heap.size (fun k_ => P0_ k_) (.slice A0 l0.length c0) l0) (hs1 : Kd.V k56 56 w w.heap.size (fun k_ => P1_ k_) (.slice A1 l1.length c1) l1) (h : zac.f k l0 l1 = some r) :
  Calls Tryd.prog 35 #[.slice A0 l0.length c0, .slice A1 l1.length c1] w fun e w' => ∃ v0_, e = .returned v0_ ∧ Kd.N k56 56 w' w.heap.size (fun k_ => ((P0_ k_ ∨ P1_ k_) ∨ w.heap.size ≤ k_)) v0_ r ∧ Below w.heap.size w w' := by
 have hrow : ∀ i : Nat, i < 2 → ∃ (X : List S56) (AX : Option Addr) (cX : Nat) (rest : List S56), (#[Value.slice A0 l0.length c0, .slice A1 l1.length c1] : Array Value)[i]? = some (.slice AX X.length cX) ∧ X.length ≤ cX ∧ (∀ W, Below w.heap.size w W → Kd.F k56 W (fun k => (P0_ k ∨ P1_ k) ∧ k < w.heap.size) AX X.length X) ∧ ([l0, l1].drop i).flatten = X ++ rest ∧ ([l0, l1].drop (i + 1)).flatten = rest := fun i hi => by
  match i, hi with
  | 0, _ => exact ⟨l0, A0, c0, _, rfl, (Kd.zbs hs0).2.1, fun W hb => Kd.F_mono (Kd.zdk (Kd.zgo (Kd.V_F hs0)) hb) (fun k hk => ⟨.inl hk.1, hk.2⟩), rfl, rfl⟩
  | 1, _ => exact ⟨l1, A1, c1, _, rfl, (Kd.zbs hs1).2.1, fun W hb => Kd.F_mono (Kd.zdk (Kd.zgo (Kd.V_F hs1)) hb) (fun k hk => ⟨.inr hk.1, hk.2⟩), rfl, rfl⟩
 have HROW := zad.mk hrow; have H : zac.l0 ([l0, l1].drop 0).flatten k [] ⟨#[]⟩ = some r := h; obtain ⟨s, hs⟩ : ∃ s, s = ([l0, l1].drop 0).flatten := ⟨_, rfl⟩; rw [← hs] at H; have HS := zad.mk hs; have H := zad.mk H; clear hrow hs0 hs1 h hs; go_enter Tryd.func35, Tryd.ntmps35; go_wp2; go_loopg [5, 6] k (fun gg s5 s6 wr => ∃ (l : List S56) (Al : Option Addr) (cl : Nat) (last : ByteArray), s5 = .slice Al l.length cl ∧ s6 = .string last ∧ zad (zac.l0 s gg l last = some r) ∧ zad (Kd.N k56 56 wr w.heap.size (fun k_ => ((P0_ k_ ∨ P1_ k_) ∨ w.heap.size ≤ k_)) s5 l) ∧ zad (Below w.heap.size w wr))
 case atStart => exact ⟨[], none, 0, ⟨#[]⟩, rfl, rfl, H, ⟨Kd.zjb _ _ _ _ _⟩, ⟨Below.refl _ _⟩⟩
 case round =>
  clear H; obtain ⟨l, Al, cl, last, rfl, rfl, H, HN, HB⟩ := hrel
  cases gk with
  | zero => have := H.out; simp [zac.l0] at this
  | succ gg =>
  have hH := H.out; simp only [zac.l0] at hH; obtain ⟨B, hB⟩ : ∃ B, B = zac.pick last ⟨#[]⟩ s := ⟨_, rfl⟩; rw [← hB] at hH; have HP := zad.mk (show zac.pick last ⟨#[]⟩ ([l0, l1].drop 0).flatten = B by rw [← HS.out, hB]); have HH := zad.mk hH; clear hH H hB; obtain ⟨gB, hgB⟩ : ∃ g, g = wr.heap.size := ⟨_, rfl⟩; obtain ⟨wB, hwB⟩ : ∃ W, W = wr.alloc (.cells #[.slice A0 l0.length c0, .slice A1 l1.length c1] 22) := ⟨_, rfl⟩; have HXB := zad.mk (show wB.heap[gB]? = some (.cells #[.slice A0 l0.length c0, .slice A1 l1.length c1] 22 (0, 0)) by rw [hwB, hgB]; exact Mem.zeo _ _ _); have HBB := zad.mk (show Below w.heap.size w wB by rw [hwB]; exact zbm HB.out HB.out.size (zbj (Below.refl _ _) _)); have HNB := zad.mk (show Kd.N k56 56 wB w.heap.size (fun k_ => ((P0_ k_ ∨ P1_ k_) ∨ w.heap.size ≤ k_)) (.slice Al l.length cl) l by rw [hwB]; exact Kd.zdl HN.out _); have HGB := zad.mk hgB; have HWB := zad.mk hwB; clear hgB hwB HN HB; go_wp2; go_loopg [7, 21] 2 (fun kx s7 s21 wx => ∃ (i : Nat) (b : ByteArray), s7 = .string b ∧ s21 = .int .i64 i ∧ zad (i ≤ 2) ∧ zad (2 - i ≤ kx) ∧ zad (zac.pick last b ([l0, l1].drop i).flatten = B) ∧ wB = wx)
  case atStart => exact ⟨0, ⟨#[]⟩, rfl, rfl, ⟨Nat.zero_le _⟩, ⟨Nat.le_refl _⟩, HP, HWB.out⟩
  case round =>
   clear HP; obtain ⟨i, b, rfl, rfl, hi, hkx, HPK, rfl⟩ := hrel
   by_cases hlt : i < 2
   ·obtain ⟨X, AX, cX, rest, hcell, hX, hXF, hd1, hd2⟩ := HROW.out i hlt; have hcB : wB.cell? ⟨wr.heap.size, i, none⟩ = some (.slice AX X.length cX) := by rw [← HGB.out]; exact (zcj HXB.out i).trans hcell
    have hi0 : (0 : Int) ≤ (i : Int) := by omega
    have hi2 : (i : Int) < 2 := by omega
    have hit : ((i : Int)).toNat = i := by omega
    have hw1 : wrap64 ((i : Int) + 1) = ((i + 1 : Nat) : Int) := by unfold wrap64; omega
    have HPJ := zad.mk (show zac.pick last b (X.drop 0 ++ rest) = B by rw [List.drop_zero, ← hd1]; exact HPK.out); have HD2 := zad.mk hd2; have HXF := zad.mk hXF; have HXL := zad.mk (Kd.F_max (hXF wB HBB.out)); have hXi : (X.length : Int) ≤ 9223372036854775807 := by have := HXL.out; omega
    clear hcell hX hXF hd1 hd2 HPK hXi; go_wp2; go_loopg [7, 10] X.length (fun ky s7 s10 wy => ∃ (j : Nat) (b2 : ByteArray), s7 = .string b2 ∧ s10 = .int .i64 j ∧ zad (j ≤ X.length) ∧ zad (X.length - j ≤ ky) ∧ zad (zac.pick last b2 (X.drop j ++ rest) = B) ∧ wB = wy)
    case atStart => exact ⟨0, b, rfl, rfl, ⟨Nat.zero_le _⟩, ⟨Nat.le_refl _⟩, HPJ, rfl⟩
    case round =>
     clear HPJ; obtain ⟨j, b2, rfl, rfl, hj, hky, HPJ, rfl⟩ := hrel
     by_cases hjl : j < X.length
     ·obtain ⟨x, hx⟩ : ∃ x, X[j]? = some x := ⟨_, List.getElem?_eq_getElem hjl⟩; have hP := HPJ.out; rw [show X.drop j = x :: X.drop (j + 1) by rw [List.drop_eq_getElem_cons hjl, (List.getElem?_eq_some_iff.1 hx).2], List.cons_append] at hP; simp only [zac.pick] at hP; have HP := zad.mk hP; obtain ⟨ad, cx, hA1, _, hFK, hcc, _⟩ := Kd.F_get (HXF.out wB HBB.out) z56 (j : Int) (by omega) (by omega); subst hA1; rw [show X.getD ((j : Int)).toNat z56 = x by simp [List.getD, hx]] at hFK; obtain ⟨Ax, cx1, hce, hlx, hFx⟩ := zhe hFK; subst hce; have hc0 : wB.cell? (ad.add (j * 2)) = some (.string x.f0) := hcc 0 _ rfl; have hjlt : (j : Int) < (X.length : Int) := by omega
      have hj0 : (0 : Int) ≤ (j : Int) := by omega
      have hjt : ((j : Int)).toNat = j := by omega
      have hwj : wrap64 ((j : Int) + 1) = ((j + 1 : Nat) : Int) := by have := HXL.out; unfold wrap64; omega
      clear hP hx hFK hcc hlx hFx hjl HPJ
      by_cases q1 : Op.bytesLess last.toList x.f0.toList = true
      ·by_cases q2 : b2.size = 0
       ·have q2b : ((b2.size : Int) == 0) = true := by simpa using q2
        have HPN := zad.mk (show zac.pick last x.f0 (X.drop (j + 1) ++ rest) = B by have := HP.out; rwa [if_pos ⟨q1, .inl q2⟩] at this); clear q2 HP; go_wp2; go_roundg (X.length - (j + 1))
        case measure => have := hky.out; omega
        case rel => exact ⟨j + 1, x.f0, rfl, by go_num, ⟨by omega⟩, ⟨Nat.le_refl _⟩, HPN, rfl⟩
       ·have q2b : ((b2.size : Int) == 0) = false := by simpa using q2
        by_cases q3 : Op.bytesLess x.f0.toList b2.toList = true
        ·have HPN := zad.mk (show zac.pick last x.f0 (X.drop (j + 1) ++ rest) = B by have := HP.out; rwa [if_pos ⟨q1, .inr q3⟩] at this); clear q2 HP; go_wp2; go_roundg (X.length - (j + 1))
         case measure => have := hky.out; omega
         case rel => exact ⟨j + 1, x.f0, rfl, by go_num, ⟨by omega⟩, ⟨Nat.le_refl _⟩, HPN, rfl⟩
        ·have HPN := zad.mk (show zac.pick last b2 (X.drop (j + 1) ++ rest) = B by have := HP.out; rwa [if_neg (fun h => h.2.elim q2 q3)] at this); have q3b : Op.bytesLess x.f0.toList b2.toList = false := by simpa using q3
         clear q2 q3 HP; go_wp2; go_roundg (X.length - (j + 1))
         case measure => have := hky.out; omega
         case rel => exact ⟨j + 1, b2, rfl, by go_num, ⟨by omega⟩, ⟨Nat.le_refl _⟩, HPN, rfl⟩
      ·have HPN := zad.mk (show zac.pick last b2 (X.drop (j + 1) ++ rest) = B by have := HP.out; rwa [if_neg (fun h => q1 h.1)] at this); have q1b : Op.bytesLess last.toList x.f0.toList = false := by simpa using q1
       clear q1 HP; go_wp2; go_roundg (X.length - (j + 1))
       case measure => have := hky.out; omega
       case rel => exact ⟨j + 1, b2, rfl, by go_num, ⟨by omega⟩, ⟨Nat.le_refl _⟩, HPN, rfl⟩
     ·obtain rfl : j = X.length := by have := hj.out; omega
      have hnl : ¬ (X.length : Int) < (X.length : Int) := by omega
      have HPN := zad.mk (show zac.pick last b2 ([l0, l1].drop (i + 1)).flatten = B by have := HPJ.out; rw [List.drop_length, List.nil_append] at this; rw [HD2.out]; exact this); clear HPJ; go_wp2; go_roundg (2 - (i + 1))
      case measure => have := hkx.out; omega
      case rel => exact ⟨i + 1, b2, rfl, by go_num, ⟨by omega⟩, ⟨Nat.le_refl _⟩, HPN, rfl⟩
   ·obtain rfl : i = 2 := by have := hi.out; omega
    obtain rfl : b = B := HPK.out; have hn2 : ¬ ((2 : Nat) : Int) < 2 := by omega
    clear HPK
    by_cases hB0 : b.size = 0
    ·have hb0 : ((b.size : Int) == 0) = true := by simpa using hB0
     have hH := HH.out; rw [if_pos hB0] at hH; injection hH with hH
     subst hH; clear hB0 HH; go_wp2; go_ret; exact ⟨_, rfl, HNB.out, HBB.out⟩
    ·have hb0 : ((b.size : Int) == 0) = false := by simpa using hB0
     have hH := HH.out; rw [if_neg hB0] at hH
     by_cases hln : (zac.gath b [] s).length ≤ 1000000 ∧ l.length ≤ 1000000
     case neg => rw [if_neg hln] at hH; cases hH
     rw [if_pos hln] at hH; obtain ⟨G, hG⟩ : ∃ G, G = zac.gath b [] s := ⟨_, rfl⟩; rw [← hG] at hH hln; have HGA := zad.mk (show zac.gath b [] ([l0, l1].drop 0).flatten = G by rw [← HS.out, hG]); have HGL := zad.mk hln.1; have HLL := zad.mk hln.2; obtain ⟨⟨t1, t2⟩, hsort, hH⟩ := Option.bind_eq_some_iff.1 hH; simp only [] at hH; have HSO := zad.mk hsort; have HH2 := zad.mk hH; obtain ⟨gC, hgC⟩ : ∃ g, g = wB.heap.size := ⟨_, rfl⟩; obtain ⟨wC, hwC⟩ : ∃ W, W = wB.alloc (.cells #[.slice A0 l0.length c0, .slice A1 l1.length c1] 22) := ⟨_, rfl⟩; have HXC := zad.mk (show wC.heap[gC]? = some (.cells #[.slice A0 l0.length c0, .slice A1 l1.length c1] 22 (0, 0)) by rw [hwC, hgC]; exact Mem.zeo _ _ _); have HBC := zad.mk (show Below w.heap.size w wC by rw [hwC]; exact zbm HBB.out HBB.out.size (zbj (Below.refl _ _) _)); have HNC := zad.mk (show Kd.N k56 56 wC w.heap.size (fun k_ => ((P0_ k_ ∨ P1_ k_) ∨ w.heap.size ≤ k_)) (.slice Al l.length cl) l by rw [hwC]; exact Kd.zdl HNB.out _); have HGC := zad.mk hgC; have HWC := zad.mk hwC; clear hH hln hG hsort hgC hwC hB0 HH HNB HXB HGB HWB; go_wp2; go_loopg [11, 67] 2 (fun kx s11 s67 wx => ∃ (i : Nat) (a : List S81), s67 = .int .i64 i ∧ zad (i ≤ 2) ∧ zad (2 - i ≤ kx) ∧ zad (zac.gath b a ([l0, l1].drop i).flatten = G) ∧ zad (Kd.N k81 81 wx wC.heap.size (fun k_ => ((P0_ k_ ∨ P1_ k_) ∧ k_ < w.heap.size) ∨ wC.heap.size ≤ k_) s11 a) ∧ zad (Below wC.heap.size wC wx))
     case atStart => exact ⟨0, [], rfl, ⟨Nat.zero_le _⟩, ⟨Nat.le_refl _⟩, HGA, ⟨by rw [HWC.out]; exact Kd.zjb _ _ _ _ _⟩, ⟨by rw [HWC.out]; exact Below.refl _ _⟩⟩
     case round =>
      clear HGA; obtain ⟨i, a, rfl, hi, hkx, HGA, HNA, HBX⟩ := hrel
      by_cases hlt : i < 2
      ·obtain ⟨X, AX, cX, rest, hcell, hX, hXF, hd1, hd2⟩ := HROW.out i hlt; have HXX := zad.mk ((HBX.out.block gC (zcn HXC.out)).trans HXC.out); have hcB : wr.cell? ⟨wB.heap.size, i, none⟩ = some (.slice AX X.length cX) := by rw [← HGC.out]; exact (zcj HXX.out i).trans hcell
       have hi0 : (0 : Int) ≤ (i : Int) := by omega
       have hi2 : (i : Int) < 2 := by omega
       have hit : ((i : Int)).toNat = i := by omega
       have hw1 : wrap64 ((i : Int) + 1) = ((i + 1 : Nat) : Int) := by unfold wrap64; omega
       have HGJ := zad.mk (show zac.gath b a (X.drop 0 ++ rest) = G by rw [List.drop_zero, ← hd1]; exact HGA.out); have HD2 := zad.mk hd2; have HXF := zad.mk hXF; have HXL := zad.mk (Kd.F_max (hXF wC HBC.out)); clear hcell hX hXF hd1 hd2 HGA HXX; go_wp2; go_loopg [11, 14] X.length (fun ky s11 s14 wy => ∃ (j : Nat) (a2 : List S81), s14 = .int .i64 j ∧ zad (j ≤ X.length) ∧ zad (X.length - j ≤ ky) ∧ zad (zac.gath b a2 (X.drop j ++ rest) = G) ∧ zad (Kd.N k81 81 wy wC.heap.size (fun k_ => ((P0_ k_ ∨ P1_ k_) ∧ k_ < w.heap.size) ∨ wC.heap.size ≤ k_) s11 a2) ∧ zad (Below wC.heap.size wC wy))
       case atStart => exact ⟨0, a, rfl, ⟨Nat.zero_le _⟩, ⟨Nat.le_refl _⟩, HGJ, HNA, HBX⟩
       case round =>
        clear HGJ HNA HBX; obtain ⟨j, a2, rfl, hj, hky, HGJ, HNA, HBX⟩ := hrel
        by_cases hjl : j < X.length
        ·obtain ⟨x, hx⟩ : ∃ x, X[j]? = some x := ⟨_, List.getElem?_eq_getElem hjl⟩; have hP := HGJ.out; rw [show X.drop j = x :: X.drop (j + 1) by rw [List.drop_eq_getElem_cons hjl, (List.getElem?_eq_some_iff.1 hx).2], List.cons_append] at hP; simp only [zac.gath] at hP; have HP := zad.mk hP; have HBW := zad.mk (zbm HBC.out HBC.out.size HBX.out); obtain ⟨ad, cx, hA1, _, hFK, hcc, _⟩ := Kd.F_get (HXF.out wr HBW.out) z56 (j : Int) (by omega) (by omega); subst hA1; rw [show X.getD ((j : Int)).toNat z56 = x by simp [List.getD, hx]] at hFK; obtain ⟨Ax, cx1, hce, hlx, hFx⟩ := zhe hFK; subst hce; have hc0 : wr.cell? (ad.add (j * 2)) = some (.string x.f0) := hcc 0 _ rfl
         have hc1 : wr.cell? ⟨(ad.add (j * 2)).block, (ad.add (j * 2)).off + 1, none⟩ = some (.slice Ax x.f1.length cx1) := by
          rw [← zfw ad (j * 2) 1 (by decide)]; exact hcc 1 _ rfl
         have hjlt : (j : Int) < (X.length : Int) := by omega
         have hj0 : (0 : Int) ≤ (j : Int) := by omega
         have hjt : ((j : Int)).toNat = j := by omega
         have hwj : wrap64 ((j : Int) + 1) = ((j + 1 : Nat) : Int) := by have := HXL.out; unfold wrap64; omega
         have HFX := zad.mk hFx; have HLX := zad.mk hlx; clear hP hx hFK hcc hlx hFx hjl HGJ
         by_cases q1 : x.f0 = b
         ·have q1b : (x.f0.toList == b.toList) = true := beq_iff_eq.mpr (by rw [q1]); have HPN := zad.mk (show zac.gath b (a2 ++ x.f1) (X.drop (j + 1) ++ rest) = G by have := HP.out; rwa [if_pos q1] at this); have HLN := zad.mk (show (a2 ++ x.f1).length ≤ 1000000 from Nat.le_trans (by rw [← HPN.out]; exact zac.glen b _ _) HGL.out); clear q1 HP; go_wp2_with ((with_reducible refine zei (b := .append) (xs := #[.tmp 84, .tmp 89]) rfl ?_); at_builtin; refine Kd.zej k81 (w0 := wC) wC.heap.size rfl (.tmp 84) (.tmp 89) 54 81 (.agg #[(.slice none 0 0), (.int .i64 0)]) 32 rfl Tryd.underlying54 (by kernel_rfl) rfl (by decide) (by omega) _ a2 x.f1 Ax x.f1.length cx1 (fun k_ => ((P0_ k_ ∨ P1_ k_) ∧ k_ < w.heap.size) ∨ wC.heap.size ≤ k_) (fun k => (P0_ k ∨ P1_ k) ∧ k < w.heap.size) rfl rfl HNA.out HFX.out (fun k hk => ⟨.inl hk, fun he => Nat.not_le.2 hk.2 (Nat.le_trans HBC.out.size (Kd.zha HNA.out k he.symm))⟩) (fun k hk => .inr (Nat.le_trans HBX.out.size hk)) HBX.out HBX.out.size (by have := HLN.out; rw [List.length_append] at this; exact Nat.le_trans (Nat.mul_le_mul_right 32 this) (by decide)) ?_; intro v2 w3 hN2 hb2 hg hat; have HN2 := zad.mk hN2; have HB2 := zad.mk hb2; clear hN2 hb2 hg hat HNA HBX HFX HLX HLN); go_roundg (X.length - (j + 1))
          case measure => have := hky.out; omega
          case rel => exact ⟨j + 1, a2 ++ x.f1, by go_num, ⟨by omega⟩, ⟨Nat.le_refl _⟩, HPN, HN2, HB2⟩
         ·have q1b : (x.f0.toList == b.toList) = false := beq_eq_false_iff_ne.mpr (fun e => q1 (zac.inj e)); have HPN := zad.mk (show zac.gath b a2 (X.drop (j + 1) ++ rest) = G by have := HP.out; rwa [if_neg q1] at this); clear q1 HP; go_wp2; go_roundg (X.length - (j + 1))
          case measure => have := hky.out; omega
          case rel => exact ⟨j + 1, a2, by go_num, ⟨by omega⟩, ⟨Nat.le_refl _⟩, HPN, HNA, HBX⟩
        ·obtain rfl : j = X.length := by have := hj.out; omega
         have hnl : ¬ (X.length : Int) < (X.length : Int) := by omega
         have HPN := zad.mk (show zac.gath b a2 ([l0, l1].drop (i + 1)).flatten = G by have := HGJ.out; rw [List.drop_length, List.nil_append] at this; rw [HD2.out]; exact this); clear HGJ; go_wp2; go_roundg (2 - (i + 1))
         case measure => have := hkx.out; omega
         case rel => exact ⟨i + 1, a2, by go_num, ⟨by omega⟩, ⟨Nat.le_refl _⟩, HPN, HNA, HBX⟩
      ·obtain rfl : i = 2 := by have := hi.out; omega
       obtain rfl : a = G := HGA.out; have hn2 : ¬ ((2 : Nat) : Int) < 2 := by omega
       obtain ⟨Aa, ca, rfl⟩ := Kd.zdj HNA.out; clear HGA
       go_wp2_with (first
        | (go_at_call 34; refine (zab.calls gg _ Aa ca a t1 t2 wr (Kd.N_V HNA.out) HSO.out).mono ?_; rintro e w4 ⟨v4, rfl, hN4, hb4⟩; obtain ⟨A4, c4, rfl⟩ := Kd.zdj hN4; have HN4 := zad.mk hN4; have HB4 := zad.mk (zbm HBX.out HBX.out.size hb4); clear hN4 hb4)
        | (go_at_call 59; refine (zac.change l Al cl b t1 A4 c4 w4 w w.heap.size (fun k_ => ((P0_ k_ ∨ P1_ k_) ∨ w.heap.size ≤ k_)) _ (Kd.zgd HNC.out HB4.out) (Kd.N_F HN4.out) (Kd.zcs HN4.out).2.1 (fun k hk => ⟨hk.elim (fun h => h.elim (fun h => .inl h.1) (fun h => .inr (Nat.le_trans HBC.out.size h))) (fun h => .inr (Nat.le_trans HBC.out.size (Nat.le_trans HBX.out.size h))), fun he => by have h1 := Kd.N_lt HNC.out k he.symm; have h2 := Kd.zha HNC.out k he.symm; have h3 := HBX.out.size; rcases hk with (hk | hk) | hk <;> omega⟩) (fun k hk => .inr (Nat.le_trans HBC.out.size (Nat.le_trans HB4.out.size hk))) HLL.out (zbm HBC.out HBC.out.size HB4.out) (Nat.le_trans HBC.out.size HB4.out.size)).mono ?_; rintro e w5 ⟨v5, rfl, hN5, hb5⟩; obtain ⟨l2, hl2⟩ : ∃ l2, l2 = (if t1.length = 0 then l else l ++ [⟨b, t1⟩]) := ⟨_, rfl⟩; rw [← hl2] at hN5; have hH3 := HH2.out; rw [← hl2] at hH3; have HH3 := zad.mk hH3; obtain ⟨A5, c5, rfl⟩ := Kd.zdj hN5; have HN5 := zad.mk hN5; have HB5 := zad.mk hb5; clear hN5 hb5 hl2 hH3 HH2))
       go_roundg gg
       case measure => exact Nat.lt_succ_self gg
       case rel => exact ⟨l2, A5, c5, b, rfl, rfl, HH3, HN5, HB5⟩
def zak.look (n : ByteArray) : List S81 → List S56 → List S81
 | b, [] => b
 | b, x :: r => zak.look n (if x.f0 = n then x.f1 else b) r
def zak.l (k : Nat) : List S56 → List S56 → Option (List S56 × Int)
 | sum, [] => (zah.f k sum).bind fun b => if b = true then some (sum, 0) else some ([], 1)
 | sum, c :: r => if (zak.look c.f0 [] sum).length ≤ 1000000 ∧ c.f1.length ≤ 1000000 ∧ sum.length ≤ 1000000 then (zab.f k (zak.look c.f0 [] sum ++ c.f1)).bind fun t => if t.2 = 0 then (zac.f k sum [c]).bind fun s => zak.l k s r else some ([], t.2) else none
def zak.f (k : Nat) (l0 l1 : List S56) : Option (List S56 × Int) :=
 (zah.f k l0).bind fun a => if a = true then ((zbc.f k l1).bind fun b => if b = true then zak.l k l0 l1 else some ([], 1)) else some ([], 1)
theorem zak.lmono : ∀ (r out : List S56) (k : Nat), LeO (zak.l k out r) (zak.l (k + 1) out r) := by
 intro r
 induction r with
 | nil => exact fun out k => LeO.bind (zah.mono _ _) fun b => LeO.refl _
 | cons c r ih => exact fun out k => LeO.ite (LeO.bind (zab.mono _ _) fun t => LeO.ite (LeO.bind (zac.mono _ _ _) fun s => ih _ _) (LeO.refl _)) (LeO.refl _)
theorem zak.mono : ∀ a0 a1 k, LeO (zak.f k a0 a1) (zak.f (k + 1) a0 a1) := by
 exact fun a0 a1 k => LeO.bind (zah.mono _ _) fun a => LeO.ite (LeO.bind (zbc.mono _ _) fun b => LeO.ite (zak.lmono _ _ _) (LeO.refl _)) (LeO.refl _)
theorem zak.inj {a b : ByteArray} (h : a.toList = b.toList) : a = b := by
 rw [ByteArray.toList_eq, ByteArray.toList_eq] at h
 cases a; cases b; congr; exact Array.toList_inj.1 h
theorem zak.one (ad : Addr) (l : List S56) (i : Nat) (x : S56) (hx : l[i]? = some x) (W : World) (ok : Nat → Prop) (h : Kd.F k56 W ok (some ad) l.length l) : Kd.F k56 W ok (some (ad.add (i * 2))) 1 [x] := by
 obtain ⟨hi, hxe⟩ := List.getElem?_eq_some_iff.1 hx
 have e1 : (l.take (i + 1)).drop i = [x] := by
  rw [List.take_succ_eq_append_getElem hi, List.drop_left' (by rw [List.length_take]; omega), hxe]
 have h1 := Kd.F_cut (c := l.length) (m := i) (Kd.F_take h (m := i + 1) hi) (by rw [List.length_take]; omega) (by rw [List.length_take]; omega)
 rw [e1, if_neg (by omega)] at h1
 exact h1
theorem zak.calls (k : Nat) (P0_ : Nat → Prop) (A0 : Option Addr) (c0 : Nat) (l0 : List S56) (P1_ : Nat → Prop) (A1 : Option Addr) (c1 : Nat) (l1 : List S56) (r1 : List S56) (r2 : Int) (w : World) (hs0 : Kd.V k56 56 w w.heap.size (fun k_ => P0_ k_) (.slice A0 l0.length c0) l0) (hs1 : Kd.V k56 56 w w.heap.size (fun k_ => P1_ k_) (.slice A1 l1.length c1) l1) (h : zak.f k l0 l1 = some (r1, r2)) :
  Calls Tryd.prog 11 #[.slice A0 l0.length c0, .slice A1 l1.length c1] w fun e w' => ∃ v0_, e = .returned (.tuple #[v0_, .int .i64 r2]) ∧ Kd.V k56 56 w' w.heap.size (fun k_ => ((P0_ k_ ∨ P1_ k_) ∨ w.heap.size ≤ k_)) v0_ r1 ∧ Below w.heap.size w w' := by
 unfold zak.f at h; obtain ⟨a, ha, h⟩ := Option.bind_eq_some_iff.1 h; have HST := zad.mk (zah.calls k A0 c0 l0 a w (Kd.zbs hs0).2.2 (Kd.zbs hs0).2.1 ha); have HF1 := zad.mk (fun (W : World) (hb : Below w.heap.size w W) => (Kd.zdk (Kd.zgo (Kd.V_F hs1)) hb : Kd.F k56 W (fun k => P1_ k ∧ k < w.heap.size) A1 l1.length l1)); have HC1 := zad.mk (Kd.zbs hs1).2.1; have HS0 := zad.mk hs0; clear ha hs0 hs1; have nilV : ∀ W, Kd.V k56 56 W w.heap.size (fun k_ => ((P0_ k_ ∨ P1_ k_) ∨ w.heap.size ≤ k_)) (.slice none 0 0) [] := fun W => Kd.N_V (base' := w.heap.size) (Kd.zjb _ _ _ w.heap.size _); have NILV := zad.mk nilV; clear nilV
 cases a with
 | false =>
  simp only [if_neg (show ¬ (false = true) by decide)] at h; injection h with h; injection h with h1 h2; subst h1; subst h2
  go_enter Tryd.func11, Tryd.ntmps11; go_wp2_with (go_at_call 32; refine HST.out.mono ?_; rintro e w1 ⟨rfl, hb⟩; have HB := zad.mk hb; clear hb); go_ret2; exact ⟨_, rfl, NILV.out _, HB.out⟩
 | true =>
  rw [if_pos rfl] at h; obtain ⟨b, hb, h⟩ := Option.bind_eq_some_iff.1 h; have HIT := zad.mk (fun (W : World) (hw : Below w.heap.size w W) => zbc.calls k A1 c1 l1 b W (Kd.F_now (HF1.out W hw)) HC1.out hb); clear hb
  cases b with
  | false =>
   simp only [if_neg (show ¬ (false = true) by decide)] at h; injection h with h; injection h with h1 h2; subst h1; subst h2
   go_enter Tryd.func11, Tryd.ntmps11
   go_wp2_with (first
    | (go_at_call 32; refine HST.out.mono ?_; rintro e w1 ⟨rfl, hb⟩; have HB := zad.mk hb; clear hb)
    | (go_at_call 33; refine (HIT.out _ HB.out).mono ?_; rintro e w2 ⟨rfl, hb⟩; have HB2 := zad.mk (zbm HB.out HB.out.size hb); clear hb))
   go_ret2; exact ⟨_, rfl, NILV.out _, HB2.out⟩
  | true =>
   rw [if_pos rfl] at h; have H := zad.mk h; have hlm : l1.length ≤ 9223372036854775807 := Kd.F_max (HF1.out w (Below.refl _ _)); clear h; go_enter Tryd.func11, Tryd.ntmps11
   go_wp2_with (first
    | (go_at_call 32; refine HST.out.mono ?_; rintro e w1 ⟨rfl, hb⟩; have HB := zad.mk hb; clear hb)
    | (go_at_call 33; refine (HIT.out _ HB.out).mono ?_; rintro e w2 ⟨rfl, hb⟩; have HB2 := zad.mk (zbm HB.out HB.out.size hb); clear hb))
   go_loopg [6, 7] l1.length (fun gg s6 s7 wr => ∃ (i : Nat) (out : List S56) (Au : Option Addr) (cu : Nat), s6 = .slice Au out.length cu ∧ s7 = .int .i64 i ∧ zad (i ≤ l1.length) ∧ zad (l1.length - i ≤ gg) ∧ zad (zak.l k out (l1.drop i) = some (r1, r2)) ∧ zad (Kd.V k56 56 wr w.heap.size (fun k_ => ((P0_ k_ ∨ P1_ k_) ∨ w.heap.size ≤ k_)) (.slice Au out.length cu) out) ∧ zad (Below w.heap.size w wr))
   case atStart => exact ⟨0, l0, A0, c0, rfl, rfl, ⟨Nat.zero_le _⟩, ⟨Nat.le_refl _⟩, H, ⟨Kd.zds (Kd.zjg HS0.out HB2.out) (fun k hk => .inl (.inl hk))⟩, HB2⟩
   case round =>
    clear HB HB2 H HST HIT HS0; obtain ⟨i, out, Au, cu, rfl, rfl, hi, hgg, HA, HV, HB⟩ := hrel; obtain ⟨wq, hwq⟩ : ∃ W, W = wr := ⟨_, rfl⟩; subst hwq
    by_cases hlt : i < l1.length
    ·obtain ⟨x, hx⟩ : ∃ x, l1[i]? = some x := ⟨_, List.getElem?_eq_getElem hlt⟩; have hA := HA.out; rw [show l1.drop i = x :: l1.drop (i + 1) by rw [List.drop_eq_getElem_cons hlt, (List.getElem?_eq_some_iff.1 hx).2]] at hA; simp only [zak.l] at hA
     by_cases hcn : (zak.look x.f0 [] out).length ≤ 1000000 ∧ x.f1.length ≤ 1000000 ∧ out.length ≤ 1000000
     case neg => rw [if_neg hcn] at hA; cases hA
     rw [if_pos hcn] at hA; obtain ⟨⟨t1, t2⟩, hsort, hA⟩ := Option.bind_eq_some_iff.1 hA; simp only [] at hA; obtain ⟨ad, cx, hA1, _, hFK, hcc, _⟩ := Kd.F_get (HF1.out wq HB.out) z56 (i : Int) (by omega) (by omega); subst hA1; rw [show l1.getD ((i : Int)).toNat z56 = x by simp [List.getD, hx]] at hFK; obtain ⟨Ax, cx1, hce, hlx, hFx⟩ := zhe hFK; subst hce; have hc0 : wq.cell? (ad.add (i * 2)) = some (.string x.f0) := hcc 0 _ rfl
     have hc1 : wq.cell? ⟨(ad.add (i * 2)).block, (ad.add (i * 2)).off + 1, none⟩ = some (.slice Ax x.f1.length cx1) := by
      rw [← zfw ad (i * 2) 1 (by decide)]; exact hcc 1 _ rfl
     have HCX := zad.mk (fun (W : World) (hW : Below wq.heap.size wq W) => (⟨(hW.cell (p := ad.add (i * 2)) (World.block_lt_of_cell? wq _ hc0)).trans hc0, (hW.cell (p := ⟨(ad.add (i * 2)).block, (ad.add (i * 2)).off + 1, none⟩) (World.block_lt_of_cell? wq _ hc1)).trans hc1⟩ : W.cell? (ad.add (i * 2)) = some (.string x.f0) ∧ W.cell? ⟨(ad.add (i * 2)).block, (ad.add (i * 2)).off + 1, none⟩ = some (.slice Ax x.f1.length cx1))); have HFX := zad.mk (fun (W : World) (hW : Below w.heap.size w W) => Kd.F_step hFx (W1 := W) (fun k hk _ => (hW.block k hk.2).trans (HB.out.block k hk.2).symm)); have HLX := zad.mk hlx; have HSF := zad.mk (fun (W : World) (hb : Below wq.heap.size wq W) => (Kd.zdk (Kd.zgo (Kd.V_F HV.out)) hb : Kd.F k56 W (fun k => ((P0_ k ∨ P1_ k) ∨ w.heap.size ≤ k) ∧ k < wq.heap.size) Au out.length out)); have HOL := zad.mk (Kd.F_max (HSF.out wq (Below.refl _ _))); obtain ⟨WAS, hWAS⟩ : ∃ b, b = zak.look x.f0 [] out := ⟨_, rfl⟩; rw [← hWAS] at hcn hsort; have HLK := zad.mk (show zak.look x.f0 [] (out.drop 0) = WAS from hWAS.symm); have HCN := zad.mk hcn; have HSO := zad.mk hsort; have HA2 := zad.mk hA; have HONE := zad.mk (zak.one ad l1 i x hx); have hci : ¬ c1 = i := by have := HC1.out; omega
     have hcj : (i : Int) + 1 ≤ (c1 : Int) := by have := HC1.out; omega
     have hck : (0 : Int) ≤ (i : Int) + 1 := by omega
     have hilt : (i : Int) < (l1.length : Int) := by omega
     have hi0 : (0 : Int) ≤ (i : Int) := by omega
     have hit : ((i : Int)).toNat = i := by omega
     have hwi : wrap64 ((i : Int) + 1) = ((i + 1 : Nat) : Int) := by unfold wrap64; omega
     clear hcn hsort hA hFK hcc hlx hFx hc0 hc1 hWAS HA hx hlt; go_wp2; go_loopg [8, 9] out.length (fun gg s8 s9 wy => ∃ (q : Nat) (b : List S81) (Ab : Option Addr) (cb : Nat), s8 = .slice Ab b.length cb ∧ s9 = .int .i64 q ∧ zad (q ≤ out.length) ∧ zad (out.length - q ≤ gg) ∧ zad (zak.look x.f0 b (out.drop q) = WAS) ∧ zad (b.length ≤ cb) ∧ zad (∀ W, Below wq.heap.size wq W → Kd.F k81 W (fun k => ((P0_ k ∨ P1_ k) ∨ w.heap.size ≤ k) ∧ k < wq.heap.size) Ab b.length b) ∧ zad (Below wq.heap.size wq wy))
     case atStart => exact ⟨0, [], none, 0, rfl, rfl, ⟨Nat.zero_le _⟩, ⟨Nat.le_refl _⟩, HLK, ⟨Nat.le_refl _⟩, ⟨fun W _ => Kd.F_nil _ _ _⟩, ⟨Below.refl _ _⟩⟩
     case round =>
      clear HLK; obtain ⟨q, b, Ab, cb, rfl, rfl, hq, hgq, HLK, HBC, HBF, HBQ⟩ := hrel; obtain ⟨hx0, hx1⟩ := HCX.out wr HBQ.out
      by_cases hql : q < out.length
      ·obtain ⟨y, hy⟩ : ∃ y, out[q]? = some y := ⟨_, List.getElem?_eq_getElem hql⟩; have hP := HLK.out; rw [show out.drop q = y :: out.drop (q + 1) by rw [List.drop_eq_getElem_cons hql, (List.getElem?_eq_some_iff.1 hy).2]] at hP; simp only [zak.look] at hP; have HP := zad.mk hP; obtain ⟨ad2, cy, hA2, _, hFK2, hcc2, _⟩ := Kd.F_get (HSF.out wr HBQ.out) z56 (q : Int) (by omega) (by omega); subst hA2; rw [show out.getD ((q : Int)).toNat z56 = y by simp [List.getD, hy]] at hFK2; obtain ⟨Ay, cy1, hce2, hly, hFy⟩ := zhe hFK2; subst hce2; have hy0 : wr.cell? (ad2.add (q * 2)) = some (.string y.f0) := hcc2 0 _ rfl
       have hy1 : wr.cell? ⟨(ad2.add (q * 2)).block, (ad2.add (q * 2)).off + 1, none⟩ = some (.slice Ay y.f1.length cy1) := by
        rw [← zfw ad2 (q * 2) 1 (by decide)]; exact hcc2 1 _ rfl
       have HFY := zad.mk (fun (W : World) (hW : Below wq.heap.size wq W) => Kd.F_step hFy (W1 := W) (fun k hk _ => (hW.block k hk.2).trans (HBQ.out.block k hk.2).symm)); have HLY := zad.mk hly; have hqlt : (q : Int) < (out.length : Int) := by omega
       have hq0 : (0 : Int) ≤ (q : Int) := by omega
       have hqt : ((q : Int)).toNat = q := by omega
       have HM := zad.mk (show ∀ g, out.length - q ≤ g → out.length - (q + 1) < g from fun g h => by omega); have HQ1 := zad.mk (show q + 1 ≤ out.length by omega); have hwj : wrap64 ((q : Int) + 1) = ((q + 1 : Nat) : Int) := by have := HOL.out; unfold wrap64; omega
       clear hP hy hFK2 hcc2 hly hFy hql HLK
       by_cases q1 : y.f0 = x.f0
       ·have q1b : (y.f0.toList == x.f0.toList) = true := beq_iff_eq.mpr (congrArg ByteArray.toList q1); have HPN := zad.mk (show zak.look x.f0 y.f1 (out.drop (q + 1)) = WAS by have := HP.out; rwa [if_pos q1] at this); clear q1 HP; go_wp2; go_quiet (fail); go_wp2; go_roundg (out.length - (q + 1))
        case measure => exact HM.out _ hgq.out
        case rel => exact ⟨q + 1, y.f1, Ay, cy1, rfl, by go_num, HQ1, ⟨Nat.le_refl _⟩, HPN, HLY, HFY, ⟨zci HBQ.out _⟩⟩
       ·have q1b : (y.f0.toList == x.f0.toList) = false := beq_eq_false_iff_ne.mpr (fun e => q1 (zak.inj e)); have HPN := zad.mk (show zak.look x.f0 b (out.drop (q + 1)) = WAS by have := HP.out; rwa [if_neg q1] at this); clear q1 HP; go_wp2; go_quiet (fail); go_wp2; go_roundg (out.length - (q + 1))
        case measure => exact HM.out _ hgq.out
        case rel => exact ⟨q + 1, b, Ab, cb, rfl, by go_num, HQ1, ⟨Nat.le_refl _⟩, HPN, HBC, HBF, ⟨zci HBQ.out _⟩⟩
      ·obtain rfl : q = out.length := by have := hq.out; omega
       obtain rfl : b = WAS := by have := HLK.out; rw [List.drop_length] at this; exact this
       have hnl : ¬ (out.length : Int) < (out.length : Int) := by omega
       clear HLK hql HSF HOL; obtain ⟨wz, hwz⟩ : ∃ W, W = wr := ⟨_, rfl⟩; subst hwz; have HBZ := zad.mk (zbm HB.out HB.out.size HBQ.out); have hd1 := (HCX.out wz.drew (zdi HBQ.out)).2; obtain ⟨T, hT⟩ : ∃ T, T = b ++ x.f1 := ⟨_, rfl⟩; have HSO := zad.mk (show zab.f k T = some (t1, t2) by rw [hT]; exact HSO.out); have HT := zad.mk hT; clear hT; go_wp2_with fail
       go_region_law (first
        | (refine Kd.zhh k81 (w0 := wz) wz.heap.size rfl (.tmp 51) (.tmp 52) 54 81 (.agg #[(.slice none 0 0), (.int .i64 0)]) 32 rfl Tryd.underlying54 (by kernel_rfl) rfl (by decide) (by omega) (.slice none 0 0) ([] : List S81) b Ab b.length cb (fun k_ => ((P0_ k_ ∨ P1_ k_) ∨ w.heap.size ≤ k_)) (fun k => ((P0_ k ∨ P1_ k) ∨ w.heap.size ≤ k) ∧ k < wq.heap.size) (by kernel_rfl) (by kernel_rfl) (Kd.zjb _ _ _ _ _) (HBF.out _ (zdi HBQ.out)) (fun k hk => ⟨hk.1, by simp [Value.ownBlock]⟩) (fun k hk => .inr (Nat.le_trans HBZ.out.size hk)) (zdi (Below.refl _ _)) (Nat.le_refl _) (by have := HCN.out.1; show (0 + b.length) * 32 ≤ _; omega) ?_; intro v1 w1 hN1 hb1 hg1 hat1; have HN1 := zad.mk hN1; have HB1 := zad.mk hb1; have hd2 := (HCX.out w1 (zbm HBQ.out HBQ.out.size hb1)).2; clear hN1 hb1 hg1 hat1)
        | (refine Kd.zhh k81 (w0 := wz) wz.heap.size rfl (.tmp 53) (.tmp 58) 54 81 (.agg #[(.slice none 0 0), (.int .i64 0)]) 32 rfl Tryd.underlying54 (by kernel_rfl) rfl (by decide) (by omega) v1 ([] ++ b) x.f1 Ax x.f1.length cx1 (fun k_ => ((P0_ k_ ∨ P1_ k_) ∨ w.heap.size ≤ k_)) (fun k => P1_ k ∧ k < w.heap.size) (by kernel_rfl) (by kernel_rfl) HN1.out (HFX.out _ (zbm HBZ.out HBZ.out.size HB1.out)) (fun k hk => ⟨.inl (.inr hk.1), fun he => Nat.not_le.2 hk.2 (Nat.le_trans HBZ.out.size (Kd.zha HN1.out k he.symm))⟩) (fun k hk => .inr (Nat.le_trans HBZ.out.size (Nat.le_trans HB1.out.size hk))) HB1.out HB1.out.size (by have := HCN.out; rw [List.nil_append]; omega) ?_; intro v2 w2 hN2 hb2 hg2 hat2; rw [List.nil_append, ← HT.out] at hN2; obtain ⟨A2, c2, rfl⟩ := Kd.zdj hN2; have HN2 := zad.mk hN2; have HB2 := zad.mk hb2; clear hN2 hb2 hg2 hat2)
        | (go_simp; go_at_call 34; ((with_reducible refine (zab.calls k _ A2 c2 T t1 t2 w2 (Kd.N_V HN2.out) HSO.out).mono ?_)); rintro e w3 ⟨v3, rfl, hN3, hb3⟩; have HB3 := zad.mk (zbm HBQ.out HBQ.out.size (zbm HB2.out HB2.out.size hb3)); clear hN3 hb3)
        | fail)
       all_goals
        have hA := HA2.out
        by_cases hs : t2 = 0
        ·subst hs; rw [if_pos rfl] at hA; obtain ⟨o2, hadd, hA⟩ := Option.bind_eq_some_iff.1 hA; have HA3 := zad.mk hA; have hle : 1 ≤ c1 - i := by have := HC1.out; omega
         have HAD := zad.mk (fun (W : World) (hW : Below wq.heap.size wq W) => show Calls Tryd.prog 35 #[.slice Au out.length cu, .slice (some (ad.add (i * 2))) 1 (c1 - i)] W fun e w' => ∃ v0_, e = .returned v0_ ∧ Kd.N k56 56 w' W.heap.size (fun k_ => (((P0_ k_ ∨ P1_ k_) ∨ w.heap.size ≤ k_) ∨ (P1_ k_ ∧ k_ < w.heap.size)) ∨ W.heap.size ≤ k_) v0_ o2 ∧ Below W.heap.size W w' from zac.calls k _ Au cu out (fun k_ => P1_ k_ ∧ k_ < w.heap.size) (some (ad.add (i * 2))) (c1 - i) [x] o2 W (Kd.zjg HV.out hW) (Kd.V_mk hle (HONE.out W _ (HF1.out W (zbm HB.out HB.out.size hW)))) hadd); clear hA hadd HA2 HSO hle; go_wp2_with (go_at_call 35; ((with_reducible refine (HAD.out _ HB3.out).mono ?_)); rintro e w6 ⟨v6, rfl, hN6, hb6⟩; obtain ⟨A6, c6, rfl⟩ := Kd.zdj hN6; have HN6 := zad.mk hN6; have HB6 := zad.mk (zbm HB.out HB.out.size (zbm HB3.out HB3.out.size hb6)); have HS3 := zad.mk (zbm HB.out HB.out.size HB3.out).size; clear hN6 hb6); go_roundg (l1.length - (i + 1))
         case measure => have := hgg.out; omega
         case rel => exact ⟨i + 1, o2, A6, c6, rfl, by go_num, ⟨by omega⟩, ⟨Nat.le_refl _⟩, HA3, ⟨Kd.zds (Kd.N_V HN6.out) (fun k hk => hk.elim (fun h => h.elim id (fun h => .inl (.inr h.1))) (fun h => .inr (Nat.le_trans HS3.out h)))⟩, HB6⟩
        ·rw [if_neg hs] at hA; injection hA with hA; injection hA with hr1 hr2; subst hr1; subst hr2
         have hsb : (t2 != 0) = true := by simpa using hs
         clear HA2 HSO; go_wp2; go_ret2; exact ⟨_, rfl, NILV.out _, zbm HB.out HB.out.size HB3.out⟩
    ·obtain rfl : i = l1.length := by have := hi.out; omega
     have hA := HA.out; rw [List.drop_length] at hA; simp only [zak.l] at hA; obtain ⟨b, hb, hA⟩ := Option.bind_eq_some_iff.1 hA; have HST2 := zad.mk (zah.calls k Au cu out b wq (Kd.zbs HV.out).2.2 (Kd.zbs HV.out).2.1 hb); have HR := zad.mk hA; have hnl : ¬ (l1.length : Int) < (l1.length : Int) := by omega
     clear hb hA HA hgg hi hlt
     cases b with
     | true =>
      have hR := HR.out; rw [if_pos rfl] at hR; injection hR with hR; injection hR with hr1 hr2; subst hr1; subst hr2
      clear HR; go_wp2_with (go_at_call 32; refine HST2.out.mono ?_; rintro e w5 ⟨rfl, hb⟩; have HV5 := zad.mk (Kd.zjg HV.out hb); have HB5 := zad.mk (zbm HB.out HB.out.size hb); clear hb); go_ret2; exact ⟨_, rfl, HV5.out, HB5.out⟩
     | false =>
      have hR := HR.out; rw [if_neg (by decide)] at hR; injection hR with hR; injection hR with hr1 hr2; subst hr1; subst hr2
      clear HR; go_wp2_with (go_at_call 32; refine HST2.out.mono ?_; rintro e w5 ⟨rfl, hb⟩; have HB5 := zad.mk (zbm HB.out HB.out.size hb); clear hb); go_ret2; exact ⟨_, rfl, NILV.out _, HB5.out⟩
def zba.l0 : Nat → List (S81) → List (S81) → Int → Option (Bool)
 | 0, _, _, _ => none
 | k + 1, x0, x1, x5 => if x5 < (x0.length : Int) then (if 0 ≤ x5 then (if x5 < (x1.length : Int) then (if ((zal x0 x5).f1) = ((zal x1 x5).f1) then ((zap.f k ((zal x0 x5).f0) ((zal x1 x5).f0)).bind fun t345 => (if t345 = true then (zba.l0 k x0 x1 (wrap64 (x5 + 1))) else (some false))) else (some false)) else (none)) else (none)) else (some true)
def zba.f (k : Nat) (l0 : List (S81)) (l1 : List (S81)) : Option (Bool) := if (l0.length : Int) = (l1.length : Int) then (zba.l0 k l0 l1 0) else (some false)
theorem zba.zbt : ∀ k, (∀ y0 y1 y2, LeO (zba.l0 k y0 y1 y2) (zba.l0 (k + 1) y0 y1 y2))
 | 0 => fun _ _ _ r h => by simp [zba.l0] at h
 | k + 1 => by
  have ih0 := zba.zbt k
  ·intro y0 y1 y2
   unfold zba.l0
   with_reducible repeat' first
   | apply ih0
   | apply zap.mono
   | apply LeO.refl
   | apply LeO.none
   | refine LeO.ite ?_ ?_
   | refine LeO.bind ?_ (fun _ => ?_)
theorem zba.mono : ∀ a0 a1 k, LeO (zba.f k a0 a1) (zba.f (k + 1) a0 a1) := by
 intro a0 a1 k
 have ih0 := zba.zbt k
 unfold zba.f
 with_reducible repeat' first
   | apply ih0
   | apply zap.mono
   | apply LeO.refl
   | apply LeO.none
   | refine LeO.ite ?_ ?_
   | refine LeO.bind ?_ (fun _ => ?_)
theorem zba.calls (k : Nat) (A0 : Option Addr) (c0 : Nat) (l0 : List (S81)) (A1 : Option Addr) (c1 : Nat) (l1 : List (S81)) (r : Bool) (w : World) (hr0 : Kd.C k81 w A0 l0.length l0) (hc0 : l0.length ≤ c0) (hr1 : Kd.C k81 w A1 l1.length l1) (hc1 : l1.length ≤ c1) (h : zba.f k l0 l1 = some r) :
  Calls Tryd.prog 36 #[.slice A0 l0.length c0, .slice A1 l1.length c1] w fun e w' => e = .returned (.bool r) ∧ zcx w w' := by
 have HR0 := ak_ hr0; have HC0 := ak_ hc0; clear hr0 hc0; have HR1 := ak_ hr1; have HC1 := ak_ hc1; clear hr1 hc1; have H : (if (l0.length : Int) = (l1.length : Int) then (zba.l0 k l0 l1 0) else (some false)) = some r := h; clear h
 by_cases c3 : (l0.length : Int) = (l1.length : Int)
 ·rw [if_pos c3] at H; have c3b0 := bq_ c3; have c3b1 := bq0_ c3; have c3b2 : (l0.length == l1.length) = true := q44_; clear c3; have H' := ak_ H; clear H; go_enter Tryd.func36, Tryd.ntmps36; go_wp2
  repeat (go_quiet (fail); try go_wp2)
  go_loopg [5] k (fun kq v5 w' => ∃ (x5_1 : Int), v5 = .int .i64 x5_1 ∧ zad (zba.l0 kq l0 l1 x5_1 = some r) ∧ zad (kq ≤ k) ∧ zcx w w')
  case atStart => exact ⟨(0), q5_, H', ⟨Nat.le_refl _⟩, q7_⟩
  case round =>
   clear H'; (try clear c3b0 c3b1 c3b2); obtain ⟨x5_1, rfl, HA, HK1, ⟨m1, rfl⟩⟩ := hrel
   cases gk with
   | zero => exact absurd HA.out (by simp [zba.l0])
   | succ k1 =>
    have H := HA.out; clear HA; simp only [zba.l0] at H
    by_cases c4 : x5_1 < (l0.length : Int)
    ·rw [if_pos c4] at H; have c4b0 := decide_eq_true c4; clear c4
     by_cases c5 : 0 ≤ x5_1
     ·rw [if_pos c5] at H; have c5b0 := decide_eq_true c5; clear c5
      by_cases c6 : x5_1 < (l1.length : Int)
      ·rw [if_pos c6] at H; have c6b0 := decide_eq_true c6; clear c6; have p341 : 0 ≤ (x5_1 : Int) := of_decide_eq_true q3_; have q341 : x5_1 < (l0.length : Int) := of_decide_eq_true q3_; obtain ⟨ad341, A341_0, c341_0, e341, hx341_0, hx341_1, hl341_0, hi341_0⟩ := zcq HR0.out x5_1 p341 q341; cases e341; have HR341_0 := ak_ hi341_0; have HC341_0 := ak_ hl341_0; clear hi341_0 hl341_0; replace p341 := eq_true p341; replace q341 := eq_true q341; have p342 : 0 ≤ (x5_1 : Int) := of_decide_eq_true q3_; have q342 : x5_1 < (l1.length : Int) := of_decide_eq_true q3_; obtain ⟨ad342, A342_0, c342_0, e342, hx342_0, hx342_1, hl342_0, hi342_0⟩ := zcq HR1.out x5_1 p342 q342; cases e342; have HR342_0 := ak_ hi342_0; have HC342_0 := ak_ hl342_0; clear hi342_0 hl342_0; replace p342 := eq_true p342; replace q342 := eq_true q342
       by_cases c7 : ((zal l0 x5_1).f1) = ((zal l1 x5_1).f1)
       ·rw [if_pos c7] at H; have c7b0 := bq_ c7; have c7b1 := bq0_ c7; clear c7; obtain ⟨t345, A8, H⟩ := bi_ H; replace H : (if t345 = true then (zba.l0 k1 l0 l1 (wrap64 (x5_1 + 1))) else (some false)) = some r := H; have p343 : 0 ≤ (x5_1 : Int) := of_decide_eq_true q3_; have q343 : x5_1 < (l0.length : Int) := of_decide_eq_true q3_; obtain ⟨ad343, A343_0, c343_0, e343, hx343_0, hx343_1, hl343_0, hi343_0⟩ := zcq HR0.out x5_1 p343 q343; obtain rfl : ad341 = ad343 := (by injection e343); have HR343_0 := ak_ hi343_0; have HC343_0 := ak_ hl343_0; clear hi343_0 hl343_0; replace p343 := eq_true p343; replace q343 := eq_true q343; have ea_ := Option.some.inj (hx341_0.symm.trans hx343_0); injection ea_ with ea_ en_ ec_
        subst ea_; subst ec_; clear en_; have p344 : 0 ≤ (x5_1 : Int) := of_decide_eq_true q3_; have q344 : x5_1 < (l1.length : Int) := of_decide_eq_true q3_; obtain ⟨ad344, A344_0, c344_0, e344, hx344_0, hx344_1, hl344_0, hi344_0⟩ := zcq HR1.out x5_1 p344 q344; obtain rfl : ad342 = ad344 := (by injection e344); have HR344_0 := ak_ hi344_0; have HC344_0 := ak_ hl344_0; clear hi344_0 hl344_0; replace p344 := eq_true p344; replace q344 := eq_true q344; have ea_ := Option.some.inj (hx342_0.symm.trans hx344_0); injection ea_ with ea_ en_ ec_
        subst ea_; subst ec_; clear en_
        by_cases c9 : t345 = true
        ·subst c9; replace H := ifT_ H; have H' := ak_ H; clear H; go_wp2_with (first | (go_at_call 60; (with_reducible refine (zap.calls k1 _ _ ((zal l0 x5_1).f0) _ _ ((zal l1 x5_1).f0) true _ ?side1 HC343_0.out ?side3 HC344_0.out A8.out).mono ?_); (case side1 => exact cx_ HR343_0.out); (case side3 => exact cx_ HR344_0.out); rintro e w' ⟨rfl, ⟨nd, rfl⟩⟩; (try first | exact ⟨rfl, _, World.drewN_drewN _ _ _⟩ | exact ⟨rfl, _, Eq.trans (World.drewN_drewN _ _ _) (congrArg (World.drewN _) (Nat.add_assoc _ _ _))⟩)))
         repeat (go_quiet (first | (go_at_call 60; (with_reducible refine (zap.calls k1 _ _ ((zal l0 x5_1).f0) _ _ ((zal l1 x5_1).f0) true _ ?side1 HC343_0.out ?side3 HC344_0.out A8.out).mono ?_); (case side1 => exact cx_ HR343_0.out); (case side3 => exact cx_ HR344_0.out); rintro e w' ⟨rfl, ⟨nd, rfl⟩⟩; (try first | exact ⟨rfl, _, World.drewN_drewN _ _ _⟩ | exact ⟨rfl, _, Eq.trans (World.drewN_drewN _ _ _) (congrArg (World.drewN _) (Nat.add_assoc _ _ _))⟩))); try go_wp2_with (first | (go_at_call 60; (with_reducible refine (zap.calls k1 _ _ ((zal l0 x5_1).f0) _ _ ((zal l1 x5_1).f0) true _ ?side1 HC343_0.out ?side3 HC344_0.out A8.out).mono ?_); (case side1 => exact cx_ HR343_0.out); (case side3 => exact cx_ HR344_0.out); rintro e w' ⟨rfl, ⟨nd, rfl⟩⟩; (try first | exact ⟨rfl, _, World.drewN_drewN _ _ _⟩ | exact ⟨rfl, _, Eq.trans (World.drewN_drewN _ _ _) (congrArg (World.drewN _) (Nat.add_assoc _ _ _))⟩))))
         go_roundg k1
         case measure => have := HK1.out; omega
         case rel => exact ⟨(wrap64 (x5_1 + 1)), q5_, H', ⟨kq_⟩, q7_⟩
        ·replace c9 := Bool.eq_false_iff.mpr c9; subst c9; replace H := ifF_ H; obtain rfl := Option.some.inj H; go_wp2_with (first | (go_at_call 60; (with_reducible refine (zap.calls k1 _ _ ((zal l0 x5_1).f0) _ _ ((zal l1 x5_1).f0) false _ ?side1 HC343_0.out ?side3 HC344_0.out A8.out).mono ?_); (case side1 => exact cx_ HR343_0.out); (case side3 => exact cx_ HR344_0.out); rintro e w' ⟨rfl, ⟨nd, rfl⟩⟩; (try first | exact ⟨rfl, _, World.drewN_drewN _ _ _⟩ | exact ⟨rfl, _, Eq.trans (World.drewN_drewN _ _ _) (congrArg (World.drewN _) (Nat.add_assoc _ _ _))⟩)))
         repeat (go_quiet (first | (go_at_call 60; (with_reducible refine (zap.calls k1 _ _ ((zal l0 x5_1).f0) _ _ ((zal l1 x5_1).f0) false _ ?side1 HC343_0.out ?side3 HC344_0.out A8.out).mono ?_); (case side1 => exact cx_ HR343_0.out); (case side3 => exact cx_ HR344_0.out); rintro e w' ⟨rfl, ⟨nd, rfl⟩⟩; (try first | exact ⟨rfl, _, World.drewN_drewN _ _ _⟩ | exact ⟨rfl, _, Eq.trans (World.drewN_drewN _ _ _) (congrArg (World.drewN _) (Nat.add_assoc _ _ _))⟩))); try go_wp2_with (first | (go_at_call 60; (with_reducible refine (zap.calls k1 _ _ ((zal l0 x5_1).f0) _ _ ((zal l1 x5_1).f0) false _ ?side1 HC343_0.out ?side3 HC344_0.out A8.out).mono ?_); (case side1 => exact cx_ HR343_0.out); (case side3 => exact cx_ HR344_0.out); rintro e w' ⟨rfl, ⟨nd, rfl⟩⟩; (try first | exact ⟨rfl, _, World.drewN_drewN _ _ _⟩ | exact ⟨rfl, _, Eq.trans (World.drewN_drewN _ _ _) (congrArg (World.drewN _) (Nat.add_assoc _ _ _))⟩))))
         go_ret; exact ⟨q5_, q7_⟩
       ·rw [if_neg c7] at H; have c7b0 := bn_ c7; have c7b1 := bn1_ c7; obtain rfl := Option.some.inj H; go_wp2
        repeat (go_quiet (fail); try go_wp2)
        go_ret; exact ⟨q5_, q7_⟩
      ·rw [if_neg c6] at H; exact absurd H (by simp)
     ·rw [if_neg c5] at H; exact absurd H (by simp)
    ·rw [if_neg c4] at H; have c4b0 := decide_eq_false c4; clear c4; obtain rfl := Option.some.inj H; go_wp2
     repeat (go_quiet (fail); try go_wp2)
     go_ret; exact ⟨q5_, q7_⟩
 ·rw [if_neg c3] at H; have c3b0 := bn_ c3; have c3b1 := bn1_ c3; have c3b2 : (l0.length == l1.length) = false := q44_; obtain rfl := Option.some.inj H; go_enter Tryd.func36, Tryd.ntmps36; go_wp2
  repeat (go_quiet (fail); try go_wp2)
  go_ret; exact ⟨q5_, q7_⟩
def zaq.l0 : Nat → List (S56) → List (S56) → Int → Option (Bool)
 | 0, _, _, _ => none
 | k + 1, x0, x1, x5 => if x5 < (x0.length : Int) then (if 0 ≤ x5 then (if x5 < (x1.length : Int) then (if ((zbg x0 x5).f0).toList = ((zbg x1 x5).f0).toList then ((zba.f k ((zbg x0 x5).f1) ((zbg x1 x5).f1)).bind fun t350 => (if t350 = true then (zaq.l0 k x0 x1 (wrap64 (x5 + 1))) else (some false))) else (some false)) else (none)) else (none)) else (some true)
def zaq.f (k : Nat) (l0 : List (S56)) (l1 : List (S56)) : Option (Bool) := if (l0.length : Int) = (l1.length : Int) then (zaq.l0 k l0 l1 0) else (some false)
theorem zaq.zbt : ∀ k, (∀ y0 y1 y2, LeO (zaq.l0 k y0 y1 y2) (zaq.l0 (k + 1) y0 y1 y2))
 | 0 => fun _ _ _ r h => by simp [zaq.l0] at h
 | k + 1 => by
  have ih0 := zaq.zbt k
  ·intro y0 y1 y2
   unfold zaq.l0
   with_reducible repeat' first
   | apply ih0
   | apply zba.mono
   | apply LeO.refl
   | apply LeO.none
   | refine LeO.ite ?_ ?_
   | refine LeO.bind ?_ (fun _ => ?_)
theorem zaq.mono : ∀ a0 a1 k, LeO (zaq.f k a0 a1) (zaq.f (k + 1) a0 a1) := by
 intro a0 a1 k
 have ih0 := zaq.zbt k
 unfold zaq.f
 with_reducible repeat' first
   | apply ih0
   | apply zba.mono
   | apply LeO.refl
   | apply LeO.none
   | refine LeO.ite ?_ ?_
   | refine LeO.bind ?_ (fun _ => ?_)
theorem zaq.calls (k : Nat) (A0 : Option Addr) (c0 : Nat) (l0 : List (S56)) (A1 : Option Addr) (c1 : Nat) (l1 : List (S56)) (r : Bool) (w : World) (hr0 : Kd.C k56 w A0 l0.length l0) (hc0 : l0.length ≤ c0) (hr1 : Kd.C k56 w A1 l1.length l1) (hc1 : l1.length ≤ c1) (h : zaq.f k l0 l1 = some r) :
  Calls Tryd.prog 12 #[.slice A0 l0.length c0, .slice A1 l1.length c1] w fun e w' => e = .returned (.bool r) ∧ zcx w w' := by
 have HR0 := ak_ hr0; have HC0 := ak_ hc0; clear hr0 hc0; have HR1 := ak_ hr1; have HC1 := ak_ hc1; clear hr1 hc1; have H : (if (l0.length : Int) = (l1.length : Int) then (zaq.l0 k l0 l1 0) else (some false)) = some r := h; clear h; go_enter Tryd.func12, Tryd.ntmps12
 by_cases c3 : (l0.length : Int) = (l1.length : Int)
 ·rw [if_pos c3] at H; have c3b0 := bq_ c3; have c3b1 := bq0_ c3; have c3b2 : (l0.length == l1.length) = true := q44_; clear c3; have H' := ak_ H; clear H; go_wp2
  repeat (go_quiet (fail); try go_wp2)
  go_loopg [5] k (fun kq v5 w' => ∃ (x5_1 : Int), v5 = .int .i64 x5_1 ∧ zad (zaq.l0 kq l0 l1 x5_1 = some r) ∧ zad (kq ≤ k) ∧ zcx w w')
  case atStart => exact ⟨(0), q5_, H', ⟨Nat.le_refl _⟩, q7_⟩
  case round =>
   clear H'; (try clear c3b0 c3b1 c3b2); obtain ⟨x5_1, rfl, HA, HK1, ⟨m1, rfl⟩⟩ := hrel
   cases gk with
   | zero => exact absurd HA.out (by simp [zaq.l0])
   | succ k1 =>
    have H := HA.out; clear HA; simp only [zaq.l0] at H
    by_cases c4 : x5_1 < (l0.length : Int)
    ·rw [if_pos c4] at H; have c4b0 := decide_eq_true c4; clear c4
     by_cases c5 : 0 ≤ x5_1
     ·rw [if_pos c5] at H; have c5b0 := decide_eq_true c5; clear c5
      by_cases c6 : x5_1 < (l1.length : Int)
      ·rw [if_pos c6] at H; have c6b0 := decide_eq_true c6; clear c6; have p346 : 0 ≤ (x5_1 : Int) := of_decide_eq_true q3_; have q346 : x5_1 < (l0.length : Int) := of_decide_eq_true q3_; obtain ⟨ad346, A346_1, c346_1, e346, hx346_0, hx346_1, hl346_1, hi346_1⟩ := zfa HR0.out x5_1 p346 q346; cases e346; have HR346_1 := ak_ hi346_1; have HC346_1 := ak_ hl346_1; clear hi346_1 hl346_1; replace p346 := eq_true p346; replace q346 := eq_true q346; have p347 : 0 ≤ (x5_1 : Int) := of_decide_eq_true q3_; have q347 : x5_1 < (l1.length : Int) := of_decide_eq_true q3_; obtain ⟨ad347, A347_1, c347_1, e347, hx347_0, hx347_1, hl347_1, hi347_1⟩ := zfa HR1.out x5_1 p347 q347; cases e347; have HR347_1 := ak_ hi347_1; have HC347_1 := ak_ hl347_1; clear hi347_1 hl347_1; replace p347 := eq_true p347; replace q347 := eq_true q347
       by_cases c7 : ((zbg l0 x5_1).f0).toList = ((zbg l1 x5_1).f0).toList
       ·rw [if_pos c7] at H; have c7b0 := bq_ c7; have c7b1 := bq0_ c7; clear c7; obtain ⟨t350, A8, H⟩ := bi_ H; replace H : (if t350 = true then (zaq.l0 k1 l0 l1 (wrap64 (x5_1 + 1))) else (some false)) = some r := H; have p348 : 0 ≤ (x5_1 : Int) := of_decide_eq_true q3_; have q348 : x5_1 < (l0.length : Int) := of_decide_eq_true q3_; obtain ⟨ad348, A348_1, c348_1, e348, hx348_0, hx348_1, hl348_1, hi348_1⟩ := zfa HR0.out x5_1 p348 q348; obtain rfl : ad346 = ad348 := (by injection e348); have HR348_1 := ak_ hi348_1; have HC348_1 := ak_ hl348_1; clear hi348_1 hl348_1; replace p348 := eq_true p348; replace q348 := eq_true q348; have ea_ := Option.some.inj (hx346_1.symm.trans hx348_1); injection ea_ with ea_ en_ ec_
        subst ea_; subst ec_; clear en_; have p349 : 0 ≤ (x5_1 : Int) := of_decide_eq_true q3_; have q349 : x5_1 < (l1.length : Int) := of_decide_eq_true q3_; obtain ⟨ad349, A349_1, c349_1, e349, hx349_0, hx349_1, hl349_1, hi349_1⟩ := zfa HR1.out x5_1 p349 q349; obtain rfl : ad347 = ad349 := (by injection e349); have HR349_1 := ak_ hi349_1; have HC349_1 := ak_ hl349_1; clear hi349_1 hl349_1; replace p349 := eq_true p349; replace q349 := eq_true q349; have ea_ := Option.some.inj (hx347_1.symm.trans hx349_1); injection ea_ with ea_ en_ ec_
        subst ea_; subst ec_; clear en_
        by_cases c9 : t350 = true
        ·subst c9; replace H := ifT_ H; have H' := ak_ H; clear H; go_wp2_with (first | (go_at_call 36; (with_reducible refine (zba.calls k1 _ _ ((zbg l0 x5_1).f1) _ _ ((zbg l1 x5_1).f1) true _ ?side1 HC348_1.out ?side3 HC349_1.out A8.out).mono ?_); (case side1 => exact cx_ HR348_1.out); (case side3 => exact cx_ HR349_1.out); rintro e w' ⟨rfl, ⟨nd, rfl⟩⟩; (try first | exact ⟨rfl, _, World.drewN_drewN _ _ _⟩ | exact ⟨rfl, _, Eq.trans (World.drewN_drewN _ _ _) (congrArg (World.drewN _) (Nat.add_assoc _ _ _))⟩)))
         repeat (go_quiet (first | (go_at_call 36; (with_reducible refine (zba.calls k1 _ _ ((zbg l0 x5_1).f1) _ _ ((zbg l1 x5_1).f1) true _ ?side1 HC348_1.out ?side3 HC349_1.out A8.out).mono ?_); (case side1 => exact cx_ HR348_1.out); (case side3 => exact cx_ HR349_1.out); rintro e w' ⟨rfl, ⟨nd, rfl⟩⟩; (try first | exact ⟨rfl, _, World.drewN_drewN _ _ _⟩ | exact ⟨rfl, _, Eq.trans (World.drewN_drewN _ _ _) (congrArg (World.drewN _) (Nat.add_assoc _ _ _))⟩))); try go_wp2_with (first | (go_at_call 36; (with_reducible refine (zba.calls k1 _ _ ((zbg l0 x5_1).f1) _ _ ((zbg l1 x5_1).f1) true _ ?side1 HC348_1.out ?side3 HC349_1.out A8.out).mono ?_); (case side1 => exact cx_ HR348_1.out); (case side3 => exact cx_ HR349_1.out); rintro e w' ⟨rfl, ⟨nd, rfl⟩⟩; (try first | exact ⟨rfl, _, World.drewN_drewN _ _ _⟩ | exact ⟨rfl, _, Eq.trans (World.drewN_drewN _ _ _) (congrArg (World.drewN _) (Nat.add_assoc _ _ _))⟩))))
         go_roundg k1
         case measure => have := HK1.out; omega
         case rel => exact ⟨(wrap64 (x5_1 + 1)), q5_, H', ⟨kq_⟩, q7_⟩
        ·replace c9 := Bool.eq_false_iff.mpr c9; subst c9; replace H := ifF_ H; obtain rfl := Option.some.inj H; go_wp2_with (first | (go_at_call 36; (with_reducible refine (zba.calls k1 _ _ ((zbg l0 x5_1).f1) _ _ ((zbg l1 x5_1).f1) false _ ?side1 HC348_1.out ?side3 HC349_1.out A8.out).mono ?_); (case side1 => exact cx_ HR348_1.out); (case side3 => exact cx_ HR349_1.out); rintro e w' ⟨rfl, ⟨nd, rfl⟩⟩; (try first | exact ⟨rfl, _, World.drewN_drewN _ _ _⟩ | exact ⟨rfl, _, Eq.trans (World.drewN_drewN _ _ _) (congrArg (World.drewN _) (Nat.add_assoc _ _ _))⟩)))
         repeat (go_quiet (first | (go_at_call 36; (with_reducible refine (zba.calls k1 _ _ ((zbg l0 x5_1).f1) _ _ ((zbg l1 x5_1).f1) false _ ?side1 HC348_1.out ?side3 HC349_1.out A8.out).mono ?_); (case side1 => exact cx_ HR348_1.out); (case side3 => exact cx_ HR349_1.out); rintro e w' ⟨rfl, ⟨nd, rfl⟩⟩; (try first | exact ⟨rfl, _, World.drewN_drewN _ _ _⟩ | exact ⟨rfl, _, Eq.trans (World.drewN_drewN _ _ _) (congrArg (World.drewN _) (Nat.add_assoc _ _ _))⟩))); try go_wp2_with (first | (go_at_call 36; (with_reducible refine (zba.calls k1 _ _ ((zbg l0 x5_1).f1) _ _ ((zbg l1 x5_1).f1) false _ ?side1 HC348_1.out ?side3 HC349_1.out A8.out).mono ?_); (case side1 => exact cx_ HR348_1.out); (case side3 => exact cx_ HR349_1.out); rintro e w' ⟨rfl, ⟨nd, rfl⟩⟩; (try first | exact ⟨rfl, _, World.drewN_drewN _ _ _⟩ | exact ⟨rfl, _, Eq.trans (World.drewN_drewN _ _ _) (congrArg (World.drewN _) (Nat.add_assoc _ _ _))⟩))))
         go_ret; exact ⟨q5_, q7_⟩
       ·rw [if_neg c7] at H; have c7b0 := bn_ c7; have c7b1 := bn1_ c7; obtain rfl := Option.some.inj H; go_wp2
        repeat (go_quiet (fail); try go_wp2)
        go_ret; exact ⟨q5_, q7_⟩
      ·rw [if_neg c6] at H; exact absurd H (by simp)
     ·rw [if_neg c5] at H; exact absurd H (by simp)
    ·rw [if_neg c4] at H; have c4b0 := decide_eq_false c4; clear c4; obtain rfl := Option.some.inj H; go_wp2
     repeat (go_quiet (fail); try go_wp2)
     go_ret; exact ⟨q5_, q7_⟩
 ·rw [if_neg c3] at H; have c3b0 := bn_ c3; have c3b1 := bn1_ c3; have c3b2 : (l0.length == l1.length) = false := q44_; obtain rfl := Option.some.inj H; go_wp2
  repeat (go_quiet (fail); try go_wp2)
  go_ret; exact ⟨q5_, q7_⟩

end Go.Proofs.YtchpbnabbjdfgaaDoor.P
