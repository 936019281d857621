-- HALVED
import Derived.Test.YtchpbnabbjdfgaaDoorPx0
import Derived.Test.YtchpbnabbjdfgaaDoorPx1
import Derived.Test.YtchpbnabbjdfgaaDoorPx70
import Derived.Test.YtchpbnabbjdfgaaDoorPx94
import Derived.Test.YtchpbnabbjdfgaaDoorPx97
import Derived.Test.YtchpbnabbjdfgaaDoorPx98
namespace Go.Proofs.YtchpbnabbjdfgaaDoor.P
open Go.RowKit Go.Proofs.YtchpbnabbjdfgaaDoorW.PrintWords Go.Proofs.YtchpbnabbjdfgaaDoorW.PrintLast Go.Proofs.YtchpbnabbjdfgaaDoorW.PrintMore
attribute [local go_sem] zeb zfe zfa zfb zdl zdm zec zed   -- for this text's walks alone
set_option linter.unusedVariables false
set_option linter.unusedSimpArgs false
set_option maxHeartbeats 8000000
set_option maxRecDepth 100000
def zad.a (k : Nat) : Nat → List (List S56) → List (List S56) → List (List S56) → Option (Option (List (List S56) × List (List S56)))
 | 0, _, st, it => some (some (st, it))
 | _ + 1, [], st, it => some (some (st, it))
 | n + 1, c :: r, st, it => (zay.f k c).bind fun b => if b = true then (zbs.f k (st.getD (st.length - 1) []) c).bind fun t => if t.2 = 0 then zad.a k n r (st ++ [t.1]) (it ++ [c]) else zad.a k n r st it else some none
def zad.b (k : Nat) (st it : List (List S56)) : Nat → List Int → Int × Int × List S56 × Int × Int × List S41 → Option Bool
 | 0, _, _ => zaa.f k
 | _ + 1, [], _ => zaa.f k
 | n + 1, p :: r, s =>
  (if (p % 18446744073709551616) % 2 = 0 ∧ 0 < ((p % 18446744073709551616) / 2) % st.length then
   zbt.f k s.1 s.2.1 s.2.2.1 s.2.2.2.1 s.2.2.2.2.1 s.2.2.2.2.2 1 1 (((p % 18446744073709551616) / 2) % st.length) 0 0 (it.getD ((((p % 18446744073709551616) / 2) % st.length) - 1).toNat [])
  else (zbv.f k 1 (((p % 18446744073709551616) / 2) % st.length) (st.getD (((p % 18446744073709551616) / 2) % st.length).toNat [])).bind fun c => if 0 < c.length then
   zbt.f k s.1 s.2.1 s.2.2.1 s.2.2.2.1 s.2.2.2.2.1 s.2.2.2.2.2 (c.getD (((p % 18446744073709551616) / 64) % c.length).toNat z41).f0 (c.getD (((p % 18446744073709551616) / 64) % c.length).toNat z41).f1 (c.getD (((p % 18446744073709551616) / 64) % c.length).toNat z41).f2 (c.getD (((p % 18446744073709551616) / 64) % c.length).toNat z41).f3 (c.getD (((p % 18446744073709551616) / 64) % c.length).toNat z41).f4 (c.getD (((p % 18446744073709551616) / 64) % c.length).toNat z41).f5
   else some s).bind fun s' =>
  if s'.2.1 < 0 then some false else if s'.2.1 ≥ (st.length : Int) then some false else (zai.f k s'.2.2.1 (st.getD s'.2.1.toNat [])).bind fun b => if b = true then zad.b k st it n r s' else some false
def zad.f (k : Nat) (l0 : List (List S56)) (l1 : List Int) : Option Bool :=
 (zad.a k 12 l0 [[]] []).bind fun o => match o with
 | none => zaa.f k
 | some (st, it) => zad.b k st it 60 l1 (1, 0, [], 0, 0, [])
theorem zad.lmono_a : ∀ (n : Nat) (l st it : List (List S56)) (k : Nat), LeO (zad.a k n l st it) (zad.a (k + 1) n l st it) := by
 intro n
 induction n with
 | zero => exact fun _ _ _ _ => LeO.refl _
 | succ n ih => exact fun l st it k => match l with
  | [] => LeO.refl _
  | c :: r => LeO.bind (zay.mono _ _) fun b => LeO.ite (LeO.bind (zbs.mono _ _ _) fun t => LeO.ite (ih _ _ _ _) (ih _ _ _ _)) (LeO.refl _)
theorem zad.lmono_b (st it : List (List S56)) : ∀ (n : Nat) (l : List Int) (s) (k : Nat), LeO (zad.b k st it n l s) (zad.b (k + 1) st it n l s) := by
 intro n
 induction n with
 | zero => exact fun _ _ k => zaa.mono k
 | succ n ih => exact fun l s k => match l with
  | [] => zaa.mono k
  | p :: r => LeO.bind (LeO.ite (zbt.mono _ _ _ _ _ _ _ _ _ _ _ _ _) (LeO.bind (zbv.mono _ _ _ _) fun c => LeO.ite (zbt.mono _ _ _ _ _ _ _ _ _ _ _ _ _) (LeO.refl _))) fun s' => LeO.ite (LeO.refl _) (LeO.ite (LeO.refl _) (LeO.bind (zai.mono _ _ _) fun b => LeO.ite (ih _ _ _) (LeO.refl _)))
theorem zad.mono : ∀ a0 a1 k, LeO (zad.f k a0 a1) (zad.f (k + 1) a0 a1) := by
 exact fun a0 a1 k => LeO.bind (zad.lmono_a _ _ _ _ _) fun o => match o with
 | none => zaa.mono k
 | some (st, it) => zad.lmono_b _ _ _ _ _ _
theorem zad.row1 {W : World} {g c : Nat} {A : Option Addr} {l : List S56} {ok : Nat → Prop} (hg : W.heap[g]? = some (.cells #[.slice A l.length c] 22 (0, 0))) (hc : l.length ≤ c) (hf : Kd.F k56 W ok A l.length l) : Kd.F (Kd.slice 56 k56) W (fun k => k = g ∨ ok k) (some ⟨g, 0, none⟩) 1 [l] := fun W' hW => by
 have hbb := (hW g (.inl rfl) (zca hg)).trans hg
 refine ⟨rfl, by decide, fun _ => ⟨⟨g, 0, none⟩, rfl, fun j p hj => ?_⟩⟩
 match j, hj with
 | 0, hj =>
  simp only [List.getElem?_cons_zero, Option.some.injEq] at hj
  subst hj
  refine ⟨[.slice A l.length c], rfl, ⟨A, c, rfl, hc, hf W' (fun k hk hl => hW k (.inr hk) hl)⟩, fun q u hq => ?_⟩
  match q, hq with
  | 0, hq => rw [Addr.add_lit]; exact (zat hbb 0).trans (by simpa using hq)
  | q + 1, hq => simp at hq
 | j + 1, hj => simp at hj
theorem zad.put6 {w w3 W X : World} {B : Nat} {u0 u1 u2 u3 u4 u5 : Value} {e0 e1 e3 e4 : Int} {A2 A7 : Option Addr} {c2 c7 : Nat} {l2 : List S56} {l7 : List S41} {ok ok' : Nat → Prop} (hX : (((((W.setCell ⟨w3.heap.size, 0, none⟩ (.int .i64 e0)).setCell ⟨w3.heap.size, 1, none⟩ (.int .i64 e1)).setCell ⟨w3.heap.size, 2, none⟩ (.slice A2 l2.length c2)).setCell ⟨w3.heap.size, 3, none⟩ (.int .i64 e3)).setCell ⟨w3.heap.size, 4, none⟩ (.int .i64 e4)).setCell ⟨w3.heap.size, 5, none⟩ (.slice A7 l7.length c7) = X) (hk : W.heap[w3.heap.size]? = some (.cells #[u0, u1, u2, u3, u4, u5] 33 (0, 0))) (h2 : Kd.V k56 56 W B ok (.slice A2 l2.length c2) l2) (h7 : Kd.V k41 41 W B ok' (.slice A7 l7.length c7) l7) (ho : ∀ k, ok k → k ≠ w3.heap.size) (ho' : ∀ k, ok' k → k ≠ w3.heap.size) (hf : ∀ k, k < w3.heap.size → W.heap[k]? = w3.heap[k]?) (hb : Below w.heap.size w W) (hg : w.heap.size ≤ w3.heap.size) :
  ∃ (A2 : Option Addr) (c2 : Nat) (A7 : Option Addr) (c7 : Nat), X.heap[w3.heap.size]? = some (.cells #[.int .i64 e0, .int .i64 e1, .slice A2 l2.length c2, .int .i64 e3, .int .i64 e4, .slice A7 l7.length c7] 33 (0, 0)) ∧ Kd.V k56 56 X w.heap.size (fun k => k ≠ w3.heap.size) (.slice A2 l2.length c2) l2 ∧ Kd.V k41 41 X w.heap.size (fun k => k ≠ w3.heap.size) (.slice A7 l7.length c7) l7 ∧ (∀ k, k < w3.heap.size → X.heap[k]? = w3.heap[k]?) ∧ Below w.heap.size w X := by
 obtain ⟨Y, hY⟩ : ∃ Y, Y = W.setCells w3.heap.size 0 [.int .i64 e0, .int .i64 e1, .slice A2 l2.length c2, .int .i64 e3, .int .i64 e4, .slice A7 l7.length c7] := ⟨_, rfl⟩
 have hXY : X = Y := hX.symm.trans hY.symm
 obtain ⟨_, _, _, _, hx⟩ := Mem.zbd w3.heap.size [.int .i64 e0, .int .i64 e1, .slice A2 l2.length c2, .int .i64 e3, .int .i64 e4, .slice A7 l7.length c7] 0 W
 have hb' := Mem.below_setCells hb hg 0 [.int .i64 e0, .int .i64 e1, .slice A2 l2.length c2, .int .i64 e3, .int .i64 e4, .slice A7 l7.length c7]
 have hk' := zaa.fill6 (v0 := .int .i64 e0) (v1 := .int .i64 e1) (v2 := .slice A2 l2.length c2) (v3 := .int .i64 e3) (v4 := .int .i64 e4) (v5 := .slice A7 l7.length c7) hk
 clear hX
 rw [← hY] at hx hb' hk'
 subst hXY
 exact ⟨A2, c2, A7, c7, hk', Kd.zcf (Kd.V_step h2 (fun k hk _ => hx k (ho k hk))) ho, Kd.zcf (Kd.V_step h7 (fun k hk _ => hx k (ho' k hk))) ho', fun k hk => (hx k (Nat.ne_of_lt hk)).trans (hf k hk), hb'⟩
theorem zad.calls (k : Nat) (P0_ : Nat → Prop) (A0 : Option Addr) (c0 : Nat) (l0 : List (List S56)) (A1 : Option Addr) (c1 : Nat) (l1 : List Int) (r : Bool) (w : World) (hs0 : Kd.V (Kd.slice 56 k56) 22 w w.heap.size (fun k_ => P0_ k_) (.slice A0 l0.length c0) l0) (hr1 : Kd.C (Kd.int .i64) w A1 l1.length l1) (hc1 : l1.length ≤ c1) (h : zad.f k l0 l1 = some r) (hG : Glob w) :
  Calls Tryd.prog 7 #[.slice A0 l0.length c0, .slice A1 l1.length c1] w fun e w' => e = .returned (.bool r) ∧ Below w.heap.size w w' := by
 have HF0 := zab.mk (fun (W : World) (hb : Below w.heap.size w W) => (Kd.zdn (Kd.zeg (Kd.V_F hs0)) hb : Kd.F (Kd.slice 56 k56) W (fun k => P0_ k ∧ k < w.heap.size) A0 l0.length l0)); have HC1 := zab.mk (fun (W : World) (hb : Below w.heap.size w W) => Kd.zcc hr1 hb); have HL1 := zab.mk hc1; have HG := zab.mk hG; have HLM := zab.mk (Kd.F_max (HF0.out w (Below.refl _ _))); have H := zab.mk h; clear hs0 hr1 hc1 hG h; go_enter Tryd.func7, Tryd.ntmps7; obtain ⟨o, ha, h⟩ := Option.bind_eq_some_iff.1 H.out; have HA := zab.mk ha; have HO := zab.mk h
 have nI := zab.mk (show Kd.N (Kd.slice 56 k56) 22 (w.alloc (.cells #[.slice none 0 0] 22)) w.heap.size (fun k => some k ≠ (Value.slice none 0 0).ownBlock) (.slice (some ⟨w.heap.size, 0, none⟩) 1 1) [[]] from Mem.N_make (xs := [([] : List S56)]) (rows := [[.slice none 0 0]]) (cap := 1) (cur := #[.slice none 0 0]) rfl (fun c hc => by rw [List.mem_singleton.1 hc]; rfl) (fun c hc u hu => by rw [List.mem_singleton.1 hc] at hu; rw [List.mem_singleton.1 hu]; rfl) (fun j x c hx hc => by
  rcases j with _ | j
  ·simp only [List.getElem?_cons_zero, Option.some.injEq] at hx hc; subst hx; subst hc; exact Kd.FK_slice_mk (l := ([] : List S56)) (Nat.le_refl 0) (Kd.F_nil _ _ _)
  ·simp at hx) (Nat.le_refl _) (by simp [Value.ownBlock]) (Mem.zck _ _ _) (Nat.le_refl 1) (by decide) rfl rfl)
 clear ha h H; go_wp2; go_loopg [5, 6, 7] 12 (fun gg s5 s6 s7 wr => ∃ (i : Nat) (st it : List (List S56)), s7 = .int .i64 i ∧ zab (i ≤ 12 ∧ i ≤ l0.length) ∧ zab (12 - i ≤ gg) ∧ zab (zad.a k (12 - i) (l0.drop i) st it = some o) ∧ zab (Kd.N (Kd.slice 56 k56) 22 wr w.heap.size (fun k => some k ≠ s6.ownBlock) s5 st) ∧ zab (Kd.N (Kd.slice 56 k56) 22 wr w.heap.size (fun k => some k ≠ s5.ownBlock) s6 it) ∧ zab (st.length = it.length + 1 ∧ it.length ≤ i) ∧ zab (Below w.heap.size w wr))
 case atStart => exact ⟨0, [[]], [], rfl, ⟨Nat.zero_le _, Nat.zero_le _⟩, ⟨Nat.le_refl _⟩, HA, nI, ⟨Kd.zij _ _ _ _ _⟩, ⟨rfl, Nat.le_refl _⟩, ⟨zas (Below.refl _ _) _⟩⟩
 case round =>
  clear HA nI; obtain ⟨i, st, it, rfl, hi, hgg, HA, HS, HI, HL, HB⟩ := hrel; obtain ⟨hi1, hi2⟩ := hi.out; obtain ⟨wq, hwq⟩ : ∃ W, W = wr := ⟨_, rfl⟩; subst hwq
  by_cases hlt : i < 12 ∧ i < l0.length
  ·obtain ⟨hl12, hll⟩ := hlt; obtain ⟨x, hx⟩ : ∃ x, l0[i]? = some x := ⟨_, List.getElem?_eq_getElem hll⟩; have hA := HA.out; rw [show 12 - i = (12 - (i + 1)) + 1 by omega, show l0.drop i = x :: l0.drop (i + 1) by rw [List.drop_eq_getElem_cons hll, (List.getElem?_eq_some_iff.1 hx).2]] at hA; simp only [zad.a] at hA; obtain ⟨b, hfew, hA⟩ := Option.bind_eq_some_iff.1 hA
   have hget : ∀ W, Below w.heap.size w W → ∃ ad Ax cx, A0 = some ad ∧ W.cell? (ad.add i) = some (.slice Ax x.length cx) ∧ x.length ≤ cx ∧ Kd.F k56 W (fun k => P0_ k ∧ k < w.heap.size) Ax x.length x := fun W hb => by
    obtain ⟨ad, cs, hA, hcl, hK, hcc, _⟩ := Kd.F_get (HF0.out W hb) [] (i : Int) (by omega) (by omega); rw [show l0.getD (i : Int).toNat [] = x by simp [List.getD, hx]] at hK; obtain ⟨Ax, cx, hcs, hle, hFi⟩ := Kd.zex hK; subst hcs; have h1 := hcc 0 _ rfl; rw [show (Kd.slice 56 k56).sz = 1 from rfl, Nat.mul_one, Nat.add_zero, show (i : Int).toNat = i by simp] at h1; exact ⟨ad, Ax, cx, hA, h1, hle, hFi⟩
   obtain ⟨ad, Ax, cx, rfl, hc0, hle, hFx⟩ := hget w (Below.refl _ _); have HCX := zab.mk (fun (W : World) (hW : Below w.heap.size w W) => (hW.cell (p := ad.add i) (World.block_lt_of_cell? w _ hc0)).trans hc0); have HFX := zab.mk (fun (W : World) (hW : Below w.heap.size w W) => (Kd.zdn (Kd.zey hFx (fun k hk => hk)) hW : Kd.F k56 W (fun k => P0_ k ∧ k < w.heap.size) Ax x.length x)); have hcq := HCX.out wq HB.out; have HLX := zab.mk hle; have HFW := zab.mk (zay.calls k Ax cx x b wq (Kd.F_now (HFX.out wq HB.out)) hle hfew); have HA2 := zab.mk hA; have hil : (i : Int) < (l0.length : Int) := by omega
   have hi12 : (i : Int) < 12 := by omega
   have hi0 : (0 : Int) ≤ (i : Int) := by omega
   have hit : ((i : Int)).toNat = i := by omega
   have hwi : wrap64 ((i : Int) + 1) = ((i + 1 : Nat) : Int) := by unfold wrap64; omega
   clear hA hfew hget hFx hle hx HA hc0
   cases b with
   | false =>
    have hA := HA2.out; rw [if_neg (by decide)] at hA; injection hA with hA
    subst hA; have HAW := zab.mk (fun (W : World) (hW : Below w.heap.size w W) => zaa.calls k r W HO.out (HG.out.below hW)); clear HA2 HO
    go_wp2_with (first
     | (go_at_call 8; ((with_reducible refine HFW.out.mono ?_)); rintro e w1 ⟨rfl, hd⟩; have HB1 := zab.mk (zaw HB.out HB.out.size hd.below); clear hd)
     | (go_at_call 9; ((with_reducible refine (HAW.out _ HB1.out).mono ?_)); rintro e w2 ⟨rfl, hb⟩; have HB2 := zab.mk (zaw HB1.out HB1.out.size hb); clear hb))
    go_ret; exact ⟨rfl, HB2.out⟩
   | true =>
    have hA := HA2.out; rw [if_pos rfl] at hA; obtain ⟨⟨t1, t2⟩, hap, hA⟩ := Option.bind_eq_some_iff.1 hA; simp only [] at hA; obtain ⟨A5, c5, rfl⟩ := Kd.zcy HS.out; obtain ⟨A6, c6, rfl⟩ := Kd.zcy HI.out; have hsl : 0 < st.length := by have := HL.out; omega
    obtain ⟨q, hq⟩ : ∃ q, st.length = q + 1 := ⟨st.length - 1, by omega⟩; obtain ⟨gb, cap, hv, hgb1, hgb2, _⟩ := Kd.N_form HS.out hsl; injection hv with hvA _ hvc
    subst hvA; subst hvc; obtain ⟨cy, _, hFKy, hcy, _⟩ := Kd.N_elem HS.out [] (q : Int) (by omega) (by omega); obtain ⟨y, hy⟩ : ∃ y, y = st.getD (st.length - 1) [] := ⟨_, rfl⟩; rw [show st.getD ((q : Int)).toNat [] = y by rw [hy]; congr 1; omega] at hFKy; rw [← hy] at hap; obtain ⟨Ay, cy1, hce, hly, hFy⟩ := Kd.zex hFKy; subst hce
    have hys : wq.cell? ⟨gb, q, none⟩ = some (.slice Ay y.length cy1) := by
     have := hcy 0 _ rfl; simpa [show (Kd.slice 56 k56).sz = 1 from rfl] using this
    have HYS := zab.mk (fun (W : World) (hW : Below wq.heap.size wq W) => (hW.cell (p := ⟨gb, q, none⟩) hgb2).trans hys); have hw5 : wrap64 ((st.length : Int) - 1) = (q : Int) := by have := HL.out; unfold wrap64; omega
    have hw6 : IntKind.i64.wrap ((st.length : Int) - 1) = (q : Int) := by rw [IntKind.wrap_i64]; have := HL.out; omega
    have hq0 : (0 : Int) ≤ (q : Int) := by omega
    have hql : (q : Int) < (st.length : Int) := by omega
    have hqt : ((q : Int)).toNat = q := by omega
    have HAPP := zab.mk (fun (W : World) (hW : Below wq.heap.size wq W) => zbs.calls k (fun k => (some k ≠ (Value.slice A6 it.length c6).ownBlock ∧ k ≠ gb) ∧ k < wq.heap.size) Ay cy1 y (fun k => P0_ k ∧ k < w.heap.size) Ax cx x t1 t2 W (Kd.V_mk hly (Kd.zdn (Kd.zeg hFy) hW)) (Kd.V_mk HLX.out (HFX.out W (zaw HB.out HB.out.size hW))) hap (HG.out.below (zaw HB.out HB.out.size hW))); have HA3 := zab.mk hA; have HQ := zab.mk hq; have HGB := zab.mk (show w.heap.size ≤ gb ∧ gb < wq.heap.size from ⟨hgb1, hgb2⟩); clear hA HA2 hap hFKy hcy hFy hly hys hy hgb1 hgb2 hq; go_wp2_with (go_at_call 8; ((with_reducible refine HFW.out.mono ?_)); rintro e w1 ⟨rfl, hd⟩; have HB1 := zab.mk hd.below; clear hd); have hs1 := HYS.out w1 HB1.out; have hx1 := HCX.out w1 (zaw HB.out HB.out.size HB1.out)
    go_region_held3 (fun w' => w'.cell? ⟨gb, q, none⟩ = some (.slice Ay y.length cy1) ∧ w'.cell? (ad.add i) = some (.slice Ax x.length cx))
     (first | go_keep | exact ⟨(hb4.cell (p := ⟨gb, q, none⟩) (World.block_lt_of_cell? w1 _ hs1)).trans hs1, (hb4.cell (p := ad.add i) (World.block_lt_of_cell? w1 _ hx1)).trans hx1⟩)
     (first | (go_at_call 10; refine (HAPP.out _ (zbz HB1.out)).mono ?_; rintro e w2 ⟨v4, rfl, hN4, hb4⟩))
    obtain ⟨A4, c4, rfl⟩ := Kd.zcy hN4; have HW2 := zab.mk (zaw (zbz HB1.out) (zbz HB1.out).size hb4); have HB2 := zab.mk (zaw HB.out HB.out.size HW2.out); have HS2 := zab.mk (Kd.zdq HS.out HW2.out); have HI2 := zab.mk (Kd.zdq HI.out HW2.out)
    have HF4 := zab.mk (show Kd.F k56 w2 (fun k => some k ≠ (Value.slice A6 it.length c6).ownBlock ∧ k ≠ gb) A4 t1.length t1 from Kd.zey (Kd.N_F hN4) (fun k hk => by
     have h1 := HGB.out; have h2 := HB1.out.size; rcases hk with (hk | hk) | hk
     ·exact hk.1
     ·exact ⟨fun e => by have := Kd.zel HI.out k e.symm; have := hk.2; omega, by have := hk.2; omega⟩
     ·exact ⟨fun e => by have := Kd.N_lt HI.out k e.symm; have h3 : w1.heap.size ≤ k := hk; omega, by have h3 : w1.heap.size ≤ k := hk; omega⟩))
    have HL4 := zab.mk (Kd.zdg hN4).2.1; have HG2 := zab.mk (show gb < w2.heap.size from by have := HGB.out; have := HW2.out.size; omega); have HM := zab.mk (show ∀ g, 12 - i ≤ g → 12 - (i + 1) < g from fun g h => by omega); have HI1 := zab.mk (show i + 1 ≤ 12 ∧ i + 1 ≤ l0.length from by omega); clear hN4 hb4 hs1 hx1 HAPP HFW HYS HB1 HS HI hcq
    by_cases hz : t2 = 0
    ·subst hz; have hA := HA3.out; rw [if_pos rfl] at hA; have HA4 := zab.mk hA; clear hA HA3; go_wp2_with fail; have al : ∀ (W : World) (C : Obj), Below W.heap.size W (W.alloc C).drew := fun W C => zbz (zas (Below.refl _ _) _); have al2 : ∀ (W : World) (C D : Obj), Below W.heap.size W ((W.alloc C).alloc D).drew := fun W C D => zbz (zas (zas (Below.refl _ _) _) _); have N6 : ∀ k, w2.heap.size ≤ k → some k ≠ (Value.slice A6 it.length c6).ownBlock := fun k hk e => absurd (Kd.N_lt HI2.out k e.symm) (by omega); have N5 : ∀ k, w2.heap.size ≤ k → some k ≠ (Value.slice (some ⟨gb, 0, none⟩) st.length c5).ownBlock := fun k hk e => absurd (Kd.N_lt HS2.out k e.symm) (by omega); have B1 := al w2 (.cells #[.slice A4 t1.length c4] 22); have B2 := al2 w2 (.cells #[.slice A4 t1.length c4] 22) (.cells #[.slice Ax x.length cx] 22); have B3 := al2 w2 (.cells #[.slice Ax x.length cx] 22) (.cells #[.slice A4 t1.length c4] 22); have z2 : ((w2.alloc (.cells #[.slice A4 t1.length c4] 22)).alloc (.cells #[.slice Ax x.length cx] 22)).drew.heap.size = w2.heap.size + 1 + 1 := by show ((w2.alloc (.cells #[.slice A4 t1.length c4] 22)).alloc (.cells #[.slice Ax x.length cx] 22)).heap.size = _; rw [Mem.zdi, Mem.zdi]
     have z3 : ((w2.alloc (.cells #[.slice Ax x.length cx] 22)).alloc (.cells #[.slice A4 t1.length c4] 22)).drew.heap.size = w2.heap.size + 1 + 1 := by show ((w2.alloc (.cells #[.slice Ax x.length cx] 22)).alloc (.cells #[.slice A4 t1.length c4] 22)).heap.size = _; rw [Mem.zdi, Mem.zdi]
     have S1 := Kd.zdq HS2.out B1; have S2 := Kd.zdq HS2.out B2; have S3 := Kd.zdq HS2.out B3; have I1 := Kd.zdq (Kd.zhh HI2.out) B1; have I2 := Kd.zdq (Kd.zhh HI2.out) B2; have I3 := Kd.zdq (Kd.zhh HI2.out) B3; have g1 := Mem.zck w2 #[.slice A4 t1.length c4] 22; have g2 : ((w2.alloc (.cells #[.slice A4 t1.length c4] 22)).alloc (.cells #[.slice Ax x.length cx] 22)).drew.heap[w2.heap.size]? = _ := (Mem.zfs (w2.alloc (.cells #[.slice A4 t1.length c4] 22)) (.cells #[.slice Ax x.length cx] 22) _ q51_).trans g1; have g3 : ((w2.alloc (.cells #[.slice Ax x.length cx] 22)).alloc (.cells #[.slice A4 t1.length c4] 22)).drew.heap[w2.heap.size + 1]? = some (.cells #[.slice A4 t1.length c4] 22 (0, 0)) := by have := Mem.zck (w2.alloc (.cells #[.slice Ax x.length cx] 22)) #[.slice A4 t1.length c4] 22; rwa [Mem.zdi] at this
     have e2 : ((w2.alloc (.cells #[.slice A4 t1.length c4] 22)).alloc (.cells #[.slice Ax x.length cx] 22)).drew.heap[w2.heap.size + 1]? = some (.cells #[.slice Ax x.length cx] 22 (0, 0)) := by have := Mem.zck (w2.alloc (.cells #[.slice A4 t1.length c4] 22)) #[.slice Ax x.length cx] 22; rwa [Mem.zdi] at this
     have e3 : ((w2.alloc (.cells #[.slice Ax x.length cx] 22)).alloc (.cells #[.slice A4 t1.length c4] 22)).drew.heap[w2.heap.size]? = _ := (Mem.zfs (w2.alloc (.cells #[.slice Ax x.length cx] 22)) (.cells #[.slice A4 t1.length c4] 22) _ q51_).trans (Mem.zck w2 #[.slice Ax x.length cx] 22); have R1 := zad.row1 g1 HL4.out (Kd.zdn HF4.out B1); have R2 := zad.row1 g2 HL4.out (Kd.zdn HF4.out B2); have R3 := zad.row1 g3 HL4.out (Kd.zdn HF4.out B3); have hcx := HCX.out w2 HB2.out; have nn0 := World.new_ne w2 _ hcx; have hcz := HCX.out _ (zaw HB2.out HB2.out.size (zas (Below.refl w2.heap.size w2) (.cells #[.slice A4 t1.length c4] 22))); go_wp2_with fail
     go_region_law (first
      | (refine Kd.zdf (Kd.slice 56 k56) (w0 := w) w.heap.size rfl (.tmp 50) (.tmp 52) 47 22 (.slice none 0 0) 24 rfl Tryd.underlying47 (by kernel_rfl) rfl (by decide) (by omega) (.slice (some ⟨gb, 0, none⟩) st.length c5) st [t1] (some ⟨w2.heap.size, 0, none⟩) 1 1 (fun k => some k ≠ (Value.slice A6 it.length c6).ownBlock) _ (by kernel_rfl) (by kernel_rfl) (by with_reducible exact S1) R1 (fun k hk => hk.elim (fun e => ⟨N6 k (by omega), N5 k (by omega)⟩) (fun h => ⟨h.1, fun e => h.2 (Option.some.inj e)⟩)) (fun k hk => N6 k (Nat.le_trans B1.size hk)) (zaw HB2.out HB2.out.size B1) (Nat.le_trans HB2.out.size B1.size) (by have := HL.out; omega) ?_; intro v1 w3 hN1 hb1 hg1 hat1; have hx3 := HCX.out w3 hb1; have NV : ∀ k, k < w2.heap.size + 1 + 1 → w2.heap.size ≤ k → some k ≠ v1.ownBlock ∨ True := fun _ _ _ => .inr trivial; have hW3 : w2.heap.size ≤ w3.heap.size := Nat.le_trans B1.size hg1.size; have I' := Kd.zci (ok' := fun k => some k ≠ v1.ownBlock) (Kd.N_grown I1 hg1 (fun k hk => hk.1)) (fun k hk => by (have h1 := B1.size); rcases hat1 with e | ⟨b, e, hb⟩ <;> rw [e]; (exact hk.1); (intro e'; have := Option.some.inj e'; have := hk.2; omega)))
      | (refine Kd.zdf (Kd.slice 56 k56) (w0 := w) w.heap.size rfl (.tmp 50) (.tmp 52) 47 22 (.slice none 0 0) 24 rfl Tryd.underlying47 (by kernel_rfl) rfl (by decide) (by omega) (.slice (some ⟨gb, 0, none⟩) st.length c5) st [t1] (some ⟨w2.heap.size, 0, none⟩) 1 1 (fun k => some k ≠ (Value.slice A6 it.length c6).ownBlock) _ (by kernel_rfl) (by kernel_rfl) (by with_reducible exact S2) R2 (fun k hk => hk.elim (fun e => ⟨N6 k (by omega), N5 k (by omega)⟩) (fun h => ⟨h.1, fun e => h.2 (Option.some.inj e)⟩)) (fun k hk => N6 k (Nat.le_trans B2.size hk)) (zaw HB2.out HB2.out.size B2) (Nat.le_trans HB2.out.size B2.size) (by have := HL.out; omega) ?_; intro v1 w3 hN1 hb1 hg1 hat1; have hx3 := HCX.out w3 hb1; have NV : ∀ k, k < w2.heap.size + 1 + 1 → w2.heap.size ≤ k → some k ≠ v1.ownBlock ∨ True := fun _ _ _ => .inr trivial; have hW3 : w2.heap.size ≤ w3.heap.size := Nat.le_trans B2.size hg1.size; have I' := Kd.zci (ok' := fun k => some k ≠ v1.ownBlock) (Kd.N_grown I2 hg1 (fun k hk => hk.1)) (fun k hk => by (have h1 := B2.size); rcases hat1 with e | ⟨b, e, hb⟩ <;> rw [e]; (exact hk.1); (intro e'; have := Option.some.inj e'; have := hk.2; omega)); have eb := blk_grown e2 hg1 (N5 _ (by omega)); have NX : some (w2.heap.size + 1) ≠ v1.ownBlock := by (have h1 := z2); rcases hat1 with e | ⟨b, e, hb⟩ <;> rw [e]; (exact N5 _ (by omega)); (intro e'; have := Option.some.inj e'; omega))
      | (refine Kd.zdf (Kd.slice 56 k56) (w0 := w) w.heap.size rfl (.tmp 50) (.tmp 52) 47 22 (.slice none 0 0) 24 rfl Tryd.underlying47 (by kernel_rfl) rfl (by decide) (by omega) (.slice (some ⟨gb, 0, none⟩) st.length c5) st [t1] (some ⟨(w2.heap.size + 1), 0, none⟩) 1 1 (fun k => some k ≠ (Value.slice A6 it.length c6).ownBlock) _ (by kernel_rfl) (by kernel_rfl) (by with_reducible exact S3) R3 (fun k hk => hk.elim (fun e => ⟨N6 k (by omega), N5 k (by omega)⟩) (fun h => ⟨h.1, fun e => h.2 (Option.some.inj e)⟩)) (fun k hk => N6 k (Nat.le_trans B3.size hk)) (zaw HB2.out HB2.out.size B3) (Nat.le_trans HB2.out.size B3.size) (by have := HL.out; omega) ?_; intro v1 w3 hN1 hb1 hg1 hat1; have hx3 := HCX.out w3 hb1; have NV : ∀ k, k < w2.heap.size + 1 + 1 → w2.heap.size ≤ k → some k ≠ v1.ownBlock ∨ True := fun _ _ _ => .inr trivial; have hW3 : w2.heap.size ≤ w3.heap.size := Nat.le_trans B3.size hg1.size; have I' := Kd.zci (ok' := fun k => some k ≠ v1.ownBlock) (Kd.N_grown I3 hg1 (fun k hk => hk.1)) (fun k hk => by (have h1 := B3.size); rcases hat1 with e | ⟨b, e, hb⟩ <;> rw [e]; (exact hk.1); (intro e'; have := Option.some.inj e'; have := hk.2; omega)); have eb := blk_grown e3 hg1 (N5 _ (by omega)); have NX : some w2.heap.size ≠ v1.ownBlock := by (have h1 := z3); rcases hat1 with e | ⟨b, e, hb⟩ <;> rw [e]; (exact N5 _ (by omega)); (intro e'; have := Option.some.inj e'; omega))
      | (refine Kd.zdf (Kd.slice 56 k56) (w0 := w) w.heap.size rfl (.tmp 54) (.tmp 59) 47 22 (.slice none 0 0) 24 rfl Tryd.underlying47 (by kernel_rfl) rfl (by decide) (by omega) (.slice A6 it.length c6) it [x] (some ⟨w3.heap.size, 0, none⟩) 1 1 (fun k => some k ≠ v1.ownBlock) _ (by kernel_rfl) (by kernel_rfl) (by with_reducible exact Kd.zcj I' _) (zad.row1 (Mem.zck w3 _ _) HLX.out (HFX.out _ (zaw hb1 hb1.size (zas (Below.refl w3.heap.size w3) (.cells #[.slice Ax x.length cx] 22))))) (fun k hk => hk.elim (fun e => by rw [e]; exact ⟨fun e => absurd (Kd.N_lt hN1 _ e.symm) (Nat.lt_irrefl _), N6 _ (by have := hW3; omega)⟩) (fun h => ⟨fun e => absurd (Kd.zel hN1 k e.symm) (Nat.not_le.2 h.2), fun e => absurd (Kd.zel HI2.out k e.symm) (Nat.not_le.2 h.2)⟩)) (fun k hk => fun e => absurd (Kd.N_lt hN1 k e.symm) (Nat.not_lt.2 (Nat.le_trans ((zas (Below.refl w3.heap.size w3) (.cells #[.slice Ax x.length cx] 22)).size) hk))) (zaw hb1 hb1.size (zas (Below.refl w3.heap.size w3) (.cells #[.slice Ax x.length cx] 22))) (Nat.le_trans hb1.size ((zas (Below.refl w3.heap.size w3) (.cells #[.slice Ax x.length cx] 22)).size)) (by have := HL.out; omega) ?_; intro v2 w4 hN2 hb2 hg2 hat2; have S4 := Kd.zci (ok' := fun k => some k ≠ v2.ownBlock) (Kd.N_grown (Kd.zdq (Kd.zhh hN1) (zas (Below.refl w3.heap.size w3) (.cells #[.slice Ax x.length cx] 22))) hg2 (fun k hk => hk.1)) (fun k hk => by rcases hat2 with e | ⟨b, e, hb⟩ <;> rw [e]; (exact hk.1); (intro e'; have := Option.some.inj e'; have := hk.2; have h0 := (zas (Below.refl w3.heap.size w3) (.cells #[.slice Ax x.length cx] 22)).size; omega)))
      | (refine Kd.zdf (Kd.slice 56 k56) (w0 := w) w.heap.size rfl (.tmp 54) (.tmp 59) 47 22 (.slice none 0 0) 24 rfl Tryd.underlying47 (by kernel_rfl) rfl (by decide) (by omega) (.slice A6 it.length c6) it [x] (some ⟨(w2.heap.size + 1), 0, none⟩) 1 1 (fun k => some k ≠ v1.ownBlock) _ (by kernel_rfl) (by kernel_rfl) (by with_reducible exact I') (zad.row1 (eb) HLX.out (HFX.out _ hb1)) (fun k hk => hk.elim (fun e => by rw [e]; exact ⟨NX, N6 _ (by have := hW3; omega)⟩) (fun h => ⟨fun e => absurd (Kd.zel hN1 k e.symm) (Nat.not_le.2 h.2), fun e => absurd (Kd.zel HI2.out k e.symm) (Nat.not_le.2 h.2)⟩)) (fun k hk => fun e => absurd (Kd.N_lt hN1 k e.symm) (Nat.not_lt.2 (Nat.le_trans (Nat.le_refl w3.heap.size) hk))) hb1 (Nat.le_trans hb1.size (Nat.le_refl w3.heap.size)) (by have := HL.out; omega) ?_; intro v2 w4 hN2 hb2 hg2 hat2; have S4 := Kd.zci (ok' := fun k => some k ≠ v2.ownBlock) (Kd.N_grown (Kd.zhh hN1) hg2 (fun k hk => hk.1)) (fun k hk => by rcases hat2 with e | ⟨b, e, hb⟩ <;> rw [e]; (exact hk.1); (intro e'; have := Option.some.inj e'; have := hk.2; have h0 := Nat.le_refl w3.heap.size; omega)))
      | (refine Kd.zdf (Kd.slice 56 k56) (w0 := w) w.heap.size rfl (.tmp 54) (.tmp 59) 47 22 (.slice none 0 0) 24 rfl Tryd.underlying47 (by kernel_rfl) rfl (by decide) (by omega) (.slice A6 it.length c6) it [x] (some ⟨w2.heap.size, 0, none⟩) 1 1 (fun k => some k ≠ v1.ownBlock) _ (by kernel_rfl) (by kernel_rfl) (by with_reducible exact I') (zad.row1 (eb) HLX.out (HFX.out _ hb1)) (fun k hk => hk.elim (fun e => by rw [e]; exact ⟨NX, N6 _ (by have := hW3; omega)⟩) (fun h => ⟨fun e => absurd (Kd.zel hN1 k e.symm) (Nat.not_le.2 h.2), fun e => absurd (Kd.zel HI2.out k e.symm) (Nat.not_le.2 h.2)⟩)) (fun k hk => fun e => absurd (Kd.N_lt hN1 k e.symm) (Nat.not_lt.2 (Nat.le_trans (Nat.le_refl w3.heap.size) hk))) hb1 (Nat.le_trans hb1.size (Nat.le_refl w3.heap.size)) (by have := HL.out; omega) ?_; intro v2 w4 hN2 hb2 hg2 hat2; have S4 := Kd.zci (ok' := fun k => some k ≠ v2.ownBlock) (Kd.N_grown (Kd.zhh hN1) hg2 (fun k hk => hk.1)) (fun k hk => by rcases hat2 with e | ⟨b, e, hb⟩ <;> rw [e]; (exact hk.1); (intro e'; have := Option.some.inj e'; have := hk.2; have h0 := Nat.le_refl w3.heap.size; omega)))
      | fail)
     all_goals
      go_wp2; go_roundg (12 - (i + 1))
      case measure => exact HM.out _ hgg.out
      case rel => exact ⟨i + 1, st ++ [t1], it ++ [x], by go_num, HI1, ⟨Nat.le_refl _⟩, HA4, ⟨S4⟩, ⟨hN2⟩, ⟨by rw [List.length_append, List.length_append]; exact ⟨congrArg (· + 1) HL.out.1, Nat.succ_le_succ HL.out.2⟩⟩, ⟨hb2⟩⟩
    ·have hA := HA3.out; rw [if_neg hz] at hA; have HA4 := zab.mk hA; have hzb : (t2 == 0) = false := by simpa using hz
     clear hA HA3 hz; go_wp2; go_roundg (12 - (i + 1))
     case measure => exact HM.out _ hgg.out
     case rel => exact ⟨i + 1, st, it, by go_num, HI1, ⟨Nat.le_refl _⟩, HA4, HS2, HI2, ⟨HL.out.1, Nat.le_succ_of_le HL.out.2⟩, HB2⟩
  ·have hA := HA.out
   have ho : o = some (st, it) := by
    by_cases h12 : i = 12
    ·subst h12; simp only [Nat.sub_self, zad.a] at hA; exact (Option.some.inj hA).symm
    ·obtain ⟨m, hm⟩ : ∃ m, 12 - i = m + 1 := ⟨12 - i - 1, by omega⟩; rw [hm, show l0.drop i = [] from List.drop_of_length_le (by omega)] at hA; simp only [zad.a] at hA; exact (Option.some.inj hA).symm
   subst ho; have hO : zad.b k st it 60 l1 (1, 0, [], 0, 0, []) = some r := HO.out; have HO2 := zab.mk (show zad.b k st it (60 - 0) (l1.drop 0) (1, 0, [], 0, 0, []) = some r from hO); have hex : ¬ (i : Int) < (l0.length : Int) ∨ ((i : Int) < (l0.length : Int) ∧ ¬ (i : Int) < 12) := by omega
   clear hA hO HO HA hgg; obtain ⟨A5, c5, rfl⟩ := Kd.zcy HS.out; obtain ⟨A6, c6, rfl⟩ := Kd.zcy HI.out; have hu := Tryd.underlying33; have hv := Tryd.underlying41; rcases hex with hq1 | ⟨hq1, hq2⟩
   all_goals
    go_wp2_with (go_at_call 18; ((with_reducible refine (zaa.new1 _).mono ?_)); rintro e w3 ⟨rfl, hb⟩; have HB3 := zab.mk hb; clear hb); have HB4 := zab.mk (zaw HB.out HB.out.size HB3.out); have HSF := zab.mk (fun (W : World) (hW : ∀ k, k < w3.heap.size → W.heap[k]? = w3.heap[k]?) => (Kd.zin (Kd.zey (Kd.zeg (Kd.N_F (Kd.zdq HS.out HB3.out))) (fun k hk => hk.2)) (fun k _ hl => hW k hl) : Kd.F (Kd.slice 56 k56) W (fun k => k < w3.heap.size) A5 st.length st)); have HIF := zab.mk (fun (W : World) (hW : ∀ k, k < w3.heap.size → W.heap[k]? = w3.heap[k]?) => (Kd.zin (Kd.zey (Kd.zeg (Kd.N_F (Kd.zdq HI.out HB3.out))) (fun k hk => hk.2)) (fun k _ hl => hW k hl) : Kd.F (Kd.slice 56 k56) W (fun k => k < w3.heap.size) A6 it.length it)); go_loopg [12] 60 (fun gg s12 wr => ∃ (j : Nat) (f0 f1 : Int) (f2 : List S56) (f3 f4 : Int) (f5 : List S41) (A2 : Option Addr) (c2 : Nat) (A7 : Option Addr) (c7 : Nat), s12 = .int .i64 j ∧ zab (j ≤ 60 ∧ j ≤ l1.length) ∧ zab (60 - j ≤ gg) ∧ zab (zad.b k st it (60 - j) (l1.drop j) (f0, f1, f2, f3, f4, f5) = some r) ∧ zab (wr.heap[w3.heap.size]? = some (.cells #[.int .i64 f0, .int .i64 f1, .slice A2 f2.length c2, .int .i64 f3, .int .i64 f4, .slice A7 f5.length c7] 33 (0, 0))) ∧ zab (Kd.V k56 56 wr w.heap.size (fun k => k ≠ w3.heap.size) (.slice A2 f2.length c2) f2) ∧ zab (Kd.V k41 41 wr w.heap.size (fun k => k ≠ w3.heap.size) (.slice A7 f5.length c7) f5) ∧ zab (∀ k, k < w3.heap.size → wr.heap[k]? = w3.heap[k]?) ∧ zab (Below w.heap.size w wr))
    case atStart => exact ⟨0, 1, 0, [], 0, 0, [], none, 0, none, 0, rfl, ⟨Nat.zero_le _, Nat.zero_le _⟩, ⟨Nat.le_refl _⟩, HO2, ⟨Mem.zck _ _ _⟩, ⟨Kd.V_nil _ _ _ _ _⟩, ⟨Kd.V_nil _ _ _ _ _⟩, ⟨fun k hk => Mem.zfs w3 _ k hk⟩, ⟨zaw HB4.out HB4.out.size (zas (Below.refl _ _) _)⟩⟩
    case round =>
     clear HO2; obtain ⟨j, f0, f1, f2, f3, f4, f5, A2, c2, A7, c7, rfl, hj, hgg, HA, HK, HV2, HV5, HFR, HBW⟩ := hrel; obtain ⟨hj1, hj2⟩ := hj.out; obtain ⟨wr0, hwr0⟩ : ∃ W, W = wr := ⟨_, rfl⟩; subst hwr0
     by_cases hlt : j < 60 ∧ j < l1.length
     ·obtain ⟨hl60, hll⟩ := hlt; obtain ⟨p, hp⟩ : ∃ p, l1[j]? = some p := ⟨_, List.getElem?_eq_getElem hll⟩; have hA := HA.out; rw [show 60 - j = (60 - (j + 1)) + 1 by omega, show l1.drop j = p :: l1.drop (j + 1) by rw [List.drop_eq_getElem_cons hll, (List.getElem?_eq_some_iff.1 hp).2]] at hA; simp only [zad.b] at hA; obtain ⟨ad, cs, hA1, hcl, hK, hcc, _⟩ := Kd.F_get (Kd.C_F (Kd.heap_int .i64) (HC1.out wr0 HBW.out)) 0 (j : Int) (by omega) (by omega); rw [show l1.getD (j : Int).toNat 0 = p by simp [List.getD, hp]] at hK; have hK2 := Kd.zff hK; have hcs : cs = [.int .i64 p] := by simpa [Kd.int, Kd.scalar] using hK2
      subst hcs; subst hA1
      have hc0 : wr0.cell? (ad.add j) = some (.int .i64 p) := by
       have := hcc 0 _ rfl; simpa [show (Kd.int .i64).sz = 1 from rfl] using this
      have hjl : (j : Int) < (l1.length : Int) := by omega
      have hj60 : (j : Int) < 60 := by omega
      have hj0 : (0 : Int) ≤ (j : Int) := by omega
      have hjt : ((j : Int)).toNat = j := by omega
      have hwj : wrap64 ((j : Int) + 1) = ((j + 1 : Nat) : Int) := by unfold wrap64; omega
      obtain ⟨U, hU⟩ : ∃ U, U = p % 18446744073709551616 := ⟨_, rfl⟩; rw [← hU] at hA; have hsl : 0 < st.length ∧ st.length ≤ 13 := by have := HL.out; omega
      have hmn := Int.emod_nonneg (U / 2) (show (st.length : Int) ≠ 0 by omega); have hml := Int.emod_lt_of_pos (U / 2) (show 0 < (st.length : Int) by omega); obtain ⟨m, hm⟩ : ∃ m : Nat, (U / 2) % (st.length : Int) = (m : Int) := ⟨((U / 2) % (st.length : Int)).toNat, by omega⟩; rw [hm] at hA hml; have hU0 : 0 ≤ U := by omega
      have hu1 := zab.mk (show IntKind.u64.wrap p = U by rw [IntKind.wrap_u64, hU]); have hu2 := zab.mk (show IntKind.u64.wrap (U.tdiv 2) = U / 2 by rw [Int.tdiv_eq_ediv_of_nonneg hU0, IntKind.wrap_u64]; omega); have hu4 := zab.mk (show IntKind.u64.wrap (st.length : Int) = (st.length : Int) by rw [IntKind.wrap_u64]; omega); have hu5 := zab.mk (show (U / 2).tmod (st.length : Int) = (m : Int) by rw [Int.tmod_eq_emod_of_nonneg (by omega)]; exact hm); have hu6 := zab.mk (show wrap64 (m : Int) = (m : Int) by unfold wrap64; omega); have hu7 := zab.mk (show U.tmod 2 = U % 2 from Int.tmod_eq_emod_of_nonneg hU0); have hst : ¬ IntKind.u64.wrap (st.length : Int) = 0 := by rw [hu4.out]; omega
      have HU := zab.mk hU; have HU0 := zab.mk hU0; have HSL := zab.mk hsl; have HML := zab.mk hml; have HA2 := zab.mk hA; clear hA hK hK2 hcc hp hcl HA hU hmn hm hsl hml hU0; go_upto_region 17 with fail
      go_cut [13] (fun s13 wx => s13 = .int .u64 U ∧ wx = wr0)
      case first =>
       go_wp2_with fail; go_meet; exact ⟨by rw [hu1.out], rfl⟩
      case rest =>
       obtain ⟨rfl, rfl⟩ := hcut; go_upto_region 18 with fail
       go_cut [14] (fun s14 wx => s14 = .int .i64 m ∧ wx = wc)
       case first =>
        go_wp2_with fail; go_meet; exact ⟨by rw [hu2.out, hu4.out, hu5.out, hu6.out], rfl⟩
       case rest =>
        obtain ⟨rfl, rfl⟩ := hcut; clear hu1 hu2 hu4 hu5 hu6 hst; have hcase : (U.tmod 2 = 0 ∧ 0 < (m : Int)) ∨ ((U.tmod 2 = 0 ∧ ¬ 0 < (m : Int)) ∨ ¬ U.tmod 2 = 0) := by omega
        go_upto_region 19 with fail
        go_cut [95] (fun s95 wx => ∃ b : Bool, s95 = .bool b ∧ wx = wc ∧ zab (b = decide (U.tmod 2 = 0 ∧ 0 < (m : Int))))
        case first =>
         rcases hcase with ⟨h1, h2⟩ | ⟨h1, h2⟩ | h1
         ·have hb := zab.mk (show true = decide (U.tmod 2 = 0 ∧ 0 < (m : Int)) from (decide_eq_true ⟨h1, h2⟩).symm); have hm1 : decide (0 < m) = true := decide_eq_true (by omega); go_wp2_with fail; go_meet; exact ⟨true, by first | rfl | rw [hm1], rfl, hb⟩
         ·have hb := zab.mk (show false = decide (U.tmod 2 = 0 ∧ 0 < (m : Int)) from (decide_eq_false (fun h => h2 h.2)).symm); have hm1 : decide (0 < m) = false := decide_eq_false (by omega); go_wp2_with fail; go_meet; exact ⟨false, by first | rfl | rw [hm1], rfl, hb⟩
         ·have hb := zab.mk (show false = decide (U.tmod 2 = 0 ∧ 0 < (m : Int)) from (decide_eq_false (fun h => h1 h.1)).symm); go_wp2_with fail; go_meet; exact ⟨false, rfl, rfl, hb⟩
        case rest =>
         clear hcase; obtain ⟨b, rfl, rfl, HBB⟩ := hcut; obtain ⟨⟨g0, g1, g2, g3, g4, g5⟩, hs', hrest⟩ := Option.bind_eq_some_iff.1 HA2.out; have HS' := zab.mk hs'; have HRE := zab.mk hrest; have HU7 := zab.mk hu7.out; clear HA2 hs' hrest hu7; have hgS := zab.mk (zca HK.out); have HW3 := zab.mk HB4.out.size; have HOL := zab.mk (fun (W : World) (hW : wc.heap.size ≤ W.heap.size) (k : Nat) (h : (k ≠ w3.heap.size ∨ k ≠ w3.heap.size ∨ (k < w3.heap.size ∨ wc.heap.size ≤ k)) ∨ W.heap.size ≤ k) => (show k ≠ w3.heap.size by have := hgS.out; omega)); have HOK := zab.mk (fun (W : World) (hW : wc.heap.size ≤ W.heap.size) (k : Nat) (h : (k ≠ w3.heap.size ∨ k ≠ w3.heap.size ∨ k < w3.heap.size) ∨ W.heap.size ≤ k) => (show k ≠ w3.heap.size by have := hgS.out; omega)); go_upto_if 95 with fail
         go_cut [] (fun wx => zab (∃ (A2 : Option Addr) (c2 : Nat) (A7 : Option Addr) (c7 : Nat), wx.heap[w3.heap.size]? = some (.cells #[.int .i64 g0, .int .i64 g1, .slice A2 g2.length c2, .int .i64 g3, .int .i64 g4, .slice A7 g5.length c7] 33 (0, 0)) ∧ Kd.V k56 56 wx w.heap.size (fun k => k ≠ w3.heap.size) (.slice A2 g2.length c2) g2 ∧ Kd.V k41 41 wx w.heap.size (fun k => k ≠ w3.heap.size) (.slice A7 g5.length c7) g5 ∧ (∀ k, k < w3.heap.size → wx.heap[k]? = w3.heap[k]?) ∧ Below w.heap.size w wx))
         case first =>
          obtain ⟨z0, z1, z2, z3, z4, z5, zf⟩ := zaa.c6 HK.out
          cases b with
          | true =>
           have hc := of_decide_eq_true HBB.out.symm; have hs' := HS'.out; rw [if_pos ⟨by rw [← HU7.out]; exact hc.1, hc.2⟩] at hs'; have hmp := hc.2; obtain ⟨q, hq⟩ : ∃ q, m = q + 1 := ⟨m - 1, by omega⟩; have hqi : q < it.length := by have := HL.out; have := HML.out; omega
           obtain ⟨x, hx⟩ : ∃ x, x = it.getD ((m : Int) - 1).toNat [] := ⟨_, rfl⟩; rw [← hx] at hs'; obtain ⟨ad2, cs2, hA6, hl6, hK6, hcc6, _⟩ := Kd.F_get (HIF.out wc HFR.out) [] (q : Int) (by omega) (by omega); rw [show it.getD ((q : Int)).toNat [] = x by rw [hx]; congr 1; omega] at hK6; obtain ⟨Ax, cx, hce, hlx, hFx⟩ := Kd.zex hK6; subst hce; subst hA6
           have hx0 : wc.cell? (ad2.add q) = some (.slice Ax x.length cx) := by
            have := hcc6 0 _ rfl; simpa [show (Kd.slice 56 k56).sz = 1 from rfl] using this
           have HHE := zab.mk (fun (W : World) (hW : Below wc.heap.size wc W) => zbt.calls k f0 f1 (fun k => k ≠ w3.heap.size) A2 c2 f2 f3 f4 (fun k => k ≠ w3.heap.size) A7 c7 f5 1 1 (m : Int) 0 0 (fun k => k < w3.heap.size) Ax cx x g0 g1 g2 g3 g4 g5 W (Kd.zgc HV2.out hW) (Kd.zgc HV5.out hW) (Kd.V_mk hlx (Kd.zdn (Kd.zey (Kd.zeg hFx) (fun k hk => hk.1)) hW)) hs' (HG.out.below (zaw HBW.out HBW.out.size hW))); clear hs' hK6 hcc6 hlx hFx hx hc hmp hl6; have hq1 : wrap64 ((m : Int) - 1) = (q : Int) := by unfold wrap64; have := HML.out; have := HSL.out; omega
           have hq2 : IntKind.i64.wrap ((m : Int) - 1) = (q : Int) := by rw [IntKind.wrap_i64]; have := HML.out; have := HSL.out; omega
           have hq3 : (0 : Int) ≤ (q : Int) := by omega
           have hq4 : (q : Int) < (it.length : Int) := by omega
           have hq5 : ((q : Int)).toNat = q := by omega
           clear hqi hq; go_wp2_with fail
           go_region_law (first
            | (go_simp; go_at_call 16; refine (HHE.out _ (zbz (Below.refl _ _))).mono ?_; rintro e w5 ⟨v2, v7, rfl, hV2, hV7, hb5⟩; (obtain ⟨B2, b2, rfl⟩ := Kd.zhv hV2); (obtain ⟨B7, b7, rfl⟩ := Kd.zhv hV7); have k5 := (hb5.block w3.heap.size hgS.out).trans HK.out; obtain ⟨y0, y1, y2, y3, y4, y5, yf⟩ := zaa.c6 k5)
            | fail)
           all_goals
            go_wp2_with fail; go_meet; exact ⟨zad.put6 rfl k5 hV2 hV7 (HOK.out wc.drew (Nat.le_refl _)) (HOK.out wc.drew (Nat.le_refl _)) (fun k hk => (hb5.block k (Nat.lt_trans hk hgS.out)).trans (HFR.out k hk)) (zaw (zbz HBW.out) (zbz HBW.out).size hb5) HW3.out⟩
          | false =>
           have hc := of_decide_eq_false HBB.out.symm; have hs' := HS'.out; rw [if_neg (show ¬ (U % 2 = 0 ∧ 0 < (m : Int)) from fun h => hc ⟨by rw [HU7.out]; exact h.1, h.2⟩)] at hs'; obtain ⟨cut, hcu, hs'⟩ := Option.bind_eq_some_iff.1 hs'; obtain ⟨y, hy⟩ : ∃ y, y = st.getD ((m : Int)).toNat [] := ⟨_, rfl⟩; rw [← hy] at hcu; obtain ⟨ady, csy, hA5, hl5, hK5, hcc5, _⟩ := Kd.F_get (HSF.out wc HFR.out) [] (m : Int) (by omega) HML.out; rw [← hy] at hK5; obtain ⟨Ay, cy, hce, hly, hFy⟩ := Kd.zex hK5; subst hce; subst hA5
           have hy0 : wc.cell? (ady.add m) = some (.slice Ay y.length cy) := by
            have := hcc5 0 _ rfl; simpa [show (Kd.slice 56 k56).sz = 1 from rfl] using this
           have HCU := zab.mk (fun (W : World) (hW : Below wc.heap.size wc W) => zbv.calls k 1 (m : Int) (fun k => k < w3.heap.size) Ay cy y cut W (Kd.V_mk hly (Kd.zdn (Kd.zey (Kd.zeg hFy) (fun k hk => hk.1)) hW)) hcu (HG.out.below (zaw HBW.out HBW.out.size hW))); have HS2 := zab.mk hs'; clear hs' hK5 hcc5 hly hFy hy hc hl5 hcu; have hq3 : (0 : Int) ≤ (m : Int) := by omega
           have hq4 : (m : Int) < (st.length : Int) := HML.out; have hq5 : ((m : Int)).toNat = m := by omega
           go_upto_region 22 with (go_at_call 19; ((with_reducible refine (HCU.out _ (Below.refl _ _)).mono ?_)); rintro e w4 ⟨v4, rfl, hN4, hb4⟩; (obtain ⟨A4, c4, rfl⟩ := Kd.zcy hN4); have HN4 := zab.mk hN4; have HBC := zab.mk hb4; clear hN4 hb4)
           have k4 := (HBC.out.block w3.heap.size hgS.out).trans HK.out; have HB5 := zab.mk (zaw HBW.out HBW.out.size HBC.out); have HF4 := zab.mk (fun k (hk : k < w3.heap.size) => (HBC.out.block k (Nat.lt_trans hk hgS.out)).trans (HFR.out k hk)); have hg4 := zab.mk (zca k4)
           by_cases hcl : 0 < cut.length
           ·have hs' := HS2.out; rw [if_pos hcl] at hs'; have hmx := Kd.F_max (Kd.N_F HN4.out); obtain ⟨n, hn⟩ : ∃ n : Nat, (U / 64) % (cut.length : Int) = (n : Int) := ⟨((U / 64) % (cut.length : Int)).toNat, by have := Int.emod_nonneg (U / 64) (show (cut.length : Int) ≠ 0 by omega); omega⟩; have hnl : (n : Int) < (cut.length : Int) := by rw [← hn]; exact Int.emod_lt_of_pos (U / 64) (show 0 < (cut.length : Int) by omega)
            rw [hn] at hs'; obtain ⟨x, hx⟩ : ∃ x, x = cut.getD ((n : Int)).toNat z41 := ⟨_, rfl⟩; rw [← hx] at hs'; obtain ⟨ad4, cx, hA4, _, hK4, hcc4, _⟩ := Kd.F_get (Kd.N_F HN4.out) z41 (n : Int) (by omega) hnl; rw [← hx] at hK4; obtain ⟨Ax, cx1, hce, hlx, hFx⟩ := k41_openF hK4; subst hce; subst hA4; have e0 : w4.cell? (ad4.add (n * 6)) = some (.int .i64 x.f0) := hcc4 0 _ rfl; have e1 : w4.cell? ⟨(ad4.add (n * 6)).block, (ad4.add (n * 6)).off + 1, none⟩ = some (.int .i64 x.f1) := by rw [← zcl ad4 (n * 6) 1 (by decide)]; exact hcc4 1 _ rfl
            have e2 : w4.cell? ⟨(ad4.add (n * 6)).block, (ad4.add (n * 6)).off + 2, none⟩ = some (.int .i64 x.f2) := by rw [← zcl ad4 (n * 6) 2 (by decide)]; exact hcc4 2 _ rfl
            have e3 : w4.cell? ⟨(ad4.add (n * 6)).block, (ad4.add (n * 6)).off + 3, none⟩ = some (.int .i64 x.f3) := by rw [← zcl ad4 (n * 6) 3 (by decide)]; exact hcc4 3 _ rfl
            have e4 : w4.cell? ⟨(ad4.add (n * 6)).block, (ad4.add (n * 6)).off + 4, none⟩ = some (.int .i64 x.f4) := by rw [← zcl ad4 (n * 6) 4 (by decide)]; exact hcc4 4 _ rfl
            have e5 : w4.cell? ⟨(ad4.add (n * 6)).block, (ad4.add (n * 6)).off + 5, none⟩ = some (.slice Ax x.f5.length cx1) := by rw [← zcl ad4 (n * 6) 5 (by decide)]; exact hcc4 5 _ rfl
            have HHE := zab.mk (fun (W : World) (hW : Below w4.heap.size w4 W) => zbt.calls k f0 f1 (fun k => k ≠ w3.heap.size) A2 c2 f2 f3 f4 (fun k => k ≠ w3.heap.size) A7 c7 f5 x.f0 x.f1 x.f2 x.f3 x.f4 (fun k => k < w3.heap.size ∨ wc.heap.size ≤ k) Ax cx1 x.f5 g0 g1 g2 g3 g4 g5 W (Kd.zgc (Kd.zgc HV2.out HBC.out) hW) (Kd.zgc (Kd.zgc HV5.out HBC.out) hW) (Kd.V_mk hlx (Kd.zdn hFx hW)) hs' (HG.out.below (zaw HB5.out HB5.out.size hW)))
            have hW2 : IntKind.i64.wrap ((IntKind.u64.wrap (U.tdiv 64)).tmod (IntKind.u64.wrap (cut.length : Int))) = (n : Int) := by
             rw [show IntKind.u64.wrap (U.tdiv 64) = U / 64 by rw [Int.tdiv_eq_ediv_of_nonneg HU0.out, IntKind.wrap_u64]; have := HU0.out; have := HU.out; omega, show IntKind.u64.wrap (cut.length : Int) = (cut.length : Int) by rw [IntKind.wrap_u64]; omega, Int.tmod_eq_emod_of_nonneg (by have := HU0.out; omega), hn, IntKind.wrap_i64]; omega
            have hw0 : ¬ IntKind.u64.wrap (cut.length : Int) = 0 := by rw [IntKind.wrap_u64]; omega
            have hn0 : (0 : Int) ≤ (n : Int) := by omega
            have hnt : ((n : Int)).toNat = n := by omega
            have hcl2 : decide (0 < cut.length) = true := decide_eq_true hcl; obtain ⟨z0, z1, z2, z3, z4, z5, zf⟩ := zaa.c6 k4; clear hs' hK4 hcc4 hlx hFx hx hmx hn; go_wp2_with fail
            go_region_law (first
             | (go_simp; go_at_call 16; refine (HHE.out _ (zbz (Below.refl _ _))).mono ?_; rintro e w5 ⟨v2, v7, rfl, hV2, hV7, hb5⟩; (obtain ⟨B2, b2, rfl⟩ := Kd.zhv hV2); (obtain ⟨B7, b7, rfl⟩ := Kd.zhv hV7); have k5 := (hb5.block w3.heap.size hg4.out).trans k4; obtain ⟨y0, y1, y2, y3, y4, y5, yf⟩ := zaa.c6 k5)
             | fail)
            all_goals
             go_wp2_with fail; go_meet; exact ⟨zad.put6 rfl k5 hV2 hV7 (HOL.out w4.drew HBC.out.size) (HOL.out w4.drew HBC.out.size) (fun k hk => (hb5.block k (Nat.lt_trans hk hg4.out)).trans (HF4.out k hk)) (zaw (zbz HB5.out) (zbz HB5.out).size hb5) HW3.out⟩
           ·have hs' := HS2.out; rw [if_neg hcl] at hs'; simp only [Option.some.injEq, Prod.mk.injEq] at hs'; obtain ⟨rfl, rfl, rfl, rfl, rfl, rfl⟩ := hs'; go_wp2_with fail; go_meet; exact ⟨A2, c2, A7, c7, k4, Kd.zgc HV2.out HBC.out, Kd.zgc HV5.out HBC.out, HF4.out, HB5.out⟩
         case rest =>
          obtain ⟨B2, b2, B7, b7, hk, hV2, hV7, hfr, hbw⟩ := hcut.out; clear hcut; obtain ⟨z0, z1, z2, z3, z4, z5, zf⟩ := zaa.c6 hk; have HK6 := zab.mk hk; have HG2 := zab.mk hV2; have HG7 := zab.mk hV7; have HFS := zab.mk hfr; have HBZ := zab.mk hbw; have hR := HRE.out; clear HRE HS' HBB HK HV2 HV5 HFR HBW hgS HOK hk hV2 hV7 hfr hbw
          by_cases hn : g1 < 0
          ·rw [if_pos hn] at hR; obtain rfl := Option.some.inj hR; clear hR; go_wp2_with fail; go_quiet (fail); go_wp2_with fail; go_ret; exact ⟨rfl, zbr HBZ.out _⟩
          ·rw [if_neg hn] at hR
           by_cases hm : g1 ≥ (st.length : Int)
           ·rw [if_pos hm] at hR; obtain rfl := Option.some.inj hR; have hmb : decide (g1 ≥ (st.length : Int)) = true := decide_eq_true hm; have hnb : decide (g1 < 0) = false := decide_eq_false hn; clear hR hm hn; go_wp2_with fail; go_quiet (fail); go_wp2_with fail; go_ret; exact ⟨rfl, zbr HBZ.out _⟩
           ·rw [if_neg hm] at hR; obtain ⟨b2_, hsc, hR⟩ := Option.bind_eq_some_iff.1 hR; obtain ⟨y, hy⟩ : ∃ y, y = st.getD g1.toNat [] := ⟨_, rfl⟩; rw [← hy] at hsc; obtain ⟨ady, csy, hA5, hl5, hK5, hcc5, _⟩ := Kd.F_get (HSF.out wc HFS.out) [] g1 (by omega) (by omega); rw [← hy] at hK5; obtain ⟨Ay, cy, hce, hly, hFy⟩ := Kd.zex hK5; subst hce; subst hA5
            have hy0 : wc.cell? (ady.add g1.toNat) = some (.slice Ay y.length cy) := by
             have := hcc5 0 _ rfl; simpa [show (Kd.slice 56 k56).sz = 1 from rfl] using this
            obtain ⟨_, hlB, hCB⟩ := Kd.zbx HG2.out; have HSC := zab.mk (fun (m : Nat) => zai.calls k B2 b2 g2 Ay cy y b2_ (wc.drewN m) (Kd.C_drewN hCB m) hlB (Kd.C_drewN (Kd.F_now hFy) m) hly hsc); have HR2 := zab.mk hR; have hm0 : 0 ≤ g1 := by omega
            have hml2 : g1 < (st.length : Int) := by omega
            have hmb : decide (g1 ≥ (st.length : Int)) = false := decide_eq_false hm; have hnb : decide (g1 < 0) = false := decide_eq_false hn; clear hsc hR hK5 hcc5 hly hFy hy hl5 hlB hCB hm hn
            cases b2_ with
            | false =>
             have hR := HR2.out; rw [if_neg (by decide)] at hR; obtain rfl := Option.some.inj hR; clear hR HR2; go_wp2_with fail; go_quiet (first | (go_at_call 12; (with_reducible refine (HSC.out _).mono ?_); rintro e w' ⟨rfl, ⟨nd, rfl⟩⟩; (try first | exact ⟨rfl, _, World.drewN_drewN _ _ _⟩ | exact ⟨rfl, _, Eq.trans (World.drewN_drewN _ _ _) (congrArg (World.drewN _) (Nat.add_assoc _ _ _))⟩))); go_wp2_with fail; go_ret; exact ⟨rfl, zbr HBZ.out _⟩
            | true =>
             have hR := HR2.out; rw [if_pos rfl] at hR; have HR3 := zab.mk hR; clear hR HR2; go_wp2_with fail; go_quiet (first | (go_at_call 12; (with_reducible refine (HSC.out _).mono ?_); rintro e w' ⟨rfl, ⟨nd, rfl⟩⟩; (try first | exact ⟨rfl, _, World.drewN_drewN _ _ _⟩ | exact ⟨rfl, _, Eq.trans (World.drewN_drewN _ _ _) (congrArg (World.drewN _) (Nat.add_assoc _ _ _))⟩))); go_wp2_with fail; go_roundg (60 - (j + 1))
             case measure => have := hgg.out; omega
             case rel => exact ⟨j + 1, g0, g1, g2, g3, g4, g5, B2, b2, B7, b7, by go_num, ⟨by omega⟩, ⟨Nat.le_refl _⟩, HR3, ⟨((zbr (Below.refl wc.heap.size wc) _).block w3.heap.size (zca HK6.out)).trans HK6.out⟩, ⟨Kd.zcm HG2.out _⟩, ⟨Kd.zcm HG7.out _⟩, HFS, ⟨zbr HBZ.out _⟩⟩
     ·have hA := HA.out
      have hA2 : zaa.f k = some r := by
       by_cases h60 : j = 60
       ·subst h60; simpa only [Nat.sub_self, zad.b] using hA
       ·obtain ⟨m, hm⟩ : ∃ m, 60 - j = m + 1 := ⟨60 - j - 1, by omega⟩; rw [hm, show l1.drop j = [] from List.drop_of_length_le (by omega)] at hA; simpa only [zad.b] using hA
      have HAW := zab.mk (zaa.calls k r wr0 hA2 (HG.out.below HBW.out)); have hex : ¬ (j : Int) < (l1.length : Int) ∨ ((j : Int) < (l1.length : Int) ∧ ¬ (j : Int) < 60) := by omega
      clear hA hA2 HA hgg; rcases hex with hp1 | ⟨hp1, hp2⟩
      all_goals
       go_wp2_with (go_at_call 9; ((with_reducible refine HAW.out.mono ?_)); rintro e w5 ⟨rfl, hb⟩; have HBL := zab.mk (zaw HBW.out HBW.out.size hb); clear hb); go_ret; exact ⟨rfl, HBL.out⟩

end Go.Proofs.YtchpbnabbjdfgaaDoor.P
