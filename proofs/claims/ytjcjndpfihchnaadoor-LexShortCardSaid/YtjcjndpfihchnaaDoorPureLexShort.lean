-- Plain laws of the printed functions (wip/l11).
import Derived.Test.YtjcjndpfihchnaaDoorPureQ5
import Derived.Test.YtjcjndpfihchnaaDoorStatLexShort
namespace Go.Proofs.YtjcjndpfihchnaaDoor.Pure
open Go.ChangeShapes Go.WideShapes Go.ChangeAt Go.RowKit Go.Proofs.YtjcjndpfihchnaaDoorW.PrintWords Go.Proofs.YtjcjndpfihchnaaDoorW.PrintLast Go.Proofs.YtjcjndpfihchnaaDoor.P Go.Proofs.YtjcjndpfihchnaaDoor.Open
set_option linter.unusedVariables false
set_option linter.unusedSimpArgs false
theorem lead_rep : ∀ n : Nat, lead (List.replicate n 32) = []
  | 0 => rfl
  | n + 1 => by
    unfold lead
    rw [List.replicate_succ, List.dropWhile_cons, if_pos (by decide)]
    exact lead_rep n
theorem rep_succ (n : Nat) : (⟨(List.replicate n (32 : UInt8)).toArray⟩ : ByteArray) ++ ⟨#[32]⟩ = ⟨(List.replicate (n + 1) (32 : UInt8)).toArray⟩ := by
  rw [show (⟨#[32]⟩ : ByteArray) = ⟨([32] : List UInt8).toArray⟩ from rfl, ba_append, List.replicate_succ']
theorem short_loop (x : Int) (h0 : 0 ≤ x) (h1 : x ≤ 255) : ∀ (n j : Nat), ((j + n : Nat) : Int) = x → Ev (fun k => corollarylaw11_LexShort.l0 k x ⟨(List.replicate j (32 : UInt8)).toArray⟩ (j : Int)) true
  | 0, j, h => by
    apply Ev.succ
    simp only [corollarylaw11_LexShort.l0]
    rw [w64 (n := x) (by omega) (by omega)]
    refine Ev.neg (by omega) ?_
    have sc := Scan_ev ⟨(List.replicate j (32 : UInt8)).toArray⟩ (ts := []) (e := 0) (.nil (by
      have : L (⟨(List.replicate j (32 : UInt8)).toArray⟩ : ByteArray) = List.replicate j 32 := by simp [L]
      rw [this]; exact lead_rep j)) (by rw [ba_size]; simp; omega)
    exact Ev.bind sc (Ev.pos rfl (Ev.pos rfl (Ev.bind awake_ev (Ev.pure _))))
  | n + 1, j, h => by
    apply Ev.succ
    simp only [corollarylaw11_LexShort.l0]
    rw [w64 (n := x) (by omega) (by omega)]
    refine Ev.pos (by omega) (Ev.pos (by rw [ba_size]; simp; omega) ?_)
    rw [rep_succ, inc64 (by omega)]
    exact short_loop x h0 h1 n (j + 1) (by omega)
theorem LexShort_pure : Stat.LexShort := by
  intro a0 x _ _ hx
  apply Ev.get
  have hxr : 0 ≤ x ∧ x ≤ 255 := by
    have := bounds_u8 hx
    omega
  unfold corollarylaw11_LexShort.f
  by_cases h : (a0.size : Int) > 512
  · exact Ev.pos h (Ev.bind awake_ev (Ev.pure _))
  · refine Ev.neg h ?_
    obtain ⟨ts, e, hs⟩ := scans_all _ (L a0) (Nat.le_refl _)
    have hl := scans_len hs
    rw [L_len] at hl
    refine Ev.bind (Scan_ev a0 hs (by omega)) (Ev.neg (by simp; omega) ?_)
    have go : Ev (fun k => corollarylaw11_LexShort.j0 k x false) true := by
      apply Ev.succ
      simp only [corollarylaw11_LexShort.j0]
      refine Ev.neg (by decide) ?_
      obtain ⟨n, hn⟩ : ∃ n : Nat, (n : Int) = x := ⟨x.toNat, by omega⟩
      have := short_loop x hxr.1 hxr.2 n 0 (by omega)
      exact this
    by_cases he : e = 0
    · exact Ev.pos he go
    · refine Ev.neg he ?_
      have := scans_err hs he
      subst this
      exact go
end Go.Proofs.YtjcjndpfihchnaaDoor.Pure
