-- HALVED
import Derived.Sort.LotA
set_option linter.unusedVariables false
set_option linter.unusedSimpArgs false
namespace Go.Stb
open Go.Sort
variable {α : Type} [Inhabited α]
def swapRange (a b : Nat) : Nat → Array α → Array α
 | 0, d => d
 | n + 1, d => swapRange (a + 1) (b + 1) n (swp d a b)
def zds (m i j : Nat) (d : Array α) : Array α :=
 if i = 0 ∨ j = 0 then d else
 if i = j then swapRange (m - i) m i d else
 if j < i then zds m (i - j) j (swapRange (m - i) m j d) else
 zds m i (j - i) (swapRange (m - i) (m + j - i) i d)
termination_by i + j

def rotate (a m b : Nat) (d : Array α) : Array α := zds m (m - a) (b - m) d
def bsearch (p : Nat → Bool) (i j : Nat) : Nat :=
 if i < j then (if p ((i + j) / 2) then bsearch p ((i + j) / 2 + 1) j else bsearch p i ((i + j) / 2)) else i
termination_by j - i
decreasing_by all_goals omega

def shUp (k : Nat) : Nat → Array α → Array α
 | 0, d => d
 | n + 1, d => shUp (k + 1) n (swp d k (k + 1))
def shDn (k : Nat) : Nat → Array α → Array α
 | 0, d => d
 | n + 1, d => shDn (k - 1) n (swp d k (k - 1))

section
variable (lt : α → α → Bool)

def zfz (a m b : Nat) (d : Array α) : Nat :=
 bsearch (fun c => !lt d[(a + b) / 2 + m - 1 - c]! d[c]!) (if (a + b) / 2 < m then (a + b) / 2 + m - b else a) (if (a + b) / 2 < m then (a + b) / 2 else m)

def zgh (a m b s : Nat) (d : Array α) : Array α :=
 if s < m ∧ m < (a + b) / 2 + m - s then rotate s m ((a + b) / 2 + m - s) d else d

def symMerge : Nat → Array α → Nat → Nat → Nat → Array α
 | 0, d, _, _, _ => d
 | f + 1, d, a, m, b =>
  if m - a = 1 then shUp a (bsearch (fun h => lt d[h]! d[a]!) m b - 1 - a) d else
  if b - m = 1 then shDn m (m - bsearch (fun h => !lt d[m]! d[h]!) a m) d else
  let s := zfz lt a m b d
  let d1 := zgh a m b s d
  let d2 := if a < s ∧ s < (a + b) / 2 then symMerge f d1 a s ((a + b) / 2) else d1
  if (a + b) / 2 < (a + b) / 2 + m - s ∧ (a + b) / 2 + m - s < b then symMerge f d2 ((a + b) / 2) ((a + b) / 2 + m - s) b else d2

def zid (n a : Nat) (d : Array α) : Array α :=
 if a + 20 ≤ n then zid n (a + 20) (insertionSort lt d a (a + 20)) else insertionSort lt d a n
termination_by n - a

def zeu (bs n a : Nat) (d : Array α) : Array α :=
 if bs = 0 then d else
 if a + 2 * bs ≤ n then zeu bs n (a + 2 * bs) (symMerge lt (2 * bs) d a (a + bs) (a + 2 * bs)) else
 if a + bs < n then symMerge lt (n - a) d a (a + bs) n else d
termination_by n - a

def zgg (bs n : Nat) (d : Array α) : Array α :=
 if bs = 0 then d else
 if bs < n then zgg (2 * bs) n (zeu lt bs n 0 d) else d
termination_by n - bs

def stable (d : Array α) : Array α := zgg lt 20 d.size (zid lt d.size 0 d)
end
theorem zfd (a0 b0 : Nat) : ∀ (n a b : Nat) (d : Array α), a0 ≤ a → a + n ≤ b0 → a0 ≤ b → b + n ≤ b0 → b0 ≤ d.size → PermIn a0 b0 d (swapRange a b n d)
 | 0, a, b, d, _, _, _, _, _ => permIn_refl d a0 b0
 | n + 1, a, b, d, h1, h2, h3, h4, h5 => by
  unfold swapRange
  exact permIn_trans _ _ _ a0 b0 (swp_permIn d a0 b0 a b h1 (by omega) h3 (by omega) h5)
   (zfd a0 b0 n (a + 1) (b + 1) _ (by omega) (by omega) (by omega) (by omega) (by rw [size_swp]; exact h5))

theorem zcr : ∀ (n a b : Nat) (d : Array α), (swapRange a b n d).size = d.size
 | 0, _, _, _ => rfl
 | n + 1, a, b, d => by unfold swapRange; rw [zcr n, size_swp]

theorem zgl : ∀ (n a b : Nat) (d : Array α), a + n ≤ b → b + n ≤ d.size → ∀ k, (swapRange a b n d)[k]! =
  if a ≤ k ∧ k < a + n then d[k + (b - a)]! else if b ≤ k ∧ k < b + n then d[k - (b - a)]! else d[k]!
 | 0, a, b, d, _, _, k => by
  unfold swapRange
  rw [if_neg (by omega), if_neg (by omega)]
 | n + 1, a, b, d, h1, h2, k => by
  unfold swapRange
  rw [zgl n (a + 1) (b + 1) (swp d a b) (by omega) (by rw [size_swp]; omega)]
  have g := swp_get d (show a < d.size by omega) (show b < d.size by omega)
  simp only [g]
  have e : b + 1 - (a + 1) = b - a := by omega
  rw [e]
  by_cases hk1 : k = a
  ·subst hk1
   rw [if_neg (by omega), if_neg (by omega), if_neg (by omega), if_pos rfl, if_pos (by omega)]
   congr 1; omega
  ·by_cases hk2 : k = b
   ·subst hk2
    rw [if_neg (by omega), if_neg (by omega), if_pos rfl, if_neg (by omega), if_pos (by omega)]
    congr 1; omega
   ·by_cases hk3 : a ≤ k ∧ k < a + (n + 1)
    ·rw [if_pos (by omega), if_pos hk3, if_neg (by omega), if_neg (by omega)]
    ·rw [if_neg (by omega), if_neg hk3]
     by_cases hk4 : b ≤ k ∧ k < b + (n + 1)
     ·rw [if_pos (by omega), if_pos hk4, if_neg (by omega), if_neg (by omega)]
     ·rw [if_neg (by omega), if_neg hk4, if_neg hk2, if_neg hk1]

theorem zgx (a0 b0 m : Nat) : ∀ (t i j : Nat) (d : Array α), i + j ≤ t → i ≤ m → a0 ≤ m - i → m + j ≤ b0 → b0 ≤ d.size → PermIn a0 b0 d (zds m i j d)
 | 0, i, j, d, ht, _, _, _, _ => by
  unfold zds; rw [if_pos (by omega)]; exact permIn_refl d a0 b0
 | t + 1, i, j, d, ht, him, h1, h2, h3 => by
  unfold zds
  by_cases h0 : i = 0 ∨ j = 0
  ·rw [if_pos h0]; exact permIn_refl d a0 b0
  rw [if_neg h0]
  by_cases hij : i = j
  ·rw [if_pos hij]
   exact zfd a0 b0 i (m - i) m d h1 (by omega) (by omega) (by omega) h3
  rw [if_neg hij]
  by_cases hji : j < i
  ·rw [if_pos hji]
   exact permIn_trans _ _ _ a0 b0 (zfd a0 b0 j (m - i) m d h1 (by omega) (by omega) (by omega) h3)
    (zgx a0 b0 m t (i - j) j _ (by omega) (by omega) (by omega) (by omega) (by rw [zcr]; exact h3))
  ·rw [if_neg hji]
   exact permIn_trans _ _ _ a0 b0 (zfd a0 b0 i (m - i) (m + j - i) d h1 (by omega) (by omega) (by omega) h3)
    (zgx a0 b0 m t i (j - i) _ (by omega) (by omega) (by omega) (by omega) (by rw [zcr]; exact h3))

theorem ziv (m : Nat) : ∀ (t i j : Nat) (d : Array α), i + j ≤ t → i ≤ m → m + j ≤ d.size → ∀ k, (zds m i j d)[k]! =
  if m - i ≤ k ∧ k < m - i + j then d[k + i]! else if m - i + j ≤ k ∧ k < m + j then d[k - j]! else d[k]!
 | 0, i, j, d, ht, _, _, k => by
  obtain rfl : i = 0 := by omega
  obtain rfl : j = 0 := by omega
  unfold zds; rw [if_pos (by omega), if_neg (by omega), if_neg (by omega)]
 | t + 1, i, j, d, ht, him, h2, k => by
  unfold zds
  by_cases h0 : i = 0 ∨ j = 0
  ·rw [if_pos h0]
   by_cases hi : i = 0
   ·subst hi
    split
    ·rfl
    ·rw [if_neg (by omega)]
   ·obtain rfl : j = 0 := by omega
    rw [if_neg (by omega)]
    split
    ·rfl
    ·rfl
  rw [if_neg h0]
  by_cases hij : i = j
  ·subst hij
   rw [if_pos rfl, zgl i (m - i) m d (by omega) (by omega)]
   have e : m - (m - i) = i := by omega
   have e2 : m - i + i = m := by omega
   rw [e, e2]
  rw [if_neg hij]
  by_cases hji : j < i
  ·rw [if_pos hji, ziv m t (i - j) j _ (by omega) (by omega) (by rw [zcr]; omega)]
   simp only [zgl j (m - i) m d (by omega) (by omega)]
   by_cases c1 : m - i ≤ k ∧ k < m - i + j
   ·repeat (first | rw [if_pos (by omega)] | rw [if_neg (by omega)])
    first | rfl | (congr 1; omega)
   ·by_cases c2 : m - i + j ≤ k ∧ k < m + j
    ·by_cases c3 : k < m - i + j + j
     ·repeat (first | rw [if_pos (by omega)] | rw [if_neg (by omega)])
      first | rfl | (congr 1; omega)
     ·repeat (first | rw [if_pos (by omega)] | rw [if_neg (by omega)])
    ·repeat (first | rw [if_pos (by omega)] | rw [if_neg (by omega)])
  ·rw [if_neg hji, ziv m t i (j - i) _ (by omega) (by omega) (by rw [zcr]; omega)]
   simp only [zgl i (m - i) (m + j - i) d (by omega) (by omega)]
   by_cases c1 : m - i ≤ k ∧ k < m - i + j
   ·by_cases c3 : k < m - i + (j - i)
    ·repeat (first | rw [if_pos (by omega)] | rw [if_neg (by omega)])
    ·repeat (first | rw [if_pos (by omega)] | rw [if_neg (by omega)])
     first | rfl | (congr 1; omega)
   ·by_cases c2 : m - i + j ≤ k ∧ k < m + j
    ·repeat (first | rw [if_pos (by omega)] | rw [if_neg (by omega)])
     first | rfl | (congr 1; omega)
    ·repeat (first | rw [if_pos (by omega)] | rw [if_neg (by omega)])

theorem zic (m : Nat) : ∀ (t i j : Nat) (d : Array α), i + j ≤ t → (zds m i j d).size = d.size
 | 0, i, j, d, ht => by unfold zds; rw [if_pos (by omega)]
 | t + 1, i, j, d, ht => by
  unfold zds
  split
  ·rfl
  split
  ·exact zcr _ _ _ _
  split
  ·rw [zic m t _ _ _ (by omega), zcr]
  ·rw [zic m t _ _ _ (by omega), zcr]
theorem zfg (p : Nat → Bool) : ∀ (t i j : Nat), j - i ≤ t → i ≤ j → (∀ x y, i ≤ x → x ≤ y → y < j → p y = true → p x = true) →
  i ≤ bsearch p i j ∧ bsearch p i j ≤ j ∧ (∀ x, i ≤ x → x < bsearch p i j → p x = true) ∧ (∀ x, bsearch p i j ≤ x → x < j → p x = false)
 | 0, i, j, ht, hij, _ => by
  unfold bsearch; rw [if_neg (by omega)]
  exact ⟨by omega, by omega, fun x h1 h2 => by omega, fun x h1 h2 => by omega⟩
 | t + 1, i, j, ht, hij, hm => by
  unfold bsearch
  by_cases hlt : i < j
  ·rw [if_pos hlt]
   generalize hh : (i + j) / 2 = h
   by_cases hp : p h = true
   ·rw [if_pos hp]
    obtain ⟨a1, a2, a3, a4⟩ := zfg p t (h + 1) j (by omega) (by omega) (fun x y hx hxy hy => hm x y (by omega) hxy hy)
    refine ⟨by omega, a2, fun x hx hxr => ?_, a4⟩
    by_cases hxh : x ≤ h
    ·exact hm x h hx hxh (by omega) hp
    ·exact a3 x (by omega) hxr
   ·rw [if_neg hp]
    obtain ⟨a1, a2, a3, a4⟩ := zfg p t i h (by omega) (by omega) (fun x y hx hxy hy => hm x y hx hxy (by omega))
    refine ⟨a1, by omega, a3, fun x hx hxr => ?_⟩
    by_cases hxh : x < h
    ·exact a4 x hx hxh
    ·cases hpx : p x with
     | false => rfl
     | true => exact absurd (hm h x (by omega) (by omega) hxr hpx) hp
  ·rw [if_neg hlt]
   exact ⟨by omega, by omega, fun x h1 h2 => by omega, fun x h1 h2 => by omega⟩

theorem shUp_permIn (a0 b0 : Nat) : ∀ (n k : Nat) (d : Array α), a0 ≤ k → k + n < b0 → b0 ≤ d.size → PermIn a0 b0 d (shUp k n d)
 | 0, k, d, _, _, _ => permIn_refl d a0 b0
 | n + 1, k, d, h1, h2, h3 => by
  unfold shUp
  exact permIn_trans _ _ _ a0 b0 (swp_permIn d a0 b0 k (k + 1) h1 (by omega) (by omega) (by omega) h3)
   (shUp_permIn a0 b0 n (k + 1) _ (by omega) (by omega) (by rw [size_swp]; exact h3))

theorem shUp_get : ∀ (n k : Nat) (d : Array α), k + n < d.size → ∀ x, (shUp k n d)[x]! = if k ≤ x ∧ x < k + n then d[x + 1]! else if x = k + n then d[k]! else d[x]!
 | 0, k, d, _, x => by
  unfold shUp
  rw [if_neg (by omega)]
  split
  ·rename_i h; subst h; rfl
  ·rfl
 | n + 1, k, d, h, x => by
  unfold shUp
  rw [shUp_get n (k + 1) _ (by rw [size_swp]; omega)]
  simp only [swp_get d (show k < d.size by omega) (show k + 1 < d.size by omega)]
  by_cases c1 : k ≤ x ∧ x < k + (n + 1)
  ·rw [if_pos c1]
   by_cases c2 : x = k
   ·subst c2
    rw [if_neg (by omega), if_neg (by omega), if_neg (by omega), if_pos rfl]
   ·rw [if_pos (by omega), if_neg (by omega), if_neg (by omega)]
  ·rw [if_neg c1]
   by_cases c2 : x = k + (n + 1)
   ·rw [if_pos c2, if_neg (by omega), if_pos (by omega)]
    simp
   ·rw [if_neg c2, if_neg (by omega), if_neg (by omega), if_neg (by omega), if_neg (by omega)]

theorem shDn_permIn (a0 b0 : Nat) : ∀ (n k : Nat) (d : Array α), a0 + n ≤ k → k < b0 → b0 ≤ d.size → PermIn a0 b0 d (shDn k n d)
 | 0, k, d, _, _, _ => permIn_refl d a0 b0
 | n + 1, k, d, h1, h2, h3 => by
  unfold shDn
  exact permIn_trans _ _ _ a0 b0 (swp_permIn d a0 b0 k (k - 1) (by omega) (by omega) (by omega) (by omega) h3)
   (shDn_permIn a0 b0 n (k - 1) _ (by omega) (by omega) (by rw [size_swp]; exact h3))

theorem shDn_get : ∀ (n k : Nat) (d : Array α), n ≤ k → k < d.size → ∀ x, (shDn k n d)[x]! = if k - n < x ∧ x ≤ k then d[x - 1]! else if x = k - n then d[k]! else d[x]!
 | 0, k, d, _, _, x => by
  unfold shDn
  rw [if_neg (by omega)]
  split
  ·rename_i h; subst h; rfl
  ·rfl
 | n + 1, k, d, h, hk, x => by
  unfold shDn
  rw [shDn_get n (k - 1) _ (by omega) (by rw [size_swp]; omega)]
  simp only [swp_get d hk (show k - 1 < d.size by omega)]
  by_cases c1 : k - (n + 1) < x ∧ x ≤ k
  ·rw [if_pos c1]
   by_cases c2 : x = k
   ·subst c2
    rw [if_neg (by omega), if_neg (by omega), if_neg (by omega), if_pos rfl]
   ·rw [if_pos (by omega), if_neg (by omega), if_neg (by omega)]
  ·rw [if_neg c1]
   by_cases c2 : x = k - (n + 1)
   ·rw [if_pos c2, if_neg (by omega), if_pos (by omega)]
    simp
   ·rw [if_neg c2, if_neg (by omega), if_neg (by omega), if_neg (by omega), if_neg (by omega)]
variable {lt : α → α → Bool}
theorem swo_lt_of {γ : Type} {lt : γ → γ → Bool} (h : SWO lt) {x y z : γ} (h1 : lt y x = false) (h2 : lt y z = true) : lt x z = true := by
 cases hx : lt x z with
 | true => rfl
 | false => have := h.ntrans _ _ _ h1 hx; rw [this] at h2; cases h2

theorem zdx {a b : Nat} {d : Array α} (hS : SWO lt) (hs : SortedIn lt a b d) {x y : Nat} (hx : a ≤ x) (hxy : x ≤ y) (hy : y < b) : lt d[y]! d[x]! = false := by
 by_cases h : x = y
 ·subst h; exact hS.irrefl _
 ·exact hs x y hx (by omega) hy

theorem symMid_spec (hS : SWO lt) (d : Array α) (a m b : Nat) (ham : a < m) (hmb : m < b) (s1 : SortedIn lt a m d) (s2 : SortedIn lt m b d) :
  a ≤ zfz lt a m b d ∧ zfz lt a m b d ≤ m ∧ zfz lt a m b d ≤ (a + b) / 2 ∧ (a + b) / 2 + m - zfz lt a m b d ≤ b ∧
  (∀ x y, a ≤ x → x < zfz lt a m b d → (a + b) / 2 + m - zfz lt a m b d ≤ y → y < b → lt d[y]! d[x]! = false) ∧
  (∀ x y, m ≤ x → x < (a + b) / 2 + m - zfz lt a m b d → zfz lt a m b d ≤ y → y < m → lt d[y]! d[x]! = false) := by
 have hdiv : 2 * ((a + b) / 2) ≤ a + b ∧ a + b ≤ 2 * ((a + b) / 2) + 1 := by omega
 unfold zfz
 generalize (a + b) / 2 = mid at *
 by_cases hm : mid < m
 ·rw [if_pos hm, if_pos hm]
  have sp := zfg (fun c => !lt d[mid + m - 1 - c]! d[c]!) (mid - (mid + m - b)) (mid + m - b) mid (by omega) (by omega) (by
   intro x y hx hxy hy hp
   simp only [Bool.not_eq_true'] at hp ⊢
   have e1 := zdx hS s1 (show a ≤ x by omega) hxy (by omega)
   have e2 := zdx hS s2 (show m ≤ mid + m - 1 - y by omega) (show mid + m - 1 - y ≤ mid + m - 1 - x by omega) (by omega)
   exact hS.ntrans _ _ _ e2 (hS.ntrans _ _ _ hp e1))
  generalize bsearch _ _ _ = s at *
  obtain ⟨p1, p2, p3, p4⟩ := sp
  refine ⟨by omega, by omega, by omega, by omega, ?_, ?_⟩
  ·intro x y hx hxs hy hyb
   have h := p3 (s - 1) (by omega) (by omega)
   simp only [Bool.not_eq_true'] at h
   rw [show mid + m - 1 - (s - 1) = mid + m - s by omega] at h
   have e1 := zdx hS s1 hx (show x ≤ s - 1 by omega) (by omega)
   have e2 := zdx hS s2 (show m ≤ mid + m - s by omega) hy hyb
   exact hS.ntrans _ _ _ e2 (hS.ntrans _ _ _ h e1)
  ·intro x y hx hxe hy hym
   have h := p4 s (by omega) (by omega)
   simp only [Bool.not_eq_false'] at h
   have h := SWO.asymmA hS h
   have e1 := zdx hS s2 hx (show x ≤ mid + m - 1 - s by omega) (by omega)
   have e2 := zdx hS s1 (show a ≤ s by omega) hy hym
   exact hS.ntrans _ _ _ e2 (hS.ntrans _ _ _ h e1)
 ·rw [if_neg hm, if_neg hm]
  have sp := zfg (fun c => !lt d[mid + m - 1 - c]! d[c]!) (m - a) a m (by omega) (by omega) (by
   intro x y hx hxy hy hp
   simp only [Bool.not_eq_true'] at hp ⊢
   have e1 := zdx hS s1 (show a ≤ x by omega) hxy (by omega)
   have e2 := zdx hS s2 (show m ≤ mid + m - 1 - y by omega) (show mid + m - 1 - y ≤ mid + m - 1 - x by omega) (by omega)
   exact hS.ntrans _ _ _ e2 (hS.ntrans _ _ _ hp e1))
  generalize bsearch _ _ _ = s at *
  obtain ⟨p1, p2, p3, p4⟩ := sp
  refine ⟨by omega, by omega, by omega, by omega, ?_, ?_⟩
  ·intro x y hx hxs hy hyb
   have h := p3 (s - 1) (by omega) (by omega)
   simp only [Bool.not_eq_true'] at h
   rw [show mid + m - 1 - (s - 1) = mid + m - s by omega] at h
   have e1 := zdx hS s1 hx (show x ≤ s - 1 by omega) (by omega)
   have e2 := zdx hS s2 (show m ≤ mid + m - s by omega) hy hyb
   exact hS.ntrans _ _ _ e2 (hS.ntrans _ _ _ h e1)
  ·intro x y hx hxe hy hym
   have h := p4 s (by omega) (by omega)
   simp only [Bool.not_eq_false'] at h
   have h := SWO.asymmA hS h
   have e1 := zdx hS s2 hx (show x ≤ mid + m - 1 - s by omega) (by omega)
   have e2 := zdx hS s1 (show a ≤ s by omega) hy hym
   exact hS.ntrans _ _ _ e2 (hS.ntrans _ _ _ h e1)

theorem rotate_permIn (a m b : Nat) (d : Array α) (ham : a ≤ m) (hmb : m ≤ b) (hb : b ≤ d.size) : PermIn a b d (rotate a m b d) := by
 unfold rotate
 exact zgx a b m _ (m - a) (b - m) d (Nat.le_refl _) (by omega) (by omega) (by omega) hb

theorem rotate_get (a m b : Nat) (d : Array α) (ham : a ≤ m) (hmb : m ≤ b) (hb : b ≤ d.size) (k : Nat) : (rotate a m b d)[k]! =
  if a ≤ k ∧ k < a + (b - m) then d[k + (m - a)]! else if a + (b - m) ≤ k ∧ k < b then d[k - (b - m)]! else d[k]! := by
 unfold rotate
 rw [ziv m _ (m - a) (b - m) d (Nat.le_refl _) (by omega) (by omega)]
 rw [show m - (m - a) = a by omega, show m + (b - m) = b by omega]

theorem symRot_permIn (a m b s : Nat) (d : Array α) (has : a ≤ s) (hsm : s ≤ m) (he : (a + b) / 2 + m - s ≤ b) (hs2 : s ≤ (a + b) / 2) (hb : b ≤ d.size) : PermIn a b d (zgh a m b s d) := by
 unfold zgh
 split
 ·exact permIn_mono _ _ _ _ _ _ has he hb (rotate_permIn s m _ d hsm (by omega) (by omega))
 ·exact permIn_refl d a b

theorem symRot_get (a m b s : Nat) (d : Array α) (hsm : s ≤ m) (he : (a + b) / 2 + m - s ≤ b) (hs2 : s ≤ (a + b) / 2) (hb : b ≤ d.size) (k : Nat) : (zgh a m b s d)[k]! =
  if s ≤ k ∧ k < (a + b) / 2 then d[k + (m - s)]! else if (a + b) / 2 ≤ k ∧ k < (a + b) / 2 + m - s then d[k - ((a + b) / 2 - s)]! else d[k]! := by
 unfold zgh
 generalize (a + b) / 2 = mid at *
 split
 ·rw [rotate_get s m _ d hsm (by omega) (by omega)]
  rw [show s + (mid + m - s - m) = mid by omega, show mid + m - s - m = mid - s by omega]
 ·by_cases h : s = m
  ·subst h
   rw [show s - s = 0 by omega, if_neg (show ¬ (mid ≤ k ∧ k < mid + s - s) by omega)]
   split <;> rfl
  ·have : s = mid := by omega
   subst this
   rw [if_neg (by omega), show s - s = 0 by omega]
   split <;> rfl
theorem sorted_join {a c b : Nat} {d : Array α} (h1 : SortedIn lt a c d) (h2 : SortedIn lt c b d) (h3 : ∀ x y, a ≤ x → x < c → c ≤ y → y < b → lt d[y]! d[x]! = false) : SortedIn lt a b d := by
 intro i j hi hij hj
 by_cases h : j < c
 ·exact h1 i j hi hij h
 ·by_cases h' : c ≤ i
  ·exact h2 i j h' hij hj
  ·exact h3 i j hi (by omega) (by omega) hj

theorem zet {a b : Nat} {d d' : Array α} (h : SortedIn lt a b d) (he : ∀ k, a ≤ k → k < b → d'[k]! = d[k]!) : SortedIn lt a b d' := by
 intro i j hi hij hj
 rw [he i hi (by omega), he j (by omega) hj]
 exact h i j hi hij hj

theorem zgn (hS : SWO lt) : ∀ (f : Nat) (d : Array α) (a m b : Nat), b - a ≤ f → a < m → m < b → b ≤ d.size → SortedIn lt a m d → SortedIn lt m b d →
  PermIn a b d (symMerge lt f d a m b) ∧ SortedIn lt a b (symMerge lt f d a m b)
 | 0, d, a, m, b, hf, ham, hmb, _, _, _ => by omega
 | f + 1, d, a, m, b, hf, ham, hmb, hb, s1, s2 => by
  unfold symMerge
  by_cases c1 : m - a = 1
  ·rw [if_pos c1]
   have sp := zfg (fun h => lt d[h]! d[a]!) (b - m) m b (Nat.le_refl _) (by omega) (by
    intro x y hx hxy hy hp
    have e := zdx hS s2 hx hxy hy
    exact swo_lt_of hS e hp)
   generalize bsearch _ _ _ = r at *
   obtain ⟨p1, p2, p3, p4⟩ := sp
   refine ⟨shUp_permIn a b _ a d (Nat.le_refl _) (by omega) hb, ?_⟩
   intro i j hi hij hj
   rw [shUp_get _ a d (by omega), shUp_get _ a d (by omega)]
   by_cases q1 : j < r - 1
   ·rw [if_pos (by omega), if_pos (by omega)]
    exact s2 (i + 1) (j + 1) (by omega) (by omega) (by omega)
   ·by_cases q2 : j = r - 1
    ·rw [if_neg (by omega), if_pos (by omega), if_pos (by omega)]
     exact SWO.asymmA hS (p3 (i + 1) (by omega) (by omega))
    ·rw [if_neg (show ¬ (a ≤ j ∧ j < a + (r - 1 - a)) by omega), if_neg (show ¬ j = a + (r - 1 - a) by omega)]
     by_cases q3 : i < r - 1
     ·rw [if_pos (by omega)]
      exact s2 (i + 1) j (by omega) (by omega) (by omega)
     ·rw [if_neg (by omega)]
      by_cases q4 : i = r - 1
      ·rw [if_pos (by omega)]
       exact p4 j (by omega) hj
      ·rw [if_neg (by omega)]
       exact s2 i j (by omega) hij hj
  rw [if_neg c1]
  by_cases c2 : b - m = 1
  ·rw [if_pos c2]
   have sp := zfg (fun h => !lt d[m]! d[h]!) (m - a) a m (Nat.le_refl _) (by omega) (by
    intro x y hx hxy hy hp
    simp only [Bool.not_eq_true'] at hp ⊢
    exact hS.ntrans _ _ _ hp (zdx hS s1 hx hxy hy))
   generalize bsearch _ _ _ = r at *
   obtain ⟨p1, p2, p3, p4⟩ := sp
   refine ⟨shDn_permIn a b _ m d (by omega) hmb hb, ?_⟩
   intro i j hi hij hj
   rw [shDn_get _ m d (by omega) (by omega), shDn_get _ m d (by omega) (by omega)]
   have er : m - (m - r) = r := by omega
   rw [er]
   by_cases q1 : i < r
   ·rw [if_neg (show ¬ (r < i ∧ i ≤ m) by omega), if_neg (show ¬ i = r by omega)]
    by_cases q2 : j < r
    ·rw [if_neg (by omega), if_neg (by omega)]
     exact s1 i j hi hij (by omega)
    ·by_cases q3 : j = r
     ·rw [if_neg (by omega), if_pos q3]
      have := p3 i hi q1
      simpa using this
     ·rw [if_pos (by omega)]
      exact s1 i (j - 1) hi (by omega) (by omega)
   ·by_cases q2 : i = r
    ·rw [if_pos (show r < j ∧ j ≤ m by omega), if_neg (by omega), if_pos q2]
     have := p4 (j - 1) (by omega) (by omega)
     simp only [Bool.not_eq_false'] at this
     exact SWO.asymmA hS this
    ·rw [if_pos (by omega), if_pos (by omega)]
     exact s1 (i - 1) (j - 1) (by omega) (by omega) (by omega)
  rw [if_neg c2]
  dsimp only
  have hdiv : 2 * ((a + b) / 2) ≤ a + b ∧ a + b ≤ 2 * ((a + b) / 2) + 1 := by omega
  have sp := symMid_spec hS d a m b ham hmb s1 s2
  generalize zfz lt a m b d = s at *
  have g := symRot_get a m b s d sp.2.1 sp.2.2.2.1 sp.2.2.1 hb
  have hp1 := symRot_permIn a m b s d sp.1 sp.2.1 sp.2.2.2.1 sp.2.2.1 hb
  generalize zgh a m b s d = d1 at *
  generalize (a + b) / 2 = mid at *
  obtain ⟨q1, q2, q3, q4, q5, q6⟩ := sp
  have hz1 := hp1.1
  have t1 : SortedIn lt a s d1 := zet (d := d) (fun i j h1 h2 h3 => s1 i j h1 h2 (by omega)) (fun k h1 h2 => by rw [g k, if_neg (by omega), if_neg (by omega)])
  have t2 : SortedIn lt s mid d1 := by
   intro i j h1 h2 h3
   rw [g i, g j, if_pos (by omega), if_pos (by omega)]
   exact s2 _ _ (by omega) (by omega) (by omega)
  have t3 : SortedIn lt mid (mid + m - s) d1 := by
   intro i j h1 h2 h3
   rw [g i, g j, if_neg (by omega), if_pos (by omega), if_neg (by omega), if_pos (by omega)]
   exact s1 _ _ (by omega) (by omega) (by omega)
  have t4 : SortedIn lt (mid + m - s) b d1 := by
   intro i j h1 h2 h3
   rw [g i, g j, if_neg (by omega), if_neg (by omega), if_neg (by omega), if_neg (by omega)]
   exact s2 _ _ (by omega) (by omega) (by omega)
  have t5 : ∀ x y, a ≤ x → x < mid → mid ≤ y → y < b → lt d1[y]! d1[x]! = false := by
   intro x y h1 h2 h3 h4
   rw [g x, g y]
   by_cases e1 : x < s
   ·rw [if_neg (show ¬ (s ≤ x ∧ x < mid) by omega), if_neg (show ¬ (mid ≤ x ∧ x < mid + m - s) by omega), if_neg (show ¬ (s ≤ y ∧ y < mid) by omega)]
    by_cases e2 : y < mid + m - s
    ·rw [if_pos (by omega)]
     exact s1 _ _ h1 (by omega) (by omega)
    ·rw [if_neg (by omega)]
     exact q5 _ _ h1 e1 (by omega) h4
   ·rw [if_pos (show s ≤ x ∧ x < mid by omega), if_neg (show ¬ (s ≤ y ∧ y < mid) by omega)]
    by_cases e2 : y < mid + m - s
    ·rw [if_pos (by omega)]
     exact q6 _ _ (by omega) (by omega) (by omega) (by omega)
    ·rw [if_neg (by omega)]
     exact s2 _ _ (by omega) (by omega) (by omega)
  have L : ∃ d2, (if a < s ∧ s < mid then symMerge lt f d1 a s mid else d1) = d2 ∧ PermIn a mid d1 d2 ∧ SortedIn lt a mid d2 := by
   by_cases h : a < s ∧ s < mid
   ·rw [if_pos h]
    exact ⟨_, rfl, zgn hS f d1 a s mid (by omega) h.1 h.2 (by omega) t1 t2⟩
   ·rw [if_neg h]
    refine ⟨d1, rfl, permIn_refl d1 a mid, ?_⟩
    by_cases h' : a = s
    ·subst h'; exact t2
    ·obtain rfl : s = mid := by omega
     exact t1
  obtain ⟨d2, hd2, pL, sL⟩ := L
  show PermIn a b d (if mid < mid + m - s ∧ mid + m - s < b then symMerge lt f (if a < s ∧ s < mid then symMerge lt f d1 a s mid else d1) mid (mid + m - s) b else (if a < s ∧ s < mid then symMerge lt f d1 a s mid else d1)) ∧ SortedIn lt a b (if mid < mid + m - s ∧ mid + m - s < b then symMerge lt f (if a < s ∧ s < mid then symMerge lt f d1 a s mid else d1) mid (mid + m - s) b else (if a < s ∧ s < mid then symMerge lt f d1 a s mid else d1))
  rw [hd2]
  have hz2 := pL.1
  have u3 : SortedIn lt mid (mid + m - s) d2 := zet t3 (fun k h1 h2 => pL.2.1 k (by omega))
  have u4 : SortedIn lt (mid + m - s) b d2 := zet t4 (fun k h1 h2 => pL.2.1 k (by omega))
  have u5 : ∀ x y, a ≤ x → x < mid → mid ≤ y → y < b → lt d2[y]! d2[x]! = false := by
   intro x y h1 h2 h3 h4
   rw [pL.2.1 y (by omega)]
   exact permIn_all d1 d2 a mid (fun v => lt d1[y]! v = false) (by omega) pL (fun i hi hi2 => t5 i y hi hi2 h3 h4) x h1 h2
  have R : ∃ d3, (if mid < mid + m - s ∧ mid + m - s < b then symMerge lt f d2 mid (mid + m - s) b else d2) = d3 ∧ PermIn mid b d2 d3 ∧ SortedIn lt mid b d3 := by
   by_cases h : mid < mid + m - s ∧ mid + m - s < b
   ·rw [if_pos h]
    exact ⟨_, rfl, zgn hS f d2 mid (mid + m - s) b (by omega) h.1 h.2 (by omega) u3 u4⟩
   ·rw [if_neg h]
    refine ⟨d2, rfl, permIn_refl d2 mid b, ?_⟩
    by_cases h' : mid = mid + m - s
    ·rw [← h'] at u4; exact u4
    ·have : mid + m - s = b := by omega
     rw [this] at u3; exact u3
  obtain ⟨d3, hd3, pR, sR⟩ := R
  rw [hd3]
  refine ⟨permIn_trans _ _ _ a b hp1 (permIn_trans _ _ _ a b (permIn_mono _ _ _ _ _ _ (Nat.le_refl _) (by omega) (by omega) pL) (permIn_mono _ _ _ _ _ _ (by omega) (Nat.le_refl _) (by omega) pR)), ?_⟩
  refine sorted_join (zet sL (fun k h1 h2 => pR.2.1 k (by omega))) sR (fun x y h1 h2 h3 h4 => ?_)
  rw [pR.2.1 x (by omega)]
  exact permIn_all d2 d3 mid b (fun v => lt v d2[x]! = false) (by omega) pR (fun i hi hi2 => u5 x i h1 h2 hi hi2) y h3 h4

theorem size_shUp : ∀ (n k : Nat) (d : Array α), (shUp k n d).size = d.size
 | 0, _, _ => rfl
 | n + 1, k, d => by unfold shUp; rw [size_shUp n, size_swp]

theorem size_shDn : ∀ (n k : Nat) (d : Array α), (shDn k n d).size = d.size
 | 0, _, _ => rfl
 | n + 1, k, d => by unfold shDn; rw [size_shDn n, size_swp]

theorem zgr (a m b s : Nat) (d : Array α) : (zgh a m b s d).size = d.size := by
 unfold zgh
 split
 ·exact zic _ _ _ _ _ (Nat.le_refl _)
 ·rfl

theorem zdw (lt : α → α → Bool) : ∀ (f : Nat) (d : Array α) (a m b : Nat), (symMerge lt f d a m b).size = d.size
 | 0, _, _, _, _ => rfl
 | f + 1, d, a, m, b => by
  unfold symMerge
  split
  ·exact size_shUp _ _ _
  split
  ·exact size_shDn _ _ _
  dsimp only
  split
  ·rw [zdw lt f]
   split
   ·rw [zdw lt f, zgr]
   ·exact zgr _ _ _ _ _
  ·split
   ·rw [zdw lt f, zgr]
   ·exact zgr _ _ _ _ _

theorem size_insInner (lt : α → α → Bool) (a : Nat) : ∀ (j : Nat) (d : Array α), (insInner lt a j d).size = d.size
 | 0, _ => rfl
 | j + 1, d => by
  unfold insInner
  split
  ·rw [size_insInner lt a j, size_swp]
  ·rfl

theorem size_insOuter (lt : α → α → Bool) (a b : Nat) : ∀ (t i : Nat) (d : Array α), b - i ≤ t → (insOuter lt a b i d).size = d.size
 | 0, i, d, h => by unfold insOuter; rw [if_neg (by omega)]
 | t + 1, i, d, h => by
  unfold insOuter
  split
  ·rw [size_insOuter lt a b t _ _ (by omega), size_insInner]
  ·rfl

theorem zem (lt : α → α → Bool) (d : Array α) (a b : Nat) : (insertionSort lt d a b).size = d.size := size_insOuter lt a b _ _ d (Nat.le_refl _)

theorem size_stMerge (lt : α → α → Bool) (bs n : Nat) : ∀ (t a : Nat) (d : Array α), n - a ≤ t → (zeu lt bs n a d).size = d.size
 | t, a, d, h => by
  unfold zeu
  split
  ·rfl
  split
  ·cases t with
   | zero => omega
   | succ t => rw [size_stMerge lt bs n t _ _ (by omega), zdw]
  ·split
   ·exact zdw _ _ _ _ _ _
   ·rfl

theorem size_stIns (lt : α → α → Bool) (n : Nat) : ∀ (t a : Nat) (d : Array α), n - a ≤ t → (zid lt n a d).size = d.size
 | t, a, d, h => by
  unfold zid
  split
  ·cases t with
   | zero => omega
   | succ t => rw [size_stIns lt n t _ _ (by omega), zem]
  ·exact zem _ _ _ _

theorem size_stLoop (lt : α → α → Bool) (n : Nat) : ∀ (t bs : Nat) (d : Array α), n - bs ≤ t → (zgg lt bs n d).size = d.size
 | t, bs, d, h => by
  unfold zgg
  split
  ·rfl
  split
  ·cases t with
   | zero => omega
   | succ t => rw [size_stLoop lt n t _ _ (by omega), size_stMerge lt bs n n 0 d (by omega)]
  ·rfl

theorem size_stable (lt : α → α → Bool) (d : Array α) : (stable lt d).size = d.size := by
 unfold stable
 rw [size_stLoop lt _ _ _ _ (Nat.le_refl _), size_stIns lt _ _ _ _ (Nat.le_refl _)]
inductive Runs (lt : α → α → Bool) (bs n : Nat) (d : Array α) : Nat → Prop
 | done (a : Nat) (h : n ≤ a) : Runs lt bs n d a
 | part (a : Nat) (h : SortedIn lt a (min (a + bs) n) d) (t : Runs lt bs n d (a + bs)) : Runs lt bs n d a

theorem Runs.congr {bs n a : Nat} {d d' : Array α} (h : Runs lt bs n d a) : (∀ k, a ≤ k → d'[k]! = d[k]!) → Runs lt bs n d' a := by
 induction h with
 | done a h => exact fun _ => .done a h
 | part a h t ih => exact fun he => .part a (zet h (fun k h1 _ => he k h1)) (ih (fun k hk => he k (by omega)))

theorem stIns_spec (hS : SWO lt) (n : Nat) : ∀ (t a : Nat) (d : Array α), n - a ≤ t → a ≤ n → n ≤ d.size → PermIn a n d (zid lt n a d) ∧ Runs lt 20 n (zid lt n a d) a
 | t, a, d, ht, han, hn => by
  unfold zid
  by_cases h : a + 20 ≤ n
  ·rw [if_pos h]
   cases t with
   | zero => omega
   | succ t =>
   have i1 := insertionSort_holds hS d a (a + 20) (by omega) (by omega)
   have i2 := stIns_spec hS n t (a + 20) (insertionSort lt d a (a + 20)) (by omega) h (by rw [i1.1.1]; exact hn)
   refine ⟨permIn_trans _ _ _ a n (permIn_mono _ _ _ _ _ _ (Nat.le_refl _) h hn i1.1) (permIn_mono _ _ _ _ _ _ (by omega) (Nat.le_refl _) (by rw [i1.1.1]; exact hn) i2.1), .part a ?_ i2.2⟩
   rw [Nat.min_eq_left h]
   exact zet i1.2 (fun k _ h2 => i2.1.2.1 k (Or.inl h2))
  ·rw [if_neg h]
   have i1 := insertionSort_holds hS d a n han hn
   refine ⟨i1.1, .part a ?_ (.done _ (by omega))⟩
   rw [Nat.min_eq_right (by omega)]
   exact i1.2

theorem Runs.head {bs n a : Nat} {d : Array α} (h : Runs lt bs n d a) (ha : a < n) : SortedIn lt a (min (a + bs) n) d ∧ Runs lt bs n d (a + bs) := by
 cases h with
 | done _ h => omega
 | part _ h t => exact ⟨h, t⟩

theorem stMerge_spec (hS : SWO lt) (bs n : Nat) (hbs : 0 < bs) : ∀ (t a : Nat) (d : Array α), n - a ≤ t → n ≤ d.size → Runs lt bs n d a → PermIn a n d (zeu lt bs n a d) ∧ Runs lt (2 * bs) n (zeu lt bs n a d) a
 | t, a, d, ht, hn, hr => by
  unfold zeu
  rw [if_neg (by omega)]
  by_cases h : a + 2 * bs ≤ n
  ·rw [if_pos h]
   cases t with
   | zero => omega
   | succ t =>
   obtain ⟨r1, r2⟩ := hr.head (by omega)
   obtain ⟨r3, r4⟩ := r2.head (by omega)
   rw [Nat.min_eq_left (by omega)] at r1 r3
   rw [show a + bs + bs = a + 2 * bs by omega] at r3 r4
   have i1 := zgn hS (2 * bs) d a (a + bs) (a + 2 * bs) (by omega) (by omega) (by omega) (by omega) r1 r3
   have i2 := stMerge_spec hS bs n hbs t (a + 2 * bs) (symMerge lt (2 * bs) d a (a + bs) (a + 2 * bs)) (by omega) (by rw [i1.1.1]; exact hn) (r4.congr (fun k hk => i1.1.2.1 k (Or.inr hk)))
   refine ⟨permIn_trans _ _ _ a n (permIn_mono _ _ _ _ _ _ (Nat.le_refl _) h hn i1.1) (permIn_mono _ _ _ _ _ _ (by omega) (Nat.le_refl _) (by rw [i1.1.1]; exact hn) i2.1), .part a ?_ i2.2⟩
   rw [Nat.min_eq_left h]
   exact zet i1.2 (fun k _ h2 => i2.1.2.1 k (Or.inl h2))
  ·rw [if_neg h]
   by_cases h2 : a + bs < n
   ·rw [if_pos h2]
    obtain ⟨r1, r2⟩ := hr.head (by omega)
    obtain ⟨r3, r4⟩ := r2.head (by omega)
    rw [Nat.min_eq_left (by omega)] at r1
    rw [Nat.min_eq_right (by omega)] at r3
    have i1 := zgn hS (n - a) d a (a + bs) n (by omega) (by omega) h2 hn r1 r3
    refine ⟨i1.1, .part a ?_ (.done _ (by omega))⟩
    rw [Nat.min_eq_right (by omega)]
    exact i1.2
   ·rw [if_neg h2]
    refine ⟨permIn_refl d a n, ?_⟩
    by_cases h3 : a < n
    ·obtain ⟨r1, r2⟩ := hr.head h3
     refine .part a ?_ (.done _ (by omega))
     rw [Nat.min_eq_right (by omega)] at r1 ⊢
     exact r1
    ·exact .done a (by omega)

theorem stLoop_spec (hS : SWO lt) (n : Nat) : ∀ (t bs : Nat) (d : Array α), 0 < bs → n - bs ≤ t → n ≤ d.size → Runs lt bs n d 0 → PermIn 0 n d (zgg lt bs n d) ∧ SortedIn lt 0 n (zgg lt bs n d)
 | t, bs, d, hbs, ht, hn, hr => by
  unfold zgg
  rw [if_neg (by omega)]
  by_cases h : bs < n
  ·rw [if_pos h]
   cases t with
   | zero => omega
   | succ t =>
   have i1 := stMerge_spec hS bs n hbs n 0 d (by omega) hn hr
   have i2 := stLoop_spec hS n t (2 * bs) (zeu lt bs n 0 d) (by omega) (by omega) (by rw [i1.1.1]; exact hn) i1.2
   exact ⟨permIn_trans _ _ _ 0 n i1.1 i2.1, i2.2⟩
  ·rw [if_neg h]
   refine ⟨permIn_refl d 0 n, ?_⟩
   by_cases h0 : 0 < n
   ·have := (hr.head h0).1
    rw [Nat.min_eq_right (by omega)] at this
    exact this
   ·intro i j h1 h2 h3; omega

theorem stable_spec (hS : SWO lt) (d : Array α) : PermIn 0 d.size d (stable lt d) ∧ SortedIn lt 0 d.size (stable lt d) := by
 unfold stable
 have i1 := stIns_spec hS d.size d.size 0 d (by omega) (by omega) (Nat.le_refl _)
 have i2 := stLoop_spec hS d.size d.size 20 (zid lt d.size 0 d) (by omega) (by omega) (by rw [i1.1.1]; exact Nat.le_refl _) i1.2
 exact ⟨permIn_trans _ _ _ _ _ i1.1 i2.1, i2.2⟩

end Go.Stb

namespace Go.Stb
open Go.Sort
variable {α β : Type} [Inhabited α] [Inhabited β]

theorem get_map (φ : α → β) (hφ : φ default = default) (d : Array α) (i : Nat) : (d.map φ)[i]! = φ d[i]! := by
 by_cases h : i < d.size
 ·rw [getElem!_pos d i h, getElem!_pos (d.map φ) i (by simpa using h), Array.getElem_map]
 ·rw [getElem!_neg d i h, getElem!_neg (d.map φ) i (by simpa using h), hφ]

theorem swp_map (φ : α → β) (hφ : φ default = default) (d : Array α) (i j : Nat) : swp (d.map φ) i j = (swp d i j).map φ := by
 unfold swp
 rw [get_map φ hφ, get_map φ hφ]
 simp only [Array.map_setIfInBounds]

theorem zgm (φ : α → β) (hφ : φ default = default) : ∀ (n a b : Nat) (d : Array α), swapRange a b n (d.map φ) = (swapRange a b n d).map φ
 | 0, _, _, _ => rfl
 | n + 1, a, b, d => by unfold swapRange; rw [swp_map φ hφ, zgm φ hφ n]

theorem ziw (φ : α → β) (hφ : φ default = default) (m : Nat) : ∀ (t i j : Nat) (d : Array α), i + j ≤ t → zds m i j (d.map φ) = (zds m i j d).map φ
 | 0, i, j, d, h => by rw [zds, if_pos (by omega), zds, if_pos (by omega)]
 | t + 1, i, j, d, h => by
  conv => lhs; rw [zds]
  conv => rhs; rw [zds]
  split
  ·rfl
  split
  ·exact zgm φ hφ _ _ _ _
  split
  ·rw [zgm φ hφ, ziw φ hφ m t _ _ _ (by omega)]
  ·rw [zgm φ hφ, ziw φ hφ m t _ _ _ (by omega)]

theorem shUp_map (φ : α → β) (hφ : φ default = default) : ∀ (n k : Nat) (d : Array α), shUp k n (d.map φ) = (shUp k n d).map φ
 | 0, _, _ => rfl
 | n + 1, k, d => by unfold shUp; rw [swp_map φ hφ, shUp_map φ hφ n]

theorem shDn_map (φ : α → β) (hφ : φ default = default) : ∀ (n k : Nat) (d : Array α), shDn k n (d.map φ) = (shDn k n d).map φ
 | 0, _, _ => rfl
 | n + 1, k, d => by unfold shDn; rw [swp_map φ hφ, shDn_map φ hφ n]

theorem symMid_map (φ : α → β) (hφ : φ default = default) (lt : β → β → Bool) (a m b : Nat) (d : Array α) : zfz lt a m b (d.map φ) = zfz (fun x y => lt (φ x) (φ y)) a m b d := by
 unfold zfz
 simp only [get_map φ hφ]

theorem symRot_map (φ : α → β) (hφ : φ default = default) (a m b s : Nat) (d : Array α) : zgh a m b s (d.map φ) = (zgh a m b s d).map φ := by
 unfold zgh rotate
 split
 ·exact ziw φ hφ _ _ _ _ _ (Nat.le_refl _)
 ·rfl

theorem zie (φ : α → β) (hφ : φ default = default) (lt : β → β → Bool) : ∀ (f : Nat) (d : Array α) (a m b : Nat), symMerge lt f (d.map φ) a m b = (symMerge (fun x y => lt (φ x) (φ y)) f d a m b).map φ
 | 0, _, _, _, _ => rfl
 | f + 1, d, a, m, b => by
  unfold symMerge
  simp only [get_map φ hφ, symMid_map φ hφ]
  split
  ·exact shUp_map φ hφ _ _ _
  split
  ·exact shDn_map φ hφ _ _ _
  simp only [symRot_map φ hφ]
  have e : ∀ (c : Prop) [Decidable c] (x y : Array α), (if c then x.map φ else y.map φ) = (if c then x else y).map φ := fun c _ x y => by split <;> rfl
  simp only [zie φ hφ lt f, e]

theorem insInner_map (φ : α → β) (hφ : φ default = default) (lt : β → β → Bool) (a : Nat) : ∀ (j : Nat) (d : Array α), insInner lt a j (d.map φ) = (insInner (fun x y => lt (φ x) (φ y)) a j d).map φ
 | 0, _ => rfl
 | j + 1, d => by
  unfold insInner
  simp only [get_map φ hφ]
  split
  ·rw [swp_map φ hφ, insInner_map φ hφ lt a j]
  ·rfl

theorem insOuter_map (φ : α → β) (hφ : φ default = default) (lt : β → β → Bool) (a b : Nat) : ∀ (t i : Nat) (d : Array α), b - i ≤ t → insOuter lt a b i (d.map φ) = (insOuter (fun x y => lt (φ x) (φ y)) a b i d).map φ
 | 0, i, d, h => by rw [insOuter, if_neg (by omega), insOuter, if_neg (by omega)]
 | t + 1, i, d, h => by
  conv => lhs; rw [insOuter]
  conv => rhs; rw [insOuter]
  split
  ·rw [insInner_map φ hφ, insOuter_map φ hφ lt a b t _ _ (by omega)]
  ·rfl

theorem zhc (φ : α → β) (hφ : φ default = default) (lt : β → β → Bool) (d : Array α) (a b : Nat) : insertionSort lt (d.map φ) a b = (insertionSort (fun x y => lt (φ x) (φ y)) d a b).map φ := insOuter_map φ hφ lt a b _ _ d (Nat.le_refl _)

theorem stIns_map (φ : α → β) (hφ : φ default = default) (lt : β → β → Bool) (n : Nat) : ∀ (t a : Nat) (d : Array α), n - a ≤ t → zid lt n a (d.map φ) = (zid (fun x y => lt (φ x) (φ y)) n a d).map φ
 | t, a, d, h => by
  conv => lhs; rw [zid]
  conv => rhs; rw [zid]
  split
  ·cases t with
   | zero => omega
   | succ t => rw [zhc φ hφ, stIns_map φ hφ lt n t _ _ (by omega)]
  ·exact zhc φ hφ lt _ _ _

theorem stMerge_map (φ : α → β) (hφ : φ default = default) (lt : β → β → Bool) (bs n : Nat) : ∀ (t a : Nat) (d : Array α), n - a ≤ t → zeu lt bs n a (d.map φ) = (zeu (fun x y => lt (φ x) (φ y)) bs n a d).map φ
 | t, a, d, h => by
  conv => lhs; rw [zeu]
  conv => rhs; rw [zeu]
  split
  ·rfl
  split
  ·cases t with
   | zero => omega
   | succ t => rw [zie φ hφ, stMerge_map φ hφ lt bs n t _ _ (by omega)]
  ·split
   ·exact zie φ hφ lt _ _ _ _ _
   ·rfl

theorem stLoop_map (φ : α → β) (hφ : φ default = default) (lt : β → β → Bool) (n : Nat) : ∀ (t bs : Nat) (d : Array α), n - bs ≤ t → zgg lt bs n (d.map φ) = (zgg (fun x y => lt (φ x) (φ y)) bs n d).map φ
 | t, bs, d, h => by
  conv => lhs; rw [zgg]
  conv => rhs; rw [zgg]
  split
  ·rfl
  split
  ·cases t with
   | zero => omega
   | succ t => rw [stMerge_map φ hφ lt bs n n 0 d (by omega), stLoop_map φ hφ lt n t _ _ (by omega)]
  ·rfl

theorem stable_map (φ : α → β) (hφ : φ default = default) (lt : β → β → Bool) (d : Array α) : stable lt (d.map φ) = (stable (fun x y => lt (φ x) (φ y)) d).map φ := by
 unfold stable
 rw [Array.size_map, stIns_map φ hφ lt _ _ _ _ (Nat.le_refl _), stLoop_map φ hφ lt _ _ _ _ (Nat.le_refl _)]
end Go.Stb
