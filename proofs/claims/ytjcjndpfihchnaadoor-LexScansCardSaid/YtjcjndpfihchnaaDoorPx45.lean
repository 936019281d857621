-- Written by our own program (wip/xprint) over the seat's translation. Lean checks it.
import Derived.Test.YtjcjndpfihchnaaDoorPx0
import Derived.Test.YtjcjndpfihchnaaDoorPx39
import Derived.Test.YtjcjndpfihchnaaDoorPx43
namespace Go.Proofs.YtjcjndpfihchnaaDoor.P
open Go.RowKit Go.Proofs.YtjcjndpfihchnaaDoorW.PrintWords Go.Proofs.YtjcjndpfihchnaaDoorW.PrintLast Go.Proofs.YtjcjndpfihchnaaDoorW.PrintMore
attribute [local go_sem] max2_int min2_int max_two min_two max_three min_three max_four min_four   -- for this text's walks alone
set_option linter.unusedVariables false
set_option linter.unusedSimpArgs false


/-! ### corollaryref11_one: function 17 -/
mutual
def corollaryref11_one.j0 : Nat → ByteArray → Int → Bool → Option (Int × Int × ByteArray × Int × Int)
  | 0, _, _, _ => none
  | k + 1, x0, x1, x36 => if x36 = true then (corollaryref11_one.l0 k x0 (wrap64 (x1 + 2)) 4 0 (⟨#[]⟩ : ByteArray)) else (if 0 ≤ x1 then (if x1 < (x0.size : Int) then (if (bt x0 x1) = 39 then (corollaryref11_one.l1 k x0 (wrap64 (x1 + 1)) 3 0 (⟨#[]⟩ : ByteArray)) else ((corollaryref11_class.f k x0 x1).bind fun t159 => (if t159 = 1 then (corollaryref11_one.l2 k x0 x1 1 0 (⟨#[]⟩ : ByteArray)) else ((corollaryref11_class.f k x0 x1).bind fun t162 => (if t162 = 2 then (corollaryref11_one.l3 k x0 x1 false 2 0 (⟨#[]⟩ : ByteArray)) else (if (wrap64 (x1 + 1)) < (x0.size : Int) then (if 0 ≤ (wrap64 (x1 + 1)) then (corollaryref11_one.j8 k x0 x1 (bt x0 x1) (bt x0 (wrap64 (x1 + 1)))) else (none)) else (corollaryref11_one.j8 k x0 x1 (bt x0 x1) 0))))))) else (none)) else (none))
def corollaryref11_one.l0 : Nat → ByteArray → Int → Int → Int → ByteArray → Option (Int × Int × ByteArray × Int × Int)
  | 0, _, _, _, _, _ => none
  | k + 1, x0, x1, x150000, x150001, x150002 => if x1 < (x0.size : Int) then (if 0 ≤ x1 then (corollaryref11_one.j2 k x0 x1 ((bt x0 x1) != 39) x150000 x150001 x150002) else (none)) else (corollaryref11_one.j2 k x0 x1 false x150000 x150001 x150002)
def corollaryref11_one.j2 : Nat → ByteArray → Int → Bool → Int → Int → ByteArray → Option (Int × Int × ByteArray × Int × Int)
  | 0, _, _, _, _, _, _ => none
  | k + 1, x0, x1, x49, x150000, x150001, x150002 => if x49 = true then (if (wrap64 (x1 + 1)) ≥ (x0.size : Int) then (corollaryref11_one.j3 k x0 x1 true x150000 x150001 x150002) else (if 0 ≤ x1 then (if x1 < (x0.size : Int) then ((corollaryref11_hex.f k (bt x0 x1)).bind fun t150 => (if t150 < 0 then (corollaryref11_one.j3 k x0 x1 true x150000 x150001 x150002) else (if 0 ≤ (wrap64 (x1 + 1)) then (if (wrap64 (x1 + 1)) < (x0.size : Int) then ((corollaryref11_hex.f k (bt x0 (wrap64 (x1 + 1)))).bind fun t151 => (corollaryref11_one.j3 k x0 x1 (decide (t151 < 0)) x150000 x150001 x150002)) else (none)) else (none)))) else (none)) else (none))) else (if x1 ≥ (x0.size : Int) then (some (0, 0, (⟨#[]⟩ : ByteArray), 0, 3)) else (if (x150002.size : Int) > 64 then (some (0, 0, (⟨#[]⟩ : ByteArray), 0, 3)) else (some (x150000, x150001, x150002, wrap64 (x1 + 1), 0))))
def corollaryref11_one.j3 : Nat → ByteArray → Int → Bool → Int → Int → ByteArray → Option (Int × Int × ByteArray × Int × Int)
  | 0, _, _, _, _, _, _ => none
  | k + 1, x0, x1, x71, x150000, x150001, x150002 => if x71 = true then (some (0, 0, (⟨#[]⟩ : ByteArray), 0, 3)) else (if 0 ≤ x1 then (if x1 < (x0.size : Int) then ((corollaryref11_hex.f k (bt x0 x1)).bind fun t152 => (if 0 ≤ (wrap64 (x1 + 1)) then (if (wrap64 (x1 + 1)) < (x0.size : Int) then ((corollaryref11_hex.f k (bt x0 (wrap64 (x1 + 1)))).bind fun t153 => ((some (([(wrap64 ((wrap64 (16 * t152)) + t153)) % 256] : List Int) : List Int)).bind fun y154 => (if x150002.size + (strOfNums y154).size ≤ 9223372036854775807 then (corollaryref11_one.l0 k x0 (wrap64 (x1 + 2)) x150000 x150001 (x150002 ++ (strOfNums y154))) else (none)))) else (none)) else (none))) else (none)) else (none))
def corollaryref11_one.l1 : Nat → ByteArray → Int → Int → Int → ByteArray → Option (Int × Int × ByteArray × Int × Int)
  | 0, _, _, _, _, _ => none
  | k + 1, x0, x1, x158000, x158001, x158002 => if x1 < (x0.size : Int) then (if 0 ≤ x1 then (if (bt x0 x1) = 39 then (if (wrap64 (x1 + 1)) ≥ (x0.size : Int) then (corollaryref11_one.j5 k x0 x1 true x158000 x158001 x158002) else (if 0 ≤ (wrap64 (x1 + 1)) then (if (wrap64 (x1 + 1)) < (x0.size : Int) then (corollaryref11_one.j5 k x0 x1 ((bt x0 (wrap64 (x1 + 1))) != 39) x158000 x158001 x158002) else (none)) else (none))) else (if x1 ≤ (wrap64 (x1 + 1)) then (if (wrap64 (x1 + 1)) ≤ (x0.size : Int) then (if x158002.size + (x0.extract (x1 : Int).toNat ((wrap64 (x1 + 1)) : Int).toNat).size ≤ 9223372036854775807 then (corollaryref11_one.l1 k x0 (wrap64 (x1 + 1)) x158000 x158001 (x158002 ++ (x0.extract (x1 : Int).toNat ((wrap64 (x1 + 1)) : Int).toNat))) else (none)) else (none)) else (none))) else (none)) else (some (0, 0, (⟨#[]⟩ : ByteArray), 0, 3))
def corollaryref11_one.j5 : Nat → ByteArray → Int → Bool → Int → Int → ByteArray → Option (Int × Int × ByteArray × Int × Int)
  | 0, _, _, _, _, _, _ => none
  | k + 1, x0, x1, x133, x158000, x158001, x158002 => if x133 = true then ((corollaryref01_Right.f k 3 0 x158002).bind fun t158 => (if t158 = true then (some (x158000, x158001, x158002, wrap64 (x1 + 1), 0)) else (some (0, 0, (⟨#[]⟩ : ByteArray), 0, 3)))) else (if 0 ≤ (wrap64 (x1 + 1)) then (if (wrap64 (x1 + 1)) ≤ (wrap64 ((wrap64 (x1 + 1)) + 1)) then (if (wrap64 ((wrap64 (x1 + 1)) + 1)) ≤ (x0.size : Int) then (if x158002.size + (x0.extract ((wrap64 (x1 + 1)) : Int).toNat ((wrap64 ((wrap64 (x1 + 1)) + 1)) : Int).toNat).size ≤ 9223372036854775807 then (corollaryref11_one.l1 k x0 (wrap64 ((wrap64 (x1 + 1)) + 1)) x158000 x158001 (x158002 ++ (x0.extract ((wrap64 (x1 + 1)) : Int).toNat ((wrap64 ((wrap64 (x1 + 1)) + 1)) : Int).toNat))) else (none)) else (none)) else (none)) else (none))
def corollaryref11_one.l2 : Nat → ByteArray → Int → Int → Int → ByteArray → Option (Int × Int × ByteArray × Int × Int)
  | 0, _, _, _, _, _ => none
  | k + 1, x0, x1, x161000, x161001, x161002 => (corollaryref11_class.f k x0 x1).bind fun t161 => (if t161 > 0 then (if 0 ≤ x1 then (if x1 ≤ (wrap64 (x1 + 1)) then (if (wrap64 (x1 + 1)) ≤ (x0.size : Int) then (if x161002.size + (x0.extract (x1 : Int).toNat ((wrap64 (x1 + 1)) : Int).toNat).size ≤ 9223372036854775807 then (corollaryref11_one.l2 k x0 (wrap64 (x1 + 1)) x161000 x161001 (x161002 ++ (x0.extract (x1 : Int).toNat ((wrap64 (x1 + 1)) : Int).toNat))) else (none)) else (none)) else (none)) else (none)) else (some (x161000, x161001, x161002, x1, 0)))
def corollaryref11_one.l3 : Nat → ByteArray → Int → Bool → Int → Int → ByteArray → Option (Int × Int × ByteArray × Int × Int)
  | 0, _, _, _, _, _, _ => none
  | k + 1, x0, x1, x11, x164000, x164001, x164002 => (corollaryref11_class.f k x0 x1).bind fun t164 => (if t164 = 2 then (if 0 ≤ x1 then (if x1 < (x0.size : Int) then ((corollaryref01_Times.f k x164001 10).bind fun bt165 => ((corollaryref01_Sum.f bt165.1 (((bt x0 x1) - 48) % 256)).bind fun bt167 => (if x11 = true then (corollaryref11_one.l3 k x0 (wrap64 (x1 + 1)) true x164000 bt167.1 x164002) else (if bt165.2 = true then (corollaryref11_one.l3 k x0 (wrap64 (x1 + 1)) (!bt167.2) x164000 bt167.1 x164002) else (corollaryref11_one.l3 k x0 (wrap64 (x1 + 1)) true x164000 bt167.1 x164002))))) else (none)) else (none)) else (if x11 = true then (some (0, 0, (⟨#[]⟩ : ByteArray), 0, 14)) else (some (x164000, x164001, x164002, x1, 0))))
def corollaryref11_one.j8 : Nat → ByteArray → Int → Int → Int → Option (Int × Int × ByteArray × Int × Int)
  | 0, _, _, _, _ => none
  | k + 1, x0, x1, x17, x18 => if x17 = 60 then (if x18 = 62 then (corollaryref11_one.j9 k x0 x1 x17 true) else (if x18 = 61 then (corollaryref11_one.j9 k x0 x1 x17 true) else (if x17 = 62 then (corollaryref11_one.j9 k x0 x1 x17 (x18 == 61)) else (corollaryref11_one.j9 k x0 x1 x17 false)))) else (if x17 = 62 then (corollaryref11_one.j9 k x0 x1 x17 (x18 == 61)) else (corollaryref11_one.j9 k x0 x1 x17 false))
def corollaryref11_one.j9 : Nat → ByteArray → Int → Int → Bool → Option (Int × Int × ByteArray × Int × Int)
  | 0, _, _, _, _ => none
  | k + 1, x0, x1, x17, x249 => if x249 = true then (if 0 ≤ x1 then (if x1 ≤ (wrap64 (x1 + 2)) then (if (wrap64 (x1 + 2)) ≤ (x0.size : Int) then (some (5, 0, x0.extract (x1 : Int).toNat ((wrap64 (x1 + 2)) : Int).toNat, wrap64 (x1 + 2), 0)) else (none)) else (none)) else (none)) else (if x17 = 40 then (if 0 ≤ x1 then (if x1 ≤ (wrap64 (x1 + 1)) then (if (wrap64 (x1 + 1)) ≤ (x0.size : Int) then (some (5, 0, x0.extract (x1 : Int).toNat ((wrap64 (x1 + 1)) : Int).toNat, wrap64 (x1 + 1), 0)) else (none)) else (none)) else (none)) else (if x17 = 41 then (if 0 ≤ x1 then (if x1 ≤ (wrap64 (x1 + 1)) then (if (wrap64 (x1 + 1)) ≤ (x0.size : Int) then (some (5, 0, x0.extract (x1 : Int).toNat ((wrap64 (x1 + 1)) : Int).toNat, wrap64 (x1 + 1), 0)) else (none)) else (none)) else (none)) else (if x17 = 44 then (if 0 ≤ x1 then (if x1 ≤ (wrap64 (x1 + 1)) then (if (wrap64 (x1 + 1)) ≤ (x0.size : Int) then (some (5, 0, x0.extract (x1 : Int).toNat ((wrap64 (x1 + 1)) : Int).toNat, wrap64 (x1 + 1), 0)) else (none)) else (none)) else (none)) else (if x17 = 46 then (if 0 ≤ x1 then (if x1 ≤ (wrap64 (x1 + 1)) then (if (wrap64 (x1 + 1)) ≤ (x0.size : Int) then (some (5, 0, x0.extract (x1 : Int).toNat ((wrap64 (x1 + 1)) : Int).toNat, wrap64 (x1 + 1), 0)) else (none)) else (none)) else (none)) else (if x17 = 42 then (if 0 ≤ x1 then (if x1 ≤ (wrap64 (x1 + 1)) then (if (wrap64 (x1 + 1)) ≤ (x0.size : Int) then (some (5, 0, x0.extract (x1 : Int).toNat ((wrap64 (x1 + 1)) : Int).toNat, wrap64 (x1 + 1), 0)) else (none)) else (none)) else (none)) else (if x17 = 43 then (if 0 ≤ x1 then (if x1 ≤ (wrap64 (x1 + 1)) then (if (wrap64 (x1 + 1)) ≤ (x0.size : Int) then (some (5, 0, x0.extract (x1 : Int).toNat ((wrap64 (x1 + 1)) : Int).toNat, wrap64 (x1 + 1), 0)) else (none)) else (none)) else (none)) else (if x17 = 45 then (if 0 ≤ x1 then (if x1 ≤ (wrap64 (x1 + 1)) then (if (wrap64 (x1 + 1)) ≤ (x0.size : Int) then (some (5, 0, x0.extract (x1 : Int).toNat ((wrap64 (x1 + 1)) : Int).toNat, wrap64 (x1 + 1), 0)) else (none)) else (none)) else (none)) else (if x17 = 61 then (if 0 ≤ x1 then (if x1 ≤ (wrap64 (x1 + 1)) then (if (wrap64 (x1 + 1)) ≤ (x0.size : Int) then (some (5, 0, x0.extract (x1 : Int).toNat ((wrap64 (x1 + 1)) : Int).toNat, wrap64 (x1 + 1), 0)) else (none)) else (none)) else (none)) else (if x17 = 60 then (if 0 ≤ x1 then (if x1 ≤ (wrap64 (x1 + 1)) then (if (wrap64 (x1 + 1)) ≤ (x0.size : Int) then (some (5, 0, x0.extract (x1 : Int).toNat ((wrap64 (x1 + 1)) : Int).toNat, wrap64 (x1 + 1), 0)) else (none)) else (none)) else (none)) else (if x17 = 62 then (if 0 ≤ x1 then (if x1 ≤ (wrap64 (x1 + 1)) then (if (wrap64 (x1 + 1)) ≤ (x0.size : Int) then (some (5, 0, x0.extract (x1 : Int).toNat ((wrap64 (x1 + 1)) : Int).toNat, wrap64 (x1 + 1), 0)) else (none)) else (none)) else (none)) else (some (0, 0, (⟨#[]⟩ : ByteArray), 0, 3))))))))))))
end
def corollaryref11_one.f (k : Nat) (a0 : ByteArray) (a1 : Int) : Option (Int × Int × ByteArray × Int × Int) := if 0 ≤ a1 then (if a1 < (a0.size : Int) then (if (bt a0 a1) = 120 then (if (wrap64 (a1 + 1)) < (a0.size : Int) then (if 0 ≤ (wrap64 (a1 + 1)) then (corollaryref11_one.j0 k a0 a1 ((bt a0 (wrap64 (a1 + 1))) == 39)) else (none)) else (corollaryref11_one.j0 k a0 a1 false)) else (corollaryref11_one.j0 k a0 a1 false)) else (none)) else (none)
theorem corollaryref11_one.mono_l : ∀ k, (∀ y0 y1 y2, LeO (corollaryref11_one.j0 k y0 y1 y2) (corollaryref11_one.j0 (k + 1) y0 y1 y2)) ∧ (∀ y0 y1 y2 y3 y4, LeO (corollaryref11_one.l0 k y0 y1 y2 y3 y4) (corollaryref11_one.l0 (k + 1) y0 y1 y2 y3 y4)) ∧ (∀ y0 y1 y2 y3 y4 y5, LeO (corollaryref11_one.j2 k y0 y1 y2 y3 y4 y5) (corollaryref11_one.j2 (k + 1) y0 y1 y2 y3 y4 y5)) ∧ (∀ y0 y1 y2 y3 y4 y5, LeO (corollaryref11_one.j3 k y0 y1 y2 y3 y4 y5) (corollaryref11_one.j3 (k + 1) y0 y1 y2 y3 y4 y5)) ∧ (∀ y0 y1 y2 y3 y4, LeO (corollaryref11_one.l1 k y0 y1 y2 y3 y4) (corollaryref11_one.l1 (k + 1) y0 y1 y2 y3 y4)) ∧ (∀ y0 y1 y2 y3 y4 y5, LeO (corollaryref11_one.j5 k y0 y1 y2 y3 y4 y5) (corollaryref11_one.j5 (k + 1) y0 y1 y2 y3 y4 y5)) ∧ (∀ y0 y1 y2 y3 y4, LeO (corollaryref11_one.l2 k y0 y1 y2 y3 y4) (corollaryref11_one.l2 (k + 1) y0 y1 y2 y3 y4)) ∧ (∀ y0 y1 y2 y3 y4 y5, LeO (corollaryref11_one.l3 k y0 y1 y2 y3 y4 y5) (corollaryref11_one.l3 (k + 1) y0 y1 y2 y3 y4 y5)) ∧ (∀ y0 y1 y2 y3, LeO (corollaryref11_one.j8 k y0 y1 y2 y3) (corollaryref11_one.j8 (k + 1) y0 y1 y2 y3)) ∧ (∀ y0 y1 y2 y3, LeO (corollaryref11_one.j9 k y0 y1 y2 y3) (corollaryref11_one.j9 (k + 1) y0 y1 y2 y3))
  | 0 => ⟨fun _ _ _ r h => by simp [corollaryref11_one.j0] at h, fun _ _ _ _ _ r h => by simp [corollaryref11_one.l0] at h, fun _ _ _ _ _ _ r h => by simp [corollaryref11_one.j2] at h, fun _ _ _ _ _ _ r h => by simp [corollaryref11_one.j3] at h, fun _ _ _ _ _ r h => by simp [corollaryref11_one.l1] at h, fun _ _ _ _ _ _ r h => by simp [corollaryref11_one.j5] at h, fun _ _ _ _ _ r h => by simp [corollaryref11_one.l2] at h, fun _ _ _ _ _ _ r h => by simp [corollaryref11_one.l3] at h, fun _ _ _ _ r h => by simp [corollaryref11_one.j8] at h, fun _ _ _ _ r h => by simp [corollaryref11_one.j9] at h⟩
  | k + 1 => by
    obtain ⟨ih0, ih1, ih2, ih3, ih4, ih5, ih6, ih7, ih8, ih9⟩ := corollaryref11_one.mono_l k
    refine ⟨?_, ?_, ?_, ?_, ?_, ?_, ?_, ?_, ?_, ?_⟩
    all_goals intros
    all_goals first
      | unfold corollaryref11_one.j0
      | unfold corollaryref11_one.l0
      | unfold corollaryref11_one.j2
      | unfold corollaryref11_one.j3
      | unfold corollaryref11_one.l1
      | unfold corollaryref11_one.j5
      | unfold corollaryref11_one.l2
      | unfold corollaryref11_one.l3
      | unfold corollaryref11_one.j8
      | unfold corollaryref11_one.j9
    all_goals repeat' first
      | (with_reducible exact ih0 _ _ _)
      | (with_reducible exact ih1 _ _ _ _ _)
      | (with_reducible exact ih2 _ _ _ _ _ _)
      | (with_reducible exact ih3 _ _ _ _ _ _)
      | (with_reducible exact ih4 _ _ _ _ _)
      | (with_reducible exact ih5 _ _ _ _ _ _)
      | (with_reducible exact ih6 _ _ _ _ _)
      | (with_reducible exact ih7 _ _ _ _ _ _)
      | (with_reducible exact ih8 _ _ _ _)
      | (with_reducible exact ih9 _ _ _ _)
      | (with_reducible exact corollaryref01_Right.mono _ _ _ _)
      | (with_reducible exact corollaryref01_Times.mono _ _ _)
      | (with_reducible exact corollaryref11_class.mono _ _ _)
      | (with_reducible exact corollaryref11_hex.mono _ _)
      | (with_reducible exact LeO.refl _)
      | (with_reducible exact LeO.none _)
      | (with_reducible refine LeO.ite ?_ ?_)
      | (with_reducible refine LeO.bind ?_ (fun _ => ?_))
      | exact ih0 _ _ _
      | exact ih1 _ _ _ _ _
      | exact ih2 _ _ _ _ _ _
      | exact ih3 _ _ _ _ _ _
      | exact ih4 _ _ _ _ _
      | exact ih5 _ _ _ _ _ _
      | exact ih6 _ _ _ _ _
      | exact ih7 _ _ _ _ _ _
      | exact ih8 _ _ _ _
      | exact ih9 _ _ _ _
      | exact corollaryref01_Right.mono _ _ _ _
      | exact corollaryref01_Times.mono _ _ _
      | exact corollaryref11_class.mono _ _ _
      | exact corollaryref11_hex.mono _ _
      | exact LeO.none _
      | refine LeO.ite ?_ ?_
      | refine LeO.bind ?_ (fun _ => ?_)
theorem corollaryref11_one.mono : ∀ a0 a1 k, LeO (corollaryref11_one.f k a0 a1) (corollaryref11_one.f (k + 1) a0 a1) := by
  intro a0 a1 k
  obtain ⟨ih0, ih1, ih2, ih3, ih4, ih5, ih6, ih7, ih8, ih9⟩ := corollaryref11_one.mono_l k
  unfold corollaryref11_one.f
  repeat' first
      | (with_reducible exact ih0 _ _ _)
      | (with_reducible exact ih1 _ _ _ _ _)
      | (with_reducible exact ih2 _ _ _ _ _ _)
      | (with_reducible exact ih3 _ _ _ _ _ _)
      | (with_reducible exact ih4 _ _ _ _ _)
      | (with_reducible exact ih5 _ _ _ _ _ _)
      | (with_reducible exact ih6 _ _ _ _ _)
      | (with_reducible exact ih7 _ _ _ _ _ _)
      | (with_reducible exact ih8 _ _ _ _)
      | (with_reducible exact ih9 _ _ _ _)
      | (with_reducible exact corollaryref01_Right.mono _ _ _ _)
      | (with_reducible exact corollaryref01_Times.mono _ _ _)
      | (with_reducible exact corollaryref11_class.mono _ _ _)
      | (with_reducible exact corollaryref11_hex.mono _ _)
      | (with_reducible exact LeO.refl _)
      | (with_reducible exact LeO.none _)
      | (with_reducible refine LeO.ite ?_ ?_)
      | (with_reducible refine LeO.bind ?_ (fun _ => ?_))
      | exact ih0 _ _ _
      | exact ih1 _ _ _ _ _
      | exact ih2 _ _ _ _ _ _
      | exact ih3 _ _ _ _ _ _
      | exact ih4 _ _ _ _ _
      | exact ih5 _ _ _ _ _ _
      | exact ih6 _ _ _ _ _
      | exact ih7 _ _ _ _ _ _
      | exact ih8 _ _ _ _
      | exact ih9 _ _ _ _
      | exact corollaryref01_Right.mono _ _ _ _
      | exact corollaryref01_Times.mono _ _ _
      | exact corollaryref11_class.mono _ _ _
      | exact corollaryref11_hex.mono _ _
      | exact LeO.none _
      | refine LeO.ite ?_ ?_
      | refine LeO.bind ?_ (fun _ => ?_)
def corollaryref11_one.T8 : Bool × List (List Nat × List Nat) := (true, [([], []), ([0], [0]), ([], []), ([], []), ([2, 3], [2, 3]), ([4], [4]), ([5], [5]), ([], []), ([], []), ([8], [8]), ([7, 9], [7, 9]), ([10, 5], [10]), ([6, 11], [6, 11]), ([12], [12]), ([13], [13]), ([14], [14]), ([1, 15], [1, 15]), ([0, 1, 2, 3, 4, 5, 6, 7, 8, 9, 10, 11, 12, 13, 14, 15, 16], []), ([17, 16, 11, 0, 1, 2, 3, 4, 5, 6, 7, 8, 9, 10, 11, 12, 13, 14, 15, 16], [16, 17])])
def corollaryref11_one.B8 : List Nat := [0, 1, 0, 0, 12, 28, 60, 0, 0, 256, 896, 1980, 4092, 8188, 16380, 32764, 65535, 131071, 262143]
theorem corollaryref11_one.tab8 : rtab .any (opsOf Tryd.f17 8) = corollaryref11_one.T8 := by kernel_rfl
theorem corollaryref11_one.bits8 : waitsOk corollaryref11_one.T8.2 corollaryref11_one.B8 = true := by kernel_rfl
def corollaryref11_one.T23 : Bool × List (List Nat × List Nat) := (true, [([], []), ([0], [0]), ([], []), ([], []), ([], []), ([4], [4]), ([2, 3, 5], [2, 3, 5]), ([1, 6], [1, 6]), ([0, 1, 2, 3, 4, 5, 6, 7], []), ([8, 7, 0, 1, 2, 3, 4, 5, 6, 7], [7, 8])])
def corollaryref11_one.B23 : List Nat := [0, 1, 0, 0, 0, 16, 60, 127, 255, 511]
theorem corollaryref11_one.tab23 : rtab .any (opsOf Tryd.f17 23) = corollaryref11_one.T23 := by kernel_rfl
theorem corollaryref11_one.bits23 : waitsOk corollaryref11_one.T23.2 corollaryref11_one.B23 = true := by kernel_rfl
def corollaryref11_one.T28 : Bool × List (List Nat × List Nat) := (true, [([], []), ([0], [0]), ([], []), ([], []), ([], []), ([4], [4]), ([2, 3, 5], [2, 3, 5]), ([1, 6], [1, 6]), ([0, 1, 2, 3, 4, 5, 6, 7], []), ([8, 7, 0, 1, 2, 3, 4, 5, 6, 7], [7, 8])])
def corollaryref11_one.B28 : List Nat := [0, 1, 0, 0, 0, 16, 60, 127, 255, 511]
theorem corollaryref11_one.tab28 : rtab .any (opsOf Tryd.f17 28) = corollaryref11_one.T28 := by kernel_rfl
theorem corollaryref11_one.bits28 : waitsOk corollaryref11_one.T28.2 corollaryref11_one.B28 = true := by kernel_rfl
set_option maxHeartbeats 8000000 in
set_option maxRecDepth 100000 in
theorem corollaryref11_one.calls (k : Nat) (a0 : ByteArray) (a1 : Int) (r1 : Int) (r2 : Int) (r3 : ByteArray) (r4 : Int) (r5 : Int) (w : World) (h : corollaryref11_one.f k a0 a1 = some (r1, r2, r3, r4, r5)) :
    Calls Tryd.prog 17 #[.string a0, .int .i64 a1] w fun e w' => e = .returned (.tuple #[.agg #[.int .i64 r1, .int .i64 r2, .string r3], .int .i64 r4, .int .i64 r5]) ∧ Below w.heap.size w w' := by
  have hu46 := Tryd.underlying46
  have hu36 := Tryd.underlying36
  have HB := Aside0.mk (Below.refl w.heap.size w)
  have H : (if 0 ≤ a1 then (if a1 < (a0.size : Int) then (if (bt a0 a1) = 120 then (if (wrap64 (a1 + 1)) < (a0.size : Int) then (if 0 ≤ (wrap64 (a1 + 1)) then (corollaryref11_one.j0 k a0 a1 ((bt a0 (wrap64 (a1 + 1))) == 39)) else (none)) else (corollaryref11_one.j0 k a0 a1 false)) else (corollaryref11_one.j0 k a0 a1 false)) else (none)) else (none)) = some (r1, r2, r3, r4, r5) := h
  clear h
  have HC3 := Aside0.mk H
  clear H
  go_enter Tryd.func17, Tryd.ntmps17
  go_upto_region 1 with (first | ((with_reducible refine gate_dst (N := 4) rfl ?_); (try (refine gate_guard (by rfl) ?_; dsimp only)); refine box_event ?hg (N := 4) ?hd (cs := #[.int .i64 0, .int .i64 0, .string (⟨#[]⟩ : ByteArray)]) (t := 46) ?hr ?_; (case hd => rfl); (case hg => rfl); (case hr => first | (go_simp; done) | (go_simp; rfl)); intro gb148 hg w4 hbox hb; have n0_ := Aside0.mk (below_step q0_ hb); have n1_ := Aside0.mk (hbox); have n2_ := Aside0.mk ((q1_ : w.heap.size ≤ gb148)); have n3_ := Aside0.mk ((q1_ : w.heap.size ≤ gb148)); clear HB; have HB := n0_; have BK148 := n1_; have GW148 := n2_; have GE148 := n3_; clear n0_ n1_ n2_ n3_; clear hb hbox hg))
  (try simp only [Act.put, List.setIfInBounds_toArray, List.set_cons_zero, List.set_cons_succ])
  go_cut [36] (fun v36 wc => ∃ (kq : Nat) (x36_2 : Bool), v36 = .bool x36_2 ∧ Aside0 (corollaryref11_one.j0 kq a0 a1 x36_2 = some (r1, r2, r3, r4, r5)) ∧ Aside0 (kq ≤ k) ∧ Aside0 (wc.heap[gb148]? = some (.cells #[.int .i64 0, .int .i64 0, .string (⟨#[]⟩ : ByteArray)] 46 (0, 0))) ∧ Aside0 (Below w.heap.size w wc))
  case first => as_aux_lemma =>
    have H := HC3.out
    clear HC3
    by_cases c5 : 0 ≤ a1
    · rw [if_pos c5] at H
      have c5b0 : decide (0 ≤ a1) = true := decide_eq_true c5
      clear c5
      (first | rw [c5b0] | (simp only [i64_w, i32_w]; rw [c5b0]) | skip)
      by_cases c6 : a1 < (a0.size : Int)
      · rw [if_pos c6] at H
        have c6b0 : decide (a1 < (a0.size : Int)) = true := decide_eq_true c6
        clear c6
        by_cases c8 : (bt a0 a1) = 120
        · rw [if_pos c8] at H
          have c8b0 : ((bt a0 a1) == 120) = true := beq_iff_eq.mpr c8
          have c8b1 : ((bt a0 a1) != 120) = false := bne_eq_false_iff_eq.mpr c8
          clear c8
          by_cases c9 : (wrap64 (a1 + 1)) < (a0.size : Int)
          · rw [if_pos c9] at H
            have c9b0 : decide ((wrap64 (a1 + 1)) < (a0.size : Int)) = true := decide_eq_true c9
            clear c9
            obtain ⟨ji10, hji10⟩ : ∃ j_ : Int, (wrap64 (a1 + 1)) = j_ := ⟨_, rfl⟩
            replace H : (if 0 ≤ (ji10) then (corollaryref11_one.j0 k a0 a1 ((bt a0 (ji10)) == 39)) else (none)) = some (r1, r2, r3, r4, r5) := by first | (rw [hji10] at H; exact H) | (simp only [hji10] at H ⊢; exact H)
            (try rw [hji10] at c9b0)
            have hji10w : (IntKind.i64.wrap (a1 + 1)) = ji10 := (i64_w _).trans hji10
            by_cases c11 : 0 ≤ (ji10)
            · rw [if_pos c11] at H
              have c11b0 : decide (0 ≤ (ji10)) = true := decide_eq_true c11
              clear c11
              have H' := Aside0.mk H
              clear H
              have p7 : 0 ≤ (a1 : Int) := of_decide_eq_true q7_
              have q7 : a1 < (a0.size : Int) := of_decide_eq_true q7_
              have hx7 := bt_at a0 a1
              replace p7 := eq_true p7
              replace q7 := eq_true q7
              have p12 : 0 ≤ ((ji10) : Int) := of_decide_eq_true q7_
              have q12 : (ji10) < (a0.size : Int) := of_decide_eq_true q7_
              have hx12 := bt_at a0 (ji10)
              replace p12 := eq_true p12
              replace q12 := eq_true q12
              go_wp2
              go_meet
              case rel => exact ⟨_, (((bt a0 (ji10)) == 39)), (by first | rfl | (simp; done) | (simp only [← hji10] <;> (first | rfl | simp)) | (simp [*]; done)), H', ⟨by first | omega | exact Nat.le_refl _⟩, ⟨q9_⟩, ⟨q0_⟩⟩
            · rw [if_neg c11] at H
              exact absurd H (by simp)
          · rw [if_neg c9] at H
            have c9b0 : decide ((wrap64 (a1 + 1)) < (a0.size : Int)) = false := decide_eq_false c9
            clear c9
            have H' := Aside0.mk H
            clear H
            have p7 : 0 ≤ (a1 : Int) := of_decide_eq_true q7_
            have q7 : a1 < (a0.size : Int) := of_decide_eq_true q7_
            have hx7 := bt_at a0 a1
            replace p7 := eq_true p7
            replace q7 := eq_true q7
            go_wp2
            go_meet
            case rel => exact ⟨_, (false), q3_, H', ⟨by first | omega | exact Nat.le_refl _⟩, ⟨q9_⟩, ⟨q0_⟩⟩
        · rw [if_neg c8] at H
          have c8b0 : ((bt a0 a1) == 120) = false := beq_eq_false_iff_ne.mpr c8
          have c8b1 : ((bt a0 a1) != 120) = true := bne_iff_ne.mpr c8
          have H' := Aside0.mk H
          clear H
          have p7 : 0 ≤ (a1 : Int) := of_decide_eq_true q7_
          have q7 : a1 < (a0.size : Int) := of_decide_eq_true q7_
          have hx7 := bt_at a0 a1
          replace p7 := eq_true p7
          replace q7 := eq_true q7
          go_wp2
          go_meet
          case rel => exact ⟨_, (false), q3_, H', ⟨by first | omega | exact Nat.le_refl _⟩, ⟨q9_⟩, ⟨q0_⟩⟩
      · rw [if_neg c6] at H
        exact absurd H (by simp)
    · rw [if_neg c5] at H
      exact absurd H (by simp)
  case rest => as_aux_lemma =>
    clear HC3
    try clear c1
    try clear p1
    try clear q1
    try clear hx1
    try clear p2
    try clear c5
    try clear c5b0
    try clear c6
    try clear c6b0
    try clear p6
    try clear p7
    try clear q7
    try clear hx7
    try clear c8
    try clear c8b0
    try clear c8b1
    try clear c9
    try clear c9b0
    try clear c11
    try clear c11b0
    try clear p12
    try clear q12
    try clear hx12
    try clear p12
    try clear p7
    try clear q12
    try clear q7
    obtain ⟨kq, x36_2, rfl, HA, HJ2, BK148, HB⟩ := hcut
    cases kq with
    | zero => exact absurd HA.out (by simp [corollaryref11_one.j0])
    | succ kj2 =>
      have H := HA.out
      clear HA
      simp only [corollaryref11_one.j0] at H
      by_cases c13 : x36_2 = true
      · subst c13
        replace H := ifT_ H
        have H' := Aside0.mk H
        clear H
        go_wp2_with (first | ((with_reducible refine gate_dst (N := 7) rfl ?_); (try (refine gate_guard (by rfl) ?_; dsimp only)); refine box_event ?hg (N := 7) ?hd (cs := #[.int .i64 0, .int .i64 0, .string (⟨#[]⟩ : ByteArray)]) (t := 46) ?hr ?_; (case hd => rfl); (case hg => rfl); (case hr => first | (go_simp; done) | (go_simp; rfl)); intro gb149 hg w14 hbox hb; have n0_ := Aside0.mk (blk_below (g := gb148) (o := .cells #[.int .i64 0, .int .i64 0, .string (⟨#[]⟩ : ByteArray)] 46 (0, 0)) q9_ hb); have n1_ := Aside0.mk (below_step q0_ hb); have n2_ := Aside0.mk (hbox); have n3_ := Aside0.mk ((q1_ : w.heap.size ≤ gb149)); have n4_ := Aside0.mk ((q1_ : w.heap.size ≤ gb149)); have n5_ := Aside0.mk ((q28_ : gb148 ≠ gb149)); have n6_ := Aside0.mk ((q29_ : gb149 ≠ gb148)); clear BK148; clear HB; have BK148 := n0_; have HB := n1_; have BK149 := n2_; have GW149 := n3_; have GE149 := n4_; have NB148_149 := n5_; have NB149_148 := n6_; clear n0_ n1_ n2_ n3_ n4_ n5_ n6_; clear hb hbox hg; have hnb15 := NB149_148.out; have hnc15 := NB148_149.out; have hcz16_0 : w14.cell? ⟨gb149, 0, none⟩ = some (.int .i64 0) := (blk_cell BK149.out 0).trans rfl; have hcz16_1 : w14.cell? ⟨gb149, 1, none⟩ = some (.int .i64 0) := (blk_cell BK149.out 1).trans rfl; have hcz16_2 : w14.cell? ⟨gb149, 2, none⟩ = some (.string (⟨#[]⟩ : ByteArray)) := (blk_cell BK149.out 2).trans rfl; have hfz16_0 := blk_frozen BK149.out 0; have hfz16_1 := blk_frozen BK149.out 1; have hfz16_2 := blk_frozen BK149.out 2))
        go_loopg [1] kj2 (fun kq v1 w' => ∃ (x1_2 : Int) (x149000_2 : Int) (x149001_2 : Int) (x149002_2 : ByteArray) (x150002_2 : ByteArray), v1 = .int .i64 x1_2 ∧ Aside0 (corollaryref11_one.l0 kq a0 x1_2 4 0 x150002_2 = some (r1, r2, r3, r4, r5)) ∧ Aside0 (kq ≤ kj2) ∧ Aside0 (w'.heap[gb148]? = some (.cells #[.int .i64 x149000_2, .int .i64 x149001_2, .string x149002_2] 46 (0, 0))) ∧ Aside0 (w'.heap[gb149]? = some (.cells #[.int .i64 4, .int .i64 0, .string x150002_2] 46 (0, 0))) ∧ Aside0 (Below w.heap.size w w'))
        case atStart => exact ⟨(wrap64 (a1 + 2)), (0), (0), ((⟨#[]⟩ : ByteArray)), ((⟨#[]⟩ : ByteArray)), q3_, H', ⟨Nat.le_refl _⟩, ⟨by (with_reducible repeat first | apply bN_ | apply bD_ | apply bA_); refine blk_far ?_ NB148_149.out _; (with_reducible repeat first | apply bN_ | apply bD_ | apply bA_); refine blk_far ?_ NB148_149.out _; (with_reducible repeat first | apply bN_ | apply bD_ | apply bA_); refine blk_far ?_ NB148_149.out _; (with_reducible repeat first | apply bN_ | apply bD_ | apply bA_); exact BK148.out⟩, ⟨by (with_reducible repeat first | apply bN_ | apply bD_ | apply bA_); refine blk_put (cs := #[.int .i64 4, .int .i64 0, .string (⟨#[]⟩ : ByteArray)]) ?_ 2 _ rfl; (with_reducible repeat first | apply bN_ | apply bD_ | apply bA_); refine blk_put (cs := #[.int .i64 4, .int .i64 0, .string (⟨#[]⟩ : ByteArray)]) ?_ 1 _ rfl; (with_reducible repeat first | apply bN_ | apply bD_ | apply bA_); refine blk_put (cs := #[.int .i64 0, .int .i64 0, .string (⟨#[]⟩ : ByteArray)]) ?_ 0 _ rfl; (with_reducible repeat first | apply bN_ | apply bD_ | apply bA_); exact BK149.out⟩, ⟨q0_⟩⟩
        case round => as_aux_lemma =>
          clear H'
          try clear c1
          try clear p1
          try clear q1
          try clear hx1
          try clear p2
          try clear c5
          try clear c5b0
          try clear c6
          try clear c6b0
          try clear p6
          try clear p7
          try clear q7
          try clear hx7
          try clear c8
          try clear c8b0
          try clear c8b1
          try clear c9
          try clear c9b0
          try clear c11
          try clear c11b0
          try clear p12
          try clear q12
          try clear hx12
          try clear c13
          try clear c15
          try clear hcz16_0
          try clear hcz16_1
          try clear hcz16_2
          try clear hfz16_0
          try clear hfz16_1
          try clear hfz16_2
          try clear p1
          try clear p12
          try clear p2
          try clear p6
          try clear p7
          try clear q1
          try clear q12
          try clear q7
          obtain ⟨x1_2, x149000_2, x149001_2, x149002_2, x150002_2, rfl, HA, HK2, BK148, BK149, HB⟩ := hrel
          cases gk with
          | zero => exact absurd HA.out (by simp [corollaryref11_one.l0])
          | succ k2 =>
            have H := HA.out
            clear HA
            simp only [corollaryref11_one.l0] at H
            have HC17 := Aside0.mk H
            clear H
            go_upto_region 4 with (fail)
            go_cut [49] (fun v49 wc => ∃ (kq : Nat) (x49_16 : Bool), v49 = .bool x49_16 ∧ Aside0 (corollaryref11_one.j2 kq a0 x1_2 x49_16 4 0 x150002_2 = some (r1, r2, r3, r4, r5)) ∧ Aside0 (kq ≤ k2) ∧ Aside0 (wc.heap[gb148]? = some (.cells #[.int .i64 x149000_2, .int .i64 x149001_2, .string x149002_2] 46 (0, 0))) ∧ Aside0 (wc.heap[gb149]? = some (.cells #[.int .i64 4, .int .i64 0, .string x150002_2] 46 (0, 0))) ∧ Aside0 (Below w.heap.size w wc))
            case first => as_aux_lemma =>
              have H := HC17.out
              clear HC17
              by_cases c18 : x1_2 < (a0.size : Int)
              · rw [if_pos c18] at H
                have c18b0 : decide (x1_2 < (a0.size : Int)) = true := decide_eq_true c18
                clear c18
                (first | rw [c18b0] | (simp only [i64_w, i32_w]; rw [c18b0]) | skip)
                by_cases c19 : 0 ≤ x1_2
                · rw [if_pos c19] at H
                  have c19b0 : decide (0 ≤ x1_2) = true := decide_eq_true c19
                  clear c19
                  have H' := Aside0.mk H
                  clear H
                  have p20 : 0 ≤ (x1_2 : Int) := of_decide_eq_true q7_
                  have q20 : x1_2 < (a0.size : Int) := of_decide_eq_true q7_
                  have hx20 := bt_at a0 x1_2
                  replace p20 := eq_true p20
                  replace q20 := eq_true q20
                  go_wp2
                  go_meet
                  case rel => exact ⟨_, (((bt a0 x1_2) != 39)), q3_, H', ⟨by have := HJ2.out; have := HK2.out; first | omega | exact Nat.le_refl _⟩, ⟨q9_⟩, ⟨q46_⟩, ⟨q0_⟩⟩
                · rw [if_neg c19] at H
                  exact absurd H (by simp)
              · rw [if_neg c18] at H
                have c18b0 : decide (x1_2 < (a0.size : Int)) = false := decide_eq_false c18
                clear c18
                (first | rw [c18b0] | (simp only [i64_w, i32_w]; rw [c18b0]) | skip)
                have H' := Aside0.mk H
                clear H
                go_wp2
                go_meet
                case rel => exact ⟨_, (false), q3_, H', ⟨by have := HJ2.out; have := HK2.out; first | omega | exact Nat.le_refl _⟩, ⟨q9_⟩, ⟨q46_⟩, ⟨q0_⟩⟩
            case rest => as_aux_lemma =>
              clear HC17
              try clear c1
              try clear p1
              try clear q1
              try clear hx1
              try clear p2
              try clear q2
              try clear hx2
              try clear c5
              try clear c5b0
              try clear c6
              try clear c6b0
              try clear p6
              try clear p7
              try clear q7
              try clear hx7
              try clear c8
              try clear c8b0
              try clear c8b1
              try clear c9
              try clear c9b0
              try clear c11
              try clear c11b0
              try clear p12
              try clear q12
              try clear hx12
              try clear c13
              try clear c15
              try clear c17
              try clear c18
              try clear c18b0
              try clear c19
              try clear c19b0
              try clear p20
              try clear q20
              try clear hx20
              try clear hcz16_0
              try clear hcz16_1
              try clear hcz16_2
              try clear hfz16_0
              try clear hfz16_1
              try clear hfz16_2
              try clear p1
              try clear p12
              try clear p2
              try clear p20
              try clear p6
              try clear p7
              try clear q1
              try clear q12
              try clear q20
              try clear q7
              obtain ⟨kq, x49_16, rfl, HA, HJ16, BK148, BK149, HB⟩ := hcut
              cases kq with
              | zero => exact absurd HA.out (by simp [corollaryref11_one.j2])
              | succ kj16 =>
                have H := HA.out
                clear HA
                simp only [corollaryref11_one.j2] at H
                by_cases c21 : x49_16 = true
                · subst c21
                  replace H := ifT_ H
                  have HC22 := Aside0.mk H
                  clear H
                  go_upto_region 6 with (fail)
                  go_cut [71] (fun v71 wc => ∃ (kq : Nat) (x71_21 : Bool), v71 = .bool x71_21 ∧ Aside0 (corollaryref11_one.j3 kq a0 x1_2 x71_21 4 0 x150002_2 = some (r1, r2, r3, r4, r5)) ∧ Aside0 (kq ≤ kj16) ∧ Aside0 (wc.heap[gb148]? = some (.cells #[.int .i64 x149000_2, .int .i64 x149001_2, .string x149002_2] 46 (0, 0))) ∧ Aside0 (wc.heap[gb149]? = some (.cells #[.int .i64 4, .int .i64 0, .string x150002_2] 46 (0, 0))) ∧ Aside0 (Below w.heap.size w wc))
                  case first => as_aux_lemma =>
                    have H := HC22.out
                    clear HC22
                    by_cases c23 : (wrap64 (x1_2 + 1)) ≥ (a0.size : Int)
                    · rw [if_pos c23] at H
                      have c23b0 : decide ((a0.size : Int) ≤ (wrap64 (x1_2 + 1))) = true := decide_eq_true c23
                      clear c23
                      (first | rw [c23b0] | (simp only [i64_w, i32_w]; rw [c23b0]) | skip)
                      have H' := Aside0.mk H
                      clear H
                      go_wp2
                      go_meet
                      case rel => exact ⟨_, (true), q3_, H', ⟨by have := HJ2.out; have := HK2.out; have := HJ16.out; first | omega | exact Nat.le_refl _⟩, ⟨q9_⟩, ⟨q46_⟩, ⟨q0_⟩⟩
                    · rw [if_neg c23] at H
                      have c23b0 : decide ((a0.size : Int) ≤ (wrap64 (x1_2 + 1))) = false := decide_eq_false c23
                      clear c23
                      (first | rw [c23b0] | (simp only [i64_w, i32_w]; rw [c23b0]) | skip)
                      by_cases c24 : 0 ≤ x1_2
                      · rw [if_pos c24] at H
                        have c24b0 : decide (0 ≤ x1_2) = true := decide_eq_true c24
                        clear c24
                        by_cases c25 : x1_2 < (a0.size : Int)
                        · rw [if_pos c25] at H
                          have c25b0 : decide (x1_2 < (a0.size : Int)) = true := decide_eq_true c25
                          clear c25
                          replace H := Option.bind_eq_some_iff.mp H
                          obtain ⟨t150, A270, H⟩ := H
                          replace H : (if t150 < 0 then (corollaryref11_one.j3 kj16 a0 x1_2 true 4 0 x150002_2) else (if 0 ≤ (wrap64 (x1_2 + 1)) then (if (wrap64 (x1_2 + 1)) < (a0.size : Int) then ((corollaryref11_hex.f kj16 (bt a0 (wrap64 (x1_2 + 1)))).bind fun t151 => (corollaryref11_one.j3 kj16 a0 x1_2 (decide (t151 < 0)) 4 0 x150002_2)) else (none)) else (none))) = some (r1, r2, r3, r4, r5) := H
                          have A27 := Aside0.mk A270
                          clear A270
                          by_cases c28 : t150 < 0
                          · rw [if_pos c28] at H
                            have c28b0 : decide (t150 < 0) = true := decide_eq_true c28
                            clear c28
                            have H' := Aside0.mk H
                            clear H
                            have p26 : 0 ≤ (x1_2 : Int) := of_decide_eq_true q7_
                            have q26 : x1_2 < (a0.size : Int) := of_decide_eq_true q7_
                            have hx26 := bt_at a0 x1_2
                            replace p26 := eq_true p26
                            replace q26 := eq_true q26
                            go_wp2_with (first | (go_at_call 35; (with_reducible refine (corollaryref11_hex.calls kj16 (bt a0 x1_2) t150 _ A27.out).mono ?_); rintro e w' ⟨rfl, ⟨nd, rfl⟩⟩))
                            go_meet
                            case rel => exact ⟨_, (true), q3_, H', ⟨by have := HJ2.out; have := HK2.out; have := HJ16.out; first | omega | exact Nat.le_refl _⟩, ⟨q9_⟩, ⟨q46_⟩, ⟨q0_⟩⟩
                          · rw [if_neg c28] at H
                            have c28b0 : decide (t150 < 0) = false := decide_eq_false c28
                            clear c28
                            obtain ⟨ji29, hji29⟩ : ∃ j_ : Int, (wrap64 (x1_2 + 1)) = j_ := ⟨_, rfl⟩
                            replace H : (if 0 ≤ (ji29) then (if (ji29) < (a0.size : Int) then ((corollaryref11_hex.f kj16 (bt a0 (ji29))).bind fun t151 => (corollaryref11_one.j3 kj16 a0 x1_2 (decide (t151 < 0)) 4 0 x150002_2)) else (none)) else (none)) = some (r1, r2, r3, r4, r5) := by first | (rw [hji29] at H; exact H) | (simp only [hji29] at H ⊢; exact H)
                            (try rw [hji29] at c23b0)
                            (try rw [hji29] at A27)
                            have hji29w : (IntKind.i64.wrap (x1_2 + 1)) = ji29 := (i64_w _).trans hji29
                            by_cases c30 : 0 ≤ (ji29)
                            · rw [if_pos c30] at H
                              have c30b0 : decide (0 ≤ (ji29)) = true := decide_eq_true c30
                              clear c30
                              by_cases c31 : (ji29) < (a0.size : Int)
                              · rw [if_pos c31] at H
                                have c31b0 : decide ((ji29) < (a0.size : Int)) = true := decide_eq_true c31
                                clear c31
                                replace H := Option.bind_eq_some_iff.mp H
                                obtain ⟨t151, A330, H⟩ := H
                                replace H : (corollaryref11_one.j3 kj16 a0 x1_2 (decide (t151 < 0)) 4 0 x150002_2) = some (r1, r2, r3, r4, r5) := H
                                have A33 := Aside0.mk A330
                                clear A330
                                have H' := Aside0.mk H
                                clear H
                                have p26 : 0 ≤ (x1_2 : Int) := of_decide_eq_true q7_
                                have q26 : x1_2 < (a0.size : Int) := of_decide_eq_true q7_
                                have hx26 := bt_at a0 x1_2
                                replace p26 := eq_true p26
                                replace q26 := eq_true q26
                                go_wp2_with (first | (go_at_call 35; (with_reducible refine (corollaryref11_hex.calls kj16 (bt a0 x1_2) t150 _ A27.out).mono ?_); rintro e w' ⟨rfl, ⟨nd, rfl⟩⟩; have p32 : 0 ≤ ((ji29) : Int) := of_decide_eq_true q7_; have q32 : (ji29) < (a0.size : Int) := of_decide_eq_true q7_; have hx32 := bt_at a0 (ji29); replace p32 := eq_true p32; replace q32 := eq_true q32) | (go_at_call 35; (with_reducible refine (corollaryref11_hex.calls kj16 (bt a0 (ji29)) t151 _ A33.out).mono ?_); rintro e w' ⟨rfl, ⟨nd, rfl⟩⟩))
                                go_meet
                                case rel => exact ⟨_, (decide (t151 < 0)), q3_, H', ⟨by have := HJ2.out; have := HK2.out; have := HJ16.out; first | omega | exact Nat.le_refl _⟩, ⟨q9_⟩, ⟨q46_⟩, ⟨q0_⟩⟩
                              · rw [if_neg c31] at H
                                exact absurd H (by simp)
                            · rw [if_neg c30] at H
                              exact absurd H (by simp)
                        · rw [if_neg c25] at H
                          exact absurd H (by simp)
                      · rw [if_neg c24] at H
                        exact absurd H (by simp)
                  case rest => as_aux_lemma =>
                    clear HC22
                    try clear c1
                    try clear p1
                    try clear q1
                    try clear hx1
                    try clear c2
                    try clear p2
                    try clear q2
                    try clear hx2
                    try clear c3
                    try clear p3
                    try clear q3
                    try clear hx3
                    try clear c5
                    try clear c5b0
                    try clear c6
                    try clear c6b0
                    try clear p6
                    try clear p7
                    try clear q7
                    try clear hx7
                    try clear c8
                    try clear c8b0
                    try clear c8b1
                    try clear c9
                    try clear c9b0
                    try clear c11
                    try clear c11b0
                    try clear p12
                    try clear q12
                    try clear hx12
                    try clear c13
                    try clear c15
                    try clear c17
                    try clear c18
                    try clear c18b0
                    try clear c19
                    try clear c19b0
                    try clear p20
                    try clear q20
                    try clear hx20
                    try clear c21
                    try clear c23
                    try clear c23b0
                    try clear c24
                    try clear c24b0
                    try clear c25
                    try clear c25b0
                    try clear p26
                    try clear q26
                    try clear hx26
                    try clear c28
                    try clear c28b0
                    try clear c30
                    try clear c30b0
                    try clear c31
                    try clear c31b0
                    try clear p32
                    try clear q32
                    try clear hx32
                    try clear hcz16_0
                    try clear hcz16_1
                    try clear hcz16_2
                    try clear hfz16_0
                    try clear hfz16_1
                    try clear hfz16_2
                    try clear p1
                    try clear p12
                    try clear p2
                    try clear p20
                    try clear p26
                    try clear p32
                    try clear p6
                    try clear p7
                    try clear q1
                    try clear q12
                    try clear q2
                    try clear q20
                    try clear q26
                    try clear q32
                    try clear q7
                    obtain ⟨kq, x71_21, rfl, HA, HJ21, BK148, BK149, HB⟩ := hcut
                    cases kq with
                    | zero => exact absurd HA.out (by simp [corollaryref11_one.j3])
                    | succ kj21 =>
                      have H := HA.out
                      clear HA
                      simp only [corollaryref11_one.j3] at H
                      by_cases c34 : x71_21 = true
                      · subst c34
                        replace H := ifT_ H
                        simp only [Option.some.injEq, Prod.mk.injEq] at H
                        obtain ⟨rfl, rfl, rfl, rfl, rfl⟩ := H
                        have hnb35 := NB148_149.out
                        have hnc35 := NB149_148.out
                        have hcz36_0 : wc.cell? ⟨gb148, 0, none⟩ = some (.int .i64 x149000_2) := (blk_cell BK148.out 0).trans rfl
                        have hcz36_1 : wc.cell? ⟨gb148, 1, none⟩ = some (.int .i64 x149001_2) := (blk_cell BK148.out 1).trans rfl
                        have hcz36_2 : wc.cell? ⟨gb148, 2, none⟩ = some (.string x149002_2) := (blk_cell BK148.out 2).trans rfl
                        have hfz36_0 := blk_frozen BK148.out 0
                        have hfz36_1 := blk_frozen BK148.out 1
                        have hfz36_2 := blk_frozen BK148.out 2
                        go_wp2
                        refine bodyPost_ret (results_ctt rfl _ _ gb148 46 #[.int .i64 0, .int .i64 0, .string (⟨#[]⟩ : ByteArray)] (0, 0) _ rfl q12_ Tryd.underlying46 rfl (by kernel_rfl)) rfl ?_
                        exact ⟨q4_, q0_⟩
                      · replace c34 := Bool.eq_false_iff.mpr c34
                        subst c34
                        replace H := ifF_ H
                        by_cases c37 : 0 ≤ x1_2
                        · rw [if_pos c37] at H
                          have c37b0 : decide (0 ≤ x1_2) = true := decide_eq_true c37
                          clear c37
                          by_cases c38 : x1_2 < (a0.size : Int)
                          · rw [if_pos c38] at H
                            have c38b0 : decide (x1_2 < (a0.size : Int)) = true := decide_eq_true c38
                            clear c38
                            replace H := Option.bind_eq_some_iff.mp H
                            obtain ⟨t152, A400, H⟩ := H
                            replace H : (if 0 ≤ (wrap64 (x1_2 + 1)) then (if (wrap64 (x1_2 + 1)) < (a0.size : Int) then ((corollaryref11_hex.f kj21 (bt a0 (wrap64 (x1_2 + 1)))).bind fun t153 => ((some (([(wrap64 ((wrap64 (16 * t152)) + t153)) % 256] : List Int) : List Int)).bind fun y154 => (if x150002_2.size + (strOfNums y154).size ≤ 9223372036854775807 then (corollaryref11_one.l0 kj21 a0 (wrap64 (x1_2 + 2)) 4 0 (x150002_2 ++ (strOfNums y154))) else (none)))) else (none)) else (none)) = some (r1, r2, r3, r4, r5) := H
                            have A40 := Aside0.mk A400
                            clear A400
                            obtain ⟨ji41, hji41⟩ : ∃ j_ : Int, (wrap64 (x1_2 + 1)) = j_ := ⟨_, rfl⟩
                            replace H : (if 0 ≤ (ji41) then (if (ji41) < (a0.size : Int) then ((corollaryref11_hex.f kj21 (bt a0 (ji41))).bind fun t153 => ((some (([(wrap64 ((wrap64 (16 * t152)) + t153)) % 256] : List Int) : List Int)).bind fun y154 => (if x150002_2.size + (strOfNums y154).size ≤ 9223372036854775807 then (corollaryref11_one.l0 kj21 a0 (wrap64 (x1_2 + 2)) 4 0 (x150002_2 ++ (strOfNums y154))) else (none)))) else (none)) else (none)) = some (r1, r2, r3, r4, r5) := by first | (rw [hji41] at H; exact H) | (simp only [hji41] at H ⊢; exact H)
                            (try rw [hji41] at A40)
                            have hji41w : (IntKind.i64.wrap (x1_2 + 1)) = ji41 := (i64_w _).trans hji41
                            by_cases c42 : 0 ≤ (ji41)
                            · rw [if_pos c42] at H
                              have c42b0 : decide (0 ≤ (ji41)) = true := decide_eq_true c42
                              clear c42
                              by_cases c43 : (ji41) < (a0.size : Int)
                              · rw [if_pos c43] at H
                                have c43b0 : decide ((ji41) < (a0.size : Int)) = true := decide_eq_true c43
                                clear c43
                                replace H := Option.bind_eq_some_iff.mp H
                                obtain ⟨t153, A450, H⟩ := H
                                replace H : ((some (([(wrap64 ((wrap64 (16 * t152)) + t153)) % 256] : List Int) : List Int)).bind fun y154 => (if x150002_2.size + (strOfNums y154).size ≤ 9223372036854775807 then (corollaryref11_one.l0 kj21 a0 (wrap64 (x1_2 + 2)) 4 0 (x150002_2 ++ (strOfNums y154))) else (none))) = some (r1, r2, r3, r4, r5) := H
                                have A45 := Aside0.mk A450
                                clear A450
                                obtain ⟨y154, hy154⟩ : ∃ y_ : List Int, y_ = (([(wrap64 ((wrap64 (16 * t152)) + t153)) % 256] : List Int)) := ⟨_, rfl⟩
                                replace H : (if x150002_2.size + (strOfNums y154).size ≤ 9223372036854775807 then (corollaryref11_one.l0 kj21 a0 (wrap64 (x1_2 + 2)) 4 0 (x150002_2 ++ (strOfNums y154))) else (none)) = some (r1, r2, r3, r4, r5) := by first | (rw [hy154]; with_reducible exact H) | (have H2_ := (Option.bind_some _ _).symm.trans H; rw [hy154]; with_reducible exact H2_) | (have H2_ := (Option.bind_some _ _).symm.trans H; with_reducible exact H2_) | with_reducible exact H | (rw [hy154]; exact H) | exact H
                                have Ny154 := Aside0.mk hy154
                                clear hy154
                                by_cases c46 : x150002_2.size + (strOfNums y154).size ≤ 9223372036854775807
                                · rw [if_pos c46] at H
                                  have c46b0 := eq_true c46
                                  have c46b1 : decide (x150002_2.size + (strOfNums y154).size ≤ 9223372036854775807) = true := decide_eq_true c46
                                  try have c46b2 : (9223372036854775807 < x150002_2.size + (strOfNums y154).size) = False := eq_false (Nat.not_lt.2 c46)
                                  have H' := Aside0.mk H
                                  clear H
                                  try go_wp2
                                  have n0_ := Aside0.mk (blk_drew BK148.out)
                                  have n1_ := Aside0.mk (blk_drew BK149.out)
                                  have n2_ := Aside0.mk (below_drew1 HB.out)
                                  clear BK148
                                  clear BK149
                                  clear HB
                                  have BK148 := n0_
                                  have BK149 := n1_
                                  have HB := n2_
                                  clear n0_ n1_ n2_
                                  have p39 : 0 ≤ (x1_2 : Int) := of_decide_eq_true q7_
                                  have q39 : x1_2 < (a0.size : Int) := of_decide_eq_true q7_
                                  have hx39 := bt_at a0 x1_2
                                  replace p39 := eq_true p39
                                  replace q39 := eq_true q39
                                  have p44 : 0 ≤ ((ji41) : Int) := of_decide_eq_true q7_
                                  have q44 : (ji41) < (a0.size : Int) := of_decide_eq_true q7_
                                  have hx44 := bt_at a0 (ji41)
                                  replace p44 := eq_true p44
                                  replace q44 := eq_true q44
                                  refine start_ (n := 19) (S := fun w' => w'.cell? ⟨gb149, 0, none⟩ = some (.int .i64 4) ∧ w'.cell? ⟨gb149, 1, none⟩ = some (.int .i64 0) ∧ w'.cell? ⟨gb149, 2, none⟩ = some (.string x150002_2)) (ds := [18]) #[false, false, false, false, false, false, false, false, false, false, false, false, false, false, false, false, false, false, false] (by kernel_rfl) rfl rfl ⟨(blk_cell BK149.out 0).trans rfl, (blk_cell BK149.out 1).trans rfl, (blk_cell BK149.out 2).trans rfl⟩ (fun hHeld => ?_); refine with_tabW corollaryref11_one.tab8 corollaryref11_one.bits8 (fun HT_ HW_ => ?_)
                                  generalize wc.drew = w47 at BK148 BK149 HB hHeld ⊢
                                  refine pure_ (i := 0) (N := some 73) (v := ?_) (a' := ?_) #[true, false, false, false, false, false, false, false, false, false, false, false, false, false, false, false, false, false, false] rfl rfl (any_of HT_.out (by kernel_rfl)) (fun _ _ _ h => h) (Or.inl ⟨by rfl, ?_⟩) ?_ ?_
                                  rotate_left
                                  · intro w'
                                    go_simp
                                    with_reducible rfl
                                  rotate_left
                                  · simp only [Act.put, List.setIfInBounds_toArray, List.set_cons_zero, List.set_cons_succ, i64_w, i32_w]
                                    rfl
                                  refine pure_ (i := 2) (N := some 75) (v := ?_) (a' := ?_) #[true, false, true, false, false, false, false, false, false, false, false, false, false, false, false, false, false, false, false] rfl rfl (any_of HT_.out (by kernel_rfl)) (fun _ _ _ h => h) (Or.inl ⟨by rfl, ?_⟩) ?_ ?_
                                  rotate_left
                                  · intro w'
                                    go_simp
                                    with_reducible rfl
                                  rotate_left
                                  · simp only [Act.put, List.setIfInBounds_toArray, List.set_cons_zero, List.set_cons_succ, i64_w, i32_w]
                                    rfl
                                  refine pure_ (i := 3) (N := some 76) (v := ?_) (a' := ?_) #[true, false, true, true, false, false, false, false, false, false, false, false, false, false, false, false, false, false, false] rfl rfl (any_of HT_.out (by kernel_rfl)) (fun _ _ _ h => h) (Or.inl ⟨by rfl, ?_⟩) ?_ ?_
                                  rotate_left
                                  · intro w'
                                    go_simp
                                    with_reducible rfl
                                  rotate_left
                                  · simp only [Act.put, List.setIfInBounds_toArray, List.set_cons_zero, List.set_cons_succ, i64_w, i32_w]
                                    rfl
                                  refine pure_ (i := 7) (N := some 80) (v := ?_) (a' := ?_) #[true, false, true, true, false, false, false, true, false, false, false, false, false, false, false, false, false, false, false] rfl rfl (any_of HT_.out (by kernel_rfl)) (fun _ _ _ h => h) (Or.inl ⟨by rfl, ?_⟩) ?_ ?_
                                  rotate_left
                                  · intro w'
                                    go_simp
                                    with_reducible rfl
                                  rotate_left
                                  · simp only [Act.put, List.setIfInBounds_toArray, List.set_cons_zero, List.set_cons_succ, i64_w, i32_w]
                                    rfl
                                  refine pure_ (i := 8) (N := some 81) (v := ?_) (a' := ?_) #[true, false, true, true, false, false, false, true, true, false, false, false, false, false, false, false, false, false, false] rfl rfl (any_of HT_.out (by kernel_rfl)) (fun _ _ _ h => h) (Or.inl ⟨by rfl, ?_⟩) ?_ ?_
                                  rotate_left
                                  · intro w'
                                    go_simp
                                    with_reducible rfl
                                  rotate_left
                                  · simp only [Act.put, List.setIfInBounds_toArray, List.set_cons_zero, List.set_cons_succ, i64_w, i32_w]
                                    rfl
                                  refine pure_ (i := 9) (N := some 82) (v := ?_) (a' := ?_) #[true, false, true, true, false, false, false, true, true, true, false, false, false, false, false, false, false, false, false] rfl rfl (any_of HT_.out (by kernel_rfl)) (fun _ _ _ h => h) (Or.inl ⟨by rfl, ?_⟩) ?_ ?_
                                  rotate_left
                                  · intro w'
                                    go_simp
                                    with_reducible rfl
                                  rotate_left
                                  · simp only [Act.put, List.setIfInBounds_toArray, List.set_cons_zero, List.set_cons_succ, i64_w, i32_w]
                                    rfl
                                  refine take_ (i := 1) (N := some 74) (v := ?_) (a' := ?_) #[true, true, true, true, false, false, false, true, true, true, false, false, false, false, false, false, false, false, false] rfl rfl (take_ofW HT_.out HW_.out (by kernel_rfl)) (fun _ _ _ h => h) (Or.inl ⟨by rfl, ?_⟩) hHeld ?_ ?_
                                  rotate_left
                                  · rintro w' ⟨s0, s1, s2⟩
                                    go_simp
                                    with_reducible rfl
                                  rotate_left
                                  · simp only [Act.put, List.setIfInBounds_toArray, List.set_cons_zero, List.set_cons_succ, i64_w, i32_w]
                                    rfl
                                  refine take_ (i := 4) (N := some 77) (v := ?_) (a' := ?_) #[true, true, true, true, true, false, false, true, true, true, false, false, false, false, false, false, false, false, false] rfl rfl (take_ofW HT_.out HW_.out (by kernel_rfl)) (fun _ _ _ h => h) (Or.inl ⟨by rfl, ?_⟩) hHeld ?_ ?_
                                  rotate_left
                                  · rintro w' ⟨s0, s1, s2⟩
                                    go_simp
                                    with_reducible rfl
                                  rotate_left
                                  · simp only [Act.put, List.setIfInBounds_toArray, List.set_cons_zero, List.set_cons_succ, i64_w, i32_w]
                                    rfl
                                  refine take_ (i := 10) (N := some 83) (v := ?_) (a' := ?_) #[true, true, true, true, true, false, false, true, true, true, true, false, false, false, false, false, false, false, false] rfl rfl (take_ofW HT_.out HW_.out (by kernel_rfl)) (fun _ _ _ h => h) (Or.inl ⟨by rfl, ?_⟩) hHeld ?_ ?_
                                  rotate_left
                                  · rintro w' ⟨s0, s1, s2⟩
                                    go_simp
                                    with_reducible rfl
                                  rotate_left
                                  · simp only [Act.put, List.setIfInBounds_toArray, List.set_cons_zero, List.set_cons_succ, i64_w, i32_w]
                                    rfl
                                  refine one_ (i := 5) (N := some 78) #[true, true, true, true, true, true, false, true, true, true, true, false, false, false, false, false, false, false, false] rfl rfl (one_of HT_.out (by kernel_rfl)) (by decide) (fun K hK => ?_)
                                  refine goes_ Tryd.func35 (by kernel_rfl) rfl #[.int .u8 (bt a0 x1_2)] (by rfl) rfl rfl q2_ ?_
                                  with_reducible refine (corollaryref11_hex.calls kj21 (bt a0 x1_2) t152 _ A40.out).mono ?_
                                  rintro e w' ⟨rfl, ⟨nd, rfl⟩⟩
                                  refine ⟨_, rfl, ?_⟩
                                  refine hK.out _ _ ⟨(blk_cell BK149.out 0).trans rfl, (blk_cell BK149.out 1).trans rfl, (blk_cell BK149.out 2).trans rfl⟩ (fun hHeld => ?_)
                                  clear hK K
                                  refine norm_ (a' := ?_) ?_ ?_
                                  rotate_left
                                  · show Act.put _ (some 78) _ = _
                                    simp only [Act.put, List.setIfInBounds_toArray, List.set_cons_zero, List.set_cons_succ, i64_w, i32_w]
                                    rfl
                                  refine pure_ (i := 6) (N := some 79) (v := ?_) (a' := ?_) #[true, true, true, true, true, true, true, true, true, true, true, false, false, false, false, false, false, false, false] rfl rfl (any_of HT_.out (by kernel_rfl)) (fun _ _ _ h => h) (Or.inl ⟨by rfl, ?_⟩) ?_ ?_
                                  rotate_left
                                  · intro w'
                                    go_simp
                                    with_reducible rfl
                                  rotate_left
                                  · simp only [Act.put, List.setIfInBounds_toArray, List.set_cons_zero, List.set_cons_succ, i64_w, i32_w]
                                    rfl
                                  refine one_ (i := 11) (N := some 84) #[true, true, true, true, true, true, true, true, true, true, true, true, false, false, false, false, false, false, false] rfl rfl (one_of HT_.out (by kernel_rfl)) (by decide) (fun K hK => ?_)
                                  refine goes_ Tryd.func35 (by kernel_rfl) rfl #[.int .u8 (bt a0 (ji41))] (by rfl) rfl rfl (by (try simp only [List.map_toArray, List.map_cons, List.map_nil]); first | done | (simp only [hji41]; rfl) | rfl | (simp only [List.length_drop, List.length_take]; rfl)) ?_
                                  with_reducible refine (corollaryref11_hex.calls kj21 (bt a0 (ji41)) t153 _ A45.out).mono ?_
                                  rintro e w' ⟨rfl, ⟨nd, rfl⟩⟩
                                  refine ⟨_, rfl, ?_⟩
                                  refine hK.out _ _ ⟨(blk_cell BK149.out 0).trans rfl, (blk_cell BK149.out 1).trans rfl, (blk_cell BK149.out 2).trans rfl⟩ (fun hHeld => ?_)
                                  clear hK K
                                  refine norm_ (a' := ?_) ?_ ?_
                                  rotate_left
                                  · show Act.put _ (some 84) _ = _
                                    simp only [Act.put, List.setIfInBounds_toArray, List.set_cons_zero, List.set_cons_succ, i64_w, i32_w]
                                    rfl
                                  refine pure_ (i := 12) (N := some 85) (v := ?_) (a' := ?_) #[true, true, true, true, true, true, true, true, true, true, true, true, true, false, false, false, false, false, false] rfl rfl (any_of HT_.out (by kernel_rfl)) (fun _ _ _ h => h) (Or.inl ⟨by rfl, ?_⟩) ?_ ?_
                                  rotate_left
                                  · intro w'
                                    go_simp
                                    with_reducible rfl
                                  rotate_left
                                  · simp only [Act.put, List.setIfInBounds_toArray, List.set_cons_zero, List.set_cons_succ, i64_w, i32_w]
                                    rfl
                                  refine pure_ (i := 13) (N := some 86) (v := ?_) (a' := ?_) #[true, true, true, true, true, true, true, true, true, true, true, true, true, true, false, false, false, false, false] rfl rfl (any_of HT_.out (by kernel_rfl)) (fun _ _ _ h => h) (Or.inl ⟨by rfl, ?_⟩) ?_ ?_
                                  rotate_left
                                  · intro w'
                                    go_simp
                                    with_reducible rfl
                                  rotate_left
                                  · simp only [Act.put, List.setIfInBounds_toArray, List.set_cons_zero, List.set_cons_succ, i64_w, i32_w]
                                    rfl
                                  refine one_ (i := 14) (N := some 87) #[true, true, true, true, true, true, true, true, true, true, true, true, true, true, true, false, false, false, false] rfl rfl (one_of HT_.out (by kernel_rfl)) (by decide) (fun K hK => ?_)
                                  refine Kd.R_lit_step (Kd.int .u8) _ 5 ?hg (N := 87) ?hd (xs := ([(wrap64 ((wrap64 (16 * t152)) + t153)) % 256] : List Int)) (inner := [.int .u8 ((wrap64 ((wrap64 (16 * t152)) + t153)) % 256)]) (ok := fun _ => True) (okp := fun _ => True) ?hr ?hp (fun _ hk => hk) trivial (Below.refl _ _) (Nat.le_refl _) (by simp) ?_; (case hd => rfl); (case hg => rfl); (case hr => first | (go_simp; done) | (go_simp; rfl)); (case hp => exact (Reps.one (show Kd.M (Kd.int .u8) _ _ _ ((wrap64 ((wrap64 (16 * t152)) + t153)) % 256) [.int .u8 ((wrap64 ((wrap64 (16 * t152)) + t153)) % 256)] from rfl) (Reps.none _ _)))
                                  intro v155 w48 ho49 hb hg_ hnew_
                                  clear hg_ hnew_
                                  (first | rw [← Ny154.out] at ho49 | (simp only [Int.reduceToNat] at ho49; rw [← Ny154.out] at ho49))
                                  have n0_ := Aside0.mk (Kd.R_lower ho49 (below_size q0_))
                                  have n1_ := Aside0.mk (blk_below (g := gb148) (o := .cells #[.int .i64 x149000_2, .int .i64 x149001_2, .string x149002_2] 46 (0, 0)) q9_ hb)
                                  have n2_ := Aside0.mk (blk_below (g := gb149) (o := .cells #[.int .i64 4, .int .i64 0, .string x150002_2] 46 (0, 0)) q46_ hb)
                                  have n3_ := Aside0.mk (below_step q0_ hb)
                                  clear BK148
                                  clear BK149
                                  clear HB
                                  have HO156 := n0_
                                  have BK148 := n1_
                                  have BK149 := n2_
                                  have HB := n3_
                                  clear n0_ n1_ n2_ n3_
                                  clear hb ho49
                                  refine hK.out _ _ ⟨(blk_cell BK149.out 0).trans rfl, (blk_cell BK149.out 1).trans rfl, (blk_cell BK149.out 2).trans rfl⟩ (fun hHeld => ?_)
                                  clear hK K
                                  refine norm_ (a' := ?_) ?_ ?_
                                  rotate_left
                                  · show Act.put _ (some 87) _ = _
                                    simp only [Act.put, List.setIfInBounds_toArray, List.set_cons_zero, List.set_cons_succ, i64_w, i32_w]
                                    rfl
                                  refine one_ (i := 15) (N := some 88) #[true, true, true, true, true, true, true, true, true, true, true, true, true, true, true, true, false, false, false] rfl rfl (one_of HT_.out (by kernel_rfl)) (by decide) (fun K hK => ?_)
                                  have hcv50 := own_string (P := Tryd.prog) Tryd.underlying53 Tryd.underlying5 Tryd.underlying9 (Kd.own_of_R HO156.out)
                                  refine value_ (w1 := ?_) (v := ?_) (by rfl) rfl ?_ ?_
                                  rotate_left 2
                                  · go_simp
                                    constructor
                                    · rfl
                                    · rfl
                                  clear hcv50
                                  refine hK.out _ _ ⟨(blk_cell BK149.out 0).trans rfl, (blk_cell BK149.out 1).trans rfl, (blk_cell BK149.out 2).trans rfl⟩ (fun hHeld => ?_)
                                  clear hK K
                                  refine norm_ (a' := ?_) ?_ ?_
                                  rotate_left
                                  · show Act.put _ (some 88) _ = _
                                    simp only [Act.put, List.setIfInBounds_toArray, List.set_cons_zero, List.set_cons_succ, i64_w, i32_w]
                                    rfl
                                  refine pure_ (i := 16) (N := some 89) (v := ?_) (a' := ?_) #[true, true, true, true, true, true, true, true, true, true, true, true, true, true, true, true, true, false, false] rfl rfl (any_of HT_.out (by kernel_rfl)) (fun _ _ _ h => h) (Or.inl ⟨by rfl, ?_⟩) ?_ ?_
                                  rotate_left
                                  · intro w'
                                    go_simp
                                    with_reducible rfl
                                  rotate_left
                                  · simp only [Act.put, List.setIfInBounds_toArray, List.set_cons_zero, List.set_cons_succ, i64_w, i32_w]
                                    rfl
                                  refine pure_ (i := 17) (N := some 90) (v := ?_) (a' := ?_) #[true, true, true, true, true, true, true, true, true, true, true, true, true, true, true, true, true, true, false] rfl rfl (any_of HT_.out (by kernel_rfl)) (fun _ _ _ h => h) (Or.inl ⟨by rfl, ?_⟩) ?_ ?_
                                  rotate_left
                                  · intro w'
                                    go_simp
                                    with_reducible rfl
                                  rotate_left
                                  · simp only [Act.put, List.setIfInBounds_toArray, List.set_cons_zero, List.set_cons_succ, i64_w, i32_w]
                                    rfl
                                  refine last_ (i := 18) (N := none) #[true, true, true, true, true, true, true, true, true, true, true, true, true, true, true, true, true, true, true] rfl rfl (one_of HT_.out (by kernel_rfl)) (by decide) (fun K hK => ?_)
                                  have hs51 : w48.cell? ⟨gb149, 2, none⟩ = some (.string x150002_2) := (blk_cell BK149.out 2).trans rfl
                                  have hfs51 := blk_frozen BK149.out 2
                                  have hns51_0 := NB148_149.out
                                  have hms51_0 := NB149_148.out
                                  refine skip_ (w1 := ?_) (by rfl) rfl ?_ ?_
                                  rotate_left
                                  · go_simp
                                    rfl
                                  refine hK.out _ _ ?_
                                  clear hK K
                                  refine done_ (done_of HT_.out (by kernel_rfl)) ?_
                                  try go_wp2
                                  go_roundg kj21
                                  case measure => have := HJ2.out; have := HK2.out; have := HJ16.out; have := HJ21.out; omega
                                  case rel => exact ⟨(wrap64 (x1_2 + 2)), (x149000_2), (x149001_2), (x149002_2), (x150002_2 ++ (strOfNums y154)), q3_, H', ⟨by have := HJ2.out; have := HK2.out; have := HJ16.out; have := HJ21.out; omega⟩, ⟨by (with_reducible repeat first | apply bN_ | apply bD_ | apply bA_); refine blk_far ?_ NB148_149.out _; (with_reducible repeat first | apply bN_ | apply bD_ | apply bA_); exact BK148.out⟩, ⟨by (with_reducible repeat first | apply bN_ | apply bD_ | apply bA_); refine blk_put (cs := #[.int .i64 4, .int .i64 0, .string x150002_2]) ?_ 2 _ rfl; (with_reducible repeat first | apply bN_ | apply bD_ | apply bA_); exact BK149.out⟩, ⟨q0_⟩⟩
                                · rw [if_neg c46] at H
                                  exact absurd H (by simp)
                              · rw [if_neg c43] at H
                                exact absurd H (by simp)
                            · rw [if_neg c42] at H
                              exact absurd H (by simp)
                          · rw [if_neg c38] at H
                            exact absurd H (by simp)
                        · rw [if_neg c37] at H
                          exact absurd H (by simp)
                · replace c21 := Bool.eq_false_iff.mpr c21
                  subst c21
                  replace H := ifF_ H
                  by_cases c52 : x1_2 ≥ (a0.size : Int)
                  · rw [if_pos c52] at H
                    have c52b0 : decide ((a0.size : Int) ≤ x1_2) = true := decide_eq_true c52
                    clear c52
                    simp only [Option.some.injEq, Prod.mk.injEq] at H
                    obtain ⟨rfl, rfl, rfl, rfl, rfl⟩ := H
                    have hnb53 := NB148_149.out
                    have hnc53 := NB149_148.out
                    have hcz54_0 : wc.cell? ⟨gb148, 0, none⟩ = some (.int .i64 x149000_2) := (blk_cell BK148.out 0).trans rfl
                    have hcz54_1 : wc.cell? ⟨gb148, 1, none⟩ = some (.int .i64 x149001_2) := (blk_cell BK148.out 1).trans rfl
                    have hcz54_2 : wc.cell? ⟨gb148, 2, none⟩ = some (.string x149002_2) := (blk_cell BK148.out 2).trans rfl
                    have hfz54_0 := blk_frozen BK148.out 0
                    have hfz54_1 := blk_frozen BK148.out 1
                    have hfz54_2 := blk_frozen BK148.out 2
                    go_wp2
                    refine bodyPost_ret (results_ctt rfl _ _ gb148 46 #[.int .i64 0, .int .i64 0, .string (⟨#[]⟩ : ByteArray)] (0, 0) _ rfl q12_ Tryd.underlying46 rfl (by kernel_rfl)) rfl ?_
                    exact ⟨q4_, q0_⟩
                  · rw [if_neg c52] at H
                    have c52b0 : decide ((a0.size : Int) ≤ x1_2) = false := decide_eq_false c52
                    clear c52
                    by_cases c55 : (x150002_2.size : Int) > 64
                    · rw [if_pos c55] at H
                      have c55b0 : decide (64 < (x150002_2.size : Int)) = true := decide_eq_true c55
                      have c55b1 : decide (64 < x150002_2.size) = true := decide_eq_true (by omega)
                      clear c55
                      simp only [Option.some.injEq, Prod.mk.injEq] at H
                      obtain ⟨rfl, rfl, rfl, rfl, rfl⟩ := H
                      have hnb56 := NB149_148.out
                      have hnc56 := NB148_149.out
                      have hcz57_0 : wc.cell? ⟨gb149, 0, none⟩ = some (.int .i64 4) := (blk_cell BK149.out 0).trans rfl
                      have hcz57_1 : wc.cell? ⟨gb149, 1, none⟩ = some (.int .i64 0) := (blk_cell BK149.out 1).trans rfl
                      have hcz57_2 : wc.cell? ⟨gb149, 2, none⟩ = some (.string x150002_2) := (blk_cell BK149.out 2).trans rfl
                      have hfz57_0 := blk_frozen BK149.out 0
                      have hfz57_1 := blk_frozen BK149.out 1
                      have hfz57_2 := blk_frozen BK149.out 2
                      have hcz58_0 : wc.cell? ⟨gb148, 0, none⟩ = some (.int .i64 x149000_2) := (blk_cell BK148.out 0).trans rfl
                      have hcz58_1 : wc.cell? ⟨gb148, 1, none⟩ = some (.int .i64 x149001_2) := (blk_cell BK148.out 1).trans rfl
                      have hcz58_2 : wc.cell? ⟨gb148, 2, none⟩ = some (.string x149002_2) := (blk_cell BK148.out 2).trans rfl
                      have hfz58_0 := blk_frozen BK148.out 0
                      have hfz58_1 := blk_frozen BK148.out 1
                      have hfz58_2 := blk_frozen BK148.out 2
                      go_wp2
                      refine bodyPost_ret (results_ctt rfl _ _ gb148 46 #[.int .i64 0, .int .i64 0, .string (⟨#[]⟩ : ByteArray)] (0, 0) _ rfl q12_ Tryd.underlying46 rfl (by kernel_rfl)) rfl ?_
                      exact ⟨q4_, q0_⟩
                    · rw [if_neg c55] at H
                      have c55b0 : decide (64 < (x150002_2.size : Int)) = false := decide_eq_false c55
                      have c55b1 : decide (64 < x150002_2.size) = false := decide_eq_false (by omega)
                      clear c55
                      simp only [Option.some.injEq, Prod.mk.injEq] at H
                      obtain ⟨rfl, rfl, rfl, rfl, rfl⟩ := H
                      have hnb59 := NB149_148.out
                      have hnc59 := NB148_149.out
                      have hcz60_0 : wc.cell? ⟨gb149, 0, none⟩ = some (.int .i64 4) := (blk_cell BK149.out 0).trans rfl
                      have hcz60_1 : wc.cell? ⟨gb149, 1, none⟩ = some (.int .i64 0) := (blk_cell BK149.out 1).trans rfl
                      have hcz60_2 : wc.cell? ⟨gb149, 2, none⟩ = some (.string x150002_2) := (blk_cell BK149.out 2).trans rfl
                      have hfz60_0 := blk_frozen BK149.out 0
                      have hfz60_1 := blk_frozen BK149.out 1
                      have hfz60_2 := blk_frozen BK149.out 2
                      have hcz61_0 : wc.cell? ⟨gb148, 0, none⟩ = some (.int .i64 x149000_2) := (blk_cell BK148.out 0).trans rfl
                      have hcz61_1 : wc.cell? ⟨gb148, 1, none⟩ = some (.int .i64 x149001_2) := (blk_cell BK148.out 1).trans rfl
                      have hcz61_2 : wc.cell? ⟨gb148, 2, none⟩ = some (.string x149002_2) := (blk_cell BK148.out 2).trans rfl
                      have hfz61_0 := blk_frozen BK148.out 0
                      have hfz61_1 := blk_frozen BK148.out 1
                      have hfz61_2 := blk_frozen BK148.out 2
                      go_wp2
                      refine bodyPost_ret (results_ctt rfl _ _ gb148 46 #[.int .i64 4, .int .i64 0, .string x150002_2] (0, 0) _ rfl (by (with_reducible repeat first | apply bN_ | apply bD_ | apply bA_); refine blk_put (cs := #[.int .i64 4, .int .i64 0, .string x149002_2]) ?_ 2 _ rfl; (with_reducible repeat first | apply bN_ | apply bD_ | apply bA_); refine blk_put (cs := #[.int .i64 4, .int .i64 x149001_2, .string x149002_2]) ?_ 1 _ rfl; (with_reducible repeat first | apply bN_ | apply bD_ | apply bA_); refine blk_put (cs := #[.int .i64 x149000_2, .int .i64 x149001_2, .string x149002_2]) ?_ 0 _ rfl; (with_reducible repeat first | apply bN_ | apply bD_ | apply bA_); exact BK148.out) Tryd.underlying46 rfl (by kernel_rfl)) rfl ?_
                      exact ⟨q4_, q0_⟩
      · replace c13 := Bool.eq_false_iff.mpr c13
        subst c13
        replace H := ifF_ H
        by_cases c62 : 0 ≤ a1
        · rw [if_pos c62] at H
          have c62b0 : decide (0 ≤ a1) = true := decide_eq_true c62
          clear c62
          by_cases c63 : a1 < (a0.size : Int)
          · rw [if_pos c63] at H
            have c63b0 : decide (a1 < (a0.size : Int)) = true := decide_eq_true c63
            clear c63
            by_cases c65 : (bt a0 a1) = 39
            · rw [if_pos c65] at H
              have c65b0 : ((bt a0 a1) == 39) = true := beq_iff_eq.mpr c65
              have c65b1 : ((bt a0 a1) != 39) = false := bne_eq_false_iff_eq.mpr c65
              clear c65
              have H' := Aside0.mk H
              clear H
              have p64 : 0 ≤ (a1 : Int) := of_decide_eq_true q7_
              have q64 : a1 < (a0.size : Int) := of_decide_eq_true q7_
              have hx64 := bt_at a0 a1
              replace p64 := eq_true p64
              replace q64 := eq_true q64
              go_wp2_with (first | ((with_reducible refine gate_dst (N := 8) rfl ?_); (try (refine gate_guard (by rfl) ?_; dsimp only)); refine box_event ?hg (N := 8) ?hd (cs := #[.int .i64 0, .int .i64 0, .string (⟨#[]⟩ : ByteArray)]) (t := 46) ?hr ?_; (case hd => rfl); (case hg => rfl); (case hr => first | (go_simp; done) | (go_simp; rfl)); intro gb157 hg w66 hbox hb; have n0_ := Aside0.mk (blk_below (g := gb148) (o := .cells #[.int .i64 0, .int .i64 0, .string (⟨#[]⟩ : ByteArray)] 46 (0, 0)) q9_ hb); have n1_ := Aside0.mk (below_step q0_ hb); have n2_ := Aside0.mk (hbox); have n3_ := Aside0.mk ((q1_ : w.heap.size ≤ gb157)); have n4_ := Aside0.mk ((q1_ : w.heap.size ≤ gb157)); have n5_ := Aside0.mk ((q28_ : gb148 ≠ gb157)); have n6_ := Aside0.mk ((q29_ : gb157 ≠ gb148)); clear BK148; clear HB; have BK148 := n0_; have HB := n1_; have BK157 := n2_; have GW157 := n3_; have GE157 := n4_; have NB148_157 := n5_; have NB157_148 := n6_; clear n0_ n1_ n2_ n3_ n4_ n5_ n6_; clear hb hbox hg; have hnb67 := NB157_148.out; have hnc67 := NB148_157.out; have hcz68_0 : w66.cell? ⟨gb157, 0, none⟩ = some (.int .i64 0) := (blk_cell BK157.out 0).trans rfl; have hcz68_1 : w66.cell? ⟨gb157, 1, none⟩ = some (.int .i64 0) := (blk_cell BK157.out 1).trans rfl; have hcz68_2 : w66.cell? ⟨gb157, 2, none⟩ = some (.string (⟨#[]⟩ : ByteArray)) := (blk_cell BK157.out 2).trans rfl; have hfz68_0 := blk_frozen BK157.out 0; have hfz68_1 := blk_frozen BK157.out 1; have hfz68_2 := blk_frozen BK157.out 2))
              go_loopg [1] kj2 (fun kq v1 w' => ∃ (x1_2 : Int) (x149000_2 : Int) (x149001_2 : Int) (x149002_2 : ByteArray) (x158002_2 : ByteArray), v1 = .int .i64 x1_2 ∧ Aside0 (corollaryref11_one.l1 kq a0 x1_2 3 0 x158002_2 = some (r1, r2, r3, r4, r5)) ∧ Aside0 (kq ≤ kj2) ∧ Aside0 (w'.heap[gb148]? = some (.cells #[.int .i64 x149000_2, .int .i64 x149001_2, .string x149002_2] 46 (0, 0))) ∧ Aside0 (w'.heap[gb157]? = some (.cells #[.int .i64 3, .int .i64 0, .string x158002_2] 46 (0, 0))) ∧ Aside0 (Below w.heap.size w w'))
              case atStart => exact ⟨(wrap64 (a1 + 1)), (0), (0), ((⟨#[]⟩ : ByteArray)), ((⟨#[]⟩ : ByteArray)), q3_, H', ⟨Nat.le_refl _⟩, ⟨by (with_reducible repeat first | apply bN_ | apply bD_ | apply bA_); refine blk_far ?_ NB148_157.out _; (with_reducible repeat first | apply bN_ | apply bD_ | apply bA_); refine blk_far ?_ NB148_157.out _; (with_reducible repeat first | apply bN_ | apply bD_ | apply bA_); refine blk_far ?_ NB148_157.out _; (with_reducible repeat first | apply bN_ | apply bD_ | apply bA_); exact BK148.out⟩, ⟨by (with_reducible repeat first | apply bN_ | apply bD_ | apply bA_); refine blk_put (cs := #[.int .i64 3, .int .i64 0, .string (⟨#[]⟩ : ByteArray)]) ?_ 2 _ rfl; (with_reducible repeat first | apply bN_ | apply bD_ | apply bA_); refine blk_put (cs := #[.int .i64 3, .int .i64 0, .string (⟨#[]⟩ : ByteArray)]) ?_ 1 _ rfl; (with_reducible repeat first | apply bN_ | apply bD_ | apply bA_); refine blk_put (cs := #[.int .i64 0, .int .i64 0, .string (⟨#[]⟩ : ByteArray)]) ?_ 0 _ rfl; (with_reducible repeat first | apply bN_ | apply bD_ | apply bA_); exact BK157.out⟩, ⟨q0_⟩⟩
              case round => as_aux_lemma =>
                clear H'
                try clear c1
                try clear p1
                try clear q1
                try clear hx1
                try clear c2
                try clear p2
                try clear q2
                try clear hx2
                try clear c3
                try clear p3
                try clear q3
                try clear hx3
                try clear c4
                try clear p4
                try clear q4
                try clear hx4
                try clear c5
                try clear c5b0
                try clear hcv5
                try clear c6
                try clear c6b0
                try clear p6
                try clear q6
                try clear hx6
                try clear p7
                try clear q7
                try clear hx7
                try clear c8
                try clear c8b0
                try clear c8b1
                try clear c9
                try clear c9b0
                try clear c11
                try clear c11b0
                try clear p12
                try clear q12
                try clear hx12
                try clear c13
                try clear c15
                try clear c17
                try clear c18
                try clear c18b0
                try clear c19
                try clear c19b0
                try clear p20
                try clear q20
                try clear hx20
                try clear c21
                try clear c23
                try clear c23b0
                try clear c24
                try clear c24b0
                try clear c25
                try clear c25b0
                try clear p26
                try clear q26
                try clear hx26
                try clear c28
                try clear c28b0
                try clear c30
                try clear c30b0
                try clear c31
                try clear c31b0
                try clear p32
                try clear q32
                try clear hx32
                try clear c34
                try clear c35
                try clear c37
                try clear c37b0
                try clear c38
                try clear c38b0
                try clear p39
                try clear q39
                try clear hx39
                try clear c42
                try clear c42b0
                try clear c43
                try clear c43b0
                try clear p44
                try clear q44
                try clear hx44
                try clear c46
                try clear c46b0
                try clear c46b1
                try clear c46b2
                try clear hcv50
                try clear c52
                try clear c52b0
                try clear c53
                try clear c55
                try clear c55b0
                try clear c55b1
                try clear c56
                try clear c59
                try clear c62
                try clear c62b0
                try clear c63
                try clear c63b0
                try clear p64
                try clear q64
                try clear hx64
                try clear c65
                try clear c65b0
                try clear c65b1
                try clear c67
                try clear hcz16_0
                try clear hcz16_1
                try clear hcz16_2
                try clear hcz36_0
                try clear hcz36_1
                try clear hcz36_2
                try clear hcz54_0
                try clear hcz54_1
                try clear hcz54_2
                try clear hcz57_0
                try clear hcz57_1
                try clear hcz57_2
                try clear hcz58_0
                try clear hcz58_1
                try clear hcz58_2
                try clear hcz60_0
                try clear hcz60_1
                try clear hcz60_2
                try clear hcz61_0
                try clear hcz61_1
                try clear hcz61_2
                try clear hcz68_0
                try clear hcz68_1
                try clear hcz68_2
                try clear hfz16_0
                try clear hfz16_1
                try clear hfz16_2
                try clear hfz36_0
                try clear hfz36_1
                try clear hfz36_2
                try clear hfz54_0
                try clear hfz54_1
                try clear hfz54_2
                try clear hfz57_0
                try clear hfz57_1
                try clear hfz57_2
                try clear hfz58_0
                try clear hfz58_1
                try clear hfz58_2
                try clear hfz60_0
                try clear hfz60_1
                try clear hfz60_2
                try clear hfz61_0
                try clear hfz61_1
                try clear hfz61_2
                try clear hfz68_0
                try clear hfz68_1
                try clear hfz68_2
                try clear p1
                try clear p12
                try clear p2
                try clear p20
                try clear p26
                try clear p3
                try clear p32
                try clear p39
                try clear p44
                try clear p6
                try clear p64
                try clear p7
                try clear q1
                try clear q12
                try clear q2
                try clear q20
                try clear q26
                try clear q3
                try clear q32
                try clear q39
                try clear q44
                try clear q64
                try clear q7
                obtain ⟨x1_2, x149000_2, x149001_2, x149002_2, x158002_2, rfl, HA, HK2, BK148, BK157, HB⟩ := hrel
                cases gk with
                | zero => exact absurd HA.out (by simp [corollaryref11_one.l1])
                | succ k2 =>
                  have H := HA.out
                  clear HA
                  simp only [corollaryref11_one.l1] at H
                  by_cases c69 : x1_2 < (a0.size : Int)
                  · rw [if_pos c69] at H
                    have c69b0 : decide (x1_2 < (a0.size : Int)) = true := decide_eq_true c69
                    clear c69
                    by_cases c70 : 0 ≤ x1_2
                    · rw [if_pos c70] at H
                      have c70b0 : decide (0 ≤ x1_2) = true := decide_eq_true c70
                      clear c70
                      by_cases c72 : (bt a0 x1_2) = 39
                      · rw [if_pos c72] at H
                        have c72b0 : ((bt a0 x1_2) == 39) = true := beq_iff_eq.mpr c72
                        have c72b1 : ((bt a0 x1_2) != 39) = false := bne_eq_false_iff_eq.mpr c72
                        clear c72
                        have HC73 := Aside0.mk H
                        clear H
                        have p71 : 0 ≤ (x1_2 : Int) := of_decide_eq_true q7_
                        have q71 : x1_2 < (a0.size : Int) := of_decide_eq_true q7_
                        have hx71 := bt_at a0 x1_2
                        replace p71 := eq_true p71
                        replace q71 := eq_true q71
                        go_upto_region 18 with (fail)
                        go_cut [133] (fun v133 wc => ∃ (kq : Nat) (x133_72 : Bool), v133 = .bool x133_72 ∧ Aside0 (corollaryref11_one.j5 kq a0 x1_2 x133_72 3 0 x158002_2 = some (r1, r2, r3, r4, r5)) ∧ Aside0 (kq ≤ k2) ∧ Aside0 (wc.heap[gb148]? = some (.cells #[.int .i64 x149000_2, .int .i64 x149001_2, .string x149002_2] 46 (0, 0))) ∧ Aside0 (wc.heap[gb157]? = some (.cells #[.int .i64 3, .int .i64 0, .string x158002_2] 46 (0, 0))) ∧ Aside0 (Below w.heap.size w wc))
                        case first => as_aux_lemma =>
                          have H := HC73.out
                          clear HC73
                          by_cases c74 : (wrap64 (x1_2 + 1)) ≥ (a0.size : Int)
                          · rw [if_pos c74] at H
                            have c74b0 : decide ((a0.size : Int) ≤ (wrap64 (x1_2 + 1))) = true := decide_eq_true c74
                            clear c74
                            (first | rw [c74b0] | (simp only [i64_w, i32_w]; rw [c74b0]) | skip)
                            have H' := Aside0.mk H
                            clear H
                            go_wp2
                            go_meet
                            case rel => exact ⟨_, (true), q3_, H', ⟨by have := HJ2.out; have := HK2.out; first | omega | exact Nat.le_refl _⟩, ⟨q9_⟩, ⟨q57_⟩, ⟨q0_⟩⟩
                          · rw [if_neg c74] at H
                            have c74b0 : decide ((a0.size : Int) ≤ (wrap64 (x1_2 + 1))) = false := decide_eq_false c74
                            clear c74
                            (first | rw [c74b0] | (simp only [i64_w, i32_w]; rw [c74b0]) | skip)
                            obtain ⟨ji75, hji75⟩ : ∃ j_ : Int, (wrap64 (x1_2 + 1)) = j_ := ⟨_, rfl⟩
                            replace H : (if 0 ≤ (ji75) then (if (ji75) < (a0.size : Int) then (corollaryref11_one.j5 k2 a0 x1_2 ((bt a0 (ji75)) != 39) 3 0 x158002_2) else (none)) else (none)) = some (r1, r2, r3, r4, r5) := by first | (rw [hji75] at H; exact H) | (simp only [hji75] at H ⊢; exact H)
                            (try rw [hji75] at c74b0)
                            have hji75w : (IntKind.i64.wrap (x1_2 + 1)) = ji75 := (i64_w _).trans hji75
                            by_cases c76 : 0 ≤ (ji75)
                            · rw [if_pos c76] at H
                              have c76b0 : decide (0 ≤ (ji75)) = true := decide_eq_true c76
                              clear c76
                              by_cases c77 : (ji75) < (a0.size : Int)
                              · rw [if_pos c77] at H
                                have c77b0 : decide ((ji75) < (a0.size : Int)) = true := decide_eq_true c77
                                clear c77
                                have H' := Aside0.mk H
                                clear H
                                have p78 : 0 ≤ ((ji75) : Int) := of_decide_eq_true q7_
                                have q78 : (ji75) < (a0.size : Int) := of_decide_eq_true q7_
                                have hx78 := bt_at a0 (ji75)
                                replace p78 := eq_true p78
                                replace q78 := eq_true q78
                                go_wp2
                                go_meet
                                case rel => exact ⟨_, (((bt a0 (ji75)) != 39)), (by first | rfl | (simp; done) | (simp only [← hji75] <;> (first | rfl | simp)) | (simp [*]; done)), H', ⟨by have := HJ2.out; have := HK2.out; first | omega | exact Nat.le_refl _⟩, ⟨q9_⟩, ⟨q57_⟩, ⟨q0_⟩⟩
                              · rw [if_neg c77] at H
                                exact absurd H (by simp)
                            · rw [if_neg c76] at H
                              exact absurd H (by simp)
                        case rest => as_aux_lemma =>
                          clear HC73
                          try clear c1
                          try clear p1
                          try clear q1
                          try clear hx1
                          try clear c2
                          try clear p2
                          try clear q2
                          try clear hx2
                          try clear c3
                          try clear p3
                          try clear q3
                          try clear hx3
                          try clear c4
                          try clear p4
                          try clear q4
                          try clear hx4
                          try clear c5
                          try clear c5b0
                          try clear hcv5
                          try clear c6
                          try clear c6b0
                          try clear p6
                          try clear q6
                          try clear hx6
                          try clear c7
                          try clear p7
                          try clear q7
                          try clear hx7
                          try clear c8
                          try clear c8b0
                          try clear c8b1
                          try clear c9
                          try clear c9b0
                          try clear c11
                          try clear c11b0
                          try clear p12
                          try clear q12
                          try clear hx12
                          try clear c13
                          try clear c15
                          try clear c17
                          try clear c18
                          try clear c18b0
                          try clear c19
                          try clear c19b0
                          try clear p20
                          try clear q20
                          try clear hx20
                          try clear c21
                          try clear c23
                          try clear c23b0
                          try clear c24
                          try clear c24b0
                          try clear c25
                          try clear c25b0
                          try clear p26
                          try clear q26
                          try clear hx26
                          try clear c28
                          try clear c28b0
                          try clear c30
                          try clear c30b0
                          try clear c31
                          try clear c31b0
                          try clear p32
                          try clear q32
                          try clear hx32
                          try clear c34
                          try clear c35
                          try clear c37
                          try clear c37b0
                          try clear c38
                          try clear c38b0
                          try clear p39
                          try clear q39
                          try clear hx39
                          try clear c42
                          try clear c42b0
                          try clear c43
                          try clear c43b0
                          try clear p44
                          try clear q44
                          try clear hx44
                          try clear c46
                          try clear c46b0
                          try clear c46b1
                          try clear c46b2
                          try clear hcv50
                          try clear c52
                          try clear c52b0
                          try clear c53
                          try clear c55
                          try clear c55b0
                          try clear c55b1
                          try clear c56
                          try clear c59
                          try clear c62
                          try clear c62b0
                          try clear c63
                          try clear c63b0
                          try clear p64
                          try clear q64
                          try clear hx64
                          try clear c65
                          try clear c65b0
                          try clear c65b1
                          try clear c67
                          try clear c69
                          try clear c69b0
                          try clear c70
                          try clear c70b0
                          try clear p71
                          try clear q71
                          try clear hx71
                          try clear c72
                          try clear c72b0
                          try clear c72b1
                          try clear c74
                          try clear c74b0
                          try clear c76
                          try clear c76b0
                          try clear c77
                          try clear c77b0
                          try clear p78
                          try clear q78
                          try clear hx78
                          try clear hcz16_0
                          try clear hcz16_1
                          try clear hcz16_2
                          try clear hcz36_0
                          try clear hcz36_1
                          try clear hcz36_2
                          try clear hcz54_0
                          try clear hcz54_1
                          try clear hcz54_2
                          try clear hcz57_0
                          try clear hcz57_1
                          try clear hcz57_2
                          try clear hcz58_0
                          try clear hcz58_1
                          try clear hcz58_2
                          try clear hcz60_0
                          try clear hcz60_1
                          try clear hcz60_2
                          try clear hcz61_0
                          try clear hcz61_1
                          try clear hcz61_2
                          try clear hcz68_0
                          try clear hcz68_1
                          try clear hcz68_2
                          try clear hfz16_0
                          try clear hfz16_1
                          try clear hfz16_2
                          try clear hfz36_0
                          try clear hfz36_1
                          try clear hfz36_2
                          try clear hfz54_0
                          try clear hfz54_1
                          try clear hfz54_2
                          try clear hfz57_0
                          try clear hfz57_1
                          try clear hfz57_2
                          try clear hfz58_0
                          try clear hfz58_1
                          try clear hfz58_2
                          try clear hfz60_0
                          try clear hfz60_1
                          try clear hfz60_2
                          try clear hfz61_0
                          try clear hfz61_1
                          try clear hfz61_2
                          try clear hfz68_0
                          try clear hfz68_1
                          try clear hfz68_2
                          try clear p1
                          try clear p12
                          try clear p2
                          try clear p20
                          try clear p26
                          try clear p3
                          try clear p32
                          try clear p39
                          try clear p4
                          try clear p44
                          try clear p6
                          try clear p64
                          try clear p7
                          try clear p71
                          try clear p78
                          try clear q1
                          try clear q12
                          try clear q2
                          try clear q20
                          try clear q26
                          try clear q3
                          try clear q32
                          try clear q39
                          try clear q4
                          try clear q44
                          try clear q6
                          try clear q64
                          try clear q7
                          try clear q71
                          try clear q78
                          obtain ⟨kq, x133_72, rfl, HA, HJ72, BK148, BK157, HB⟩ := hcut
                          cases kq with
                          | zero => exact absurd HA.out (by simp [corollaryref11_one.j5])
                          | succ kj72 =>
                            have H := HA.out
                            clear HA
                            simp only [corollaryref11_one.j5] at H
                            by_cases c79 : x133_72 = true
                            · subst c79
                              replace H := ifT_ H
                              replace H := Option.bind_eq_some_iff.mp H
                              obtain ⟨t158, A800, H⟩ := H
                              replace H : (if t158 = true then (some (3, 0, x158002_2, wrap64 (x1_2 + 1), 0)) else (some (0, 0, (⟨#[]⟩ : ByteArray), 0, 3))) = some (r1, r2, r3, r4, r5) := H
                              have A80 := Aside0.mk A800
                              clear A800
                              by_cases c81 : t158 = true
                              · subst c81
                                replace H := ifT_ H
                                simp only [Option.some.injEq, Prod.mk.injEq] at H
                                obtain ⟨rfl, rfl, rfl, rfl, rfl⟩ := H
                                have hnb82 := NB157_148.out
                                have hnc82 := NB148_157.out
                                have hcz83_0 : wc.cell? ⟨gb157, 0, none⟩ = some (.int .i64 3) := (blk_cell BK157.out 0).trans rfl
                                have hcz83_1 : wc.cell? ⟨gb157, 1, none⟩ = some (.int .i64 0) := (blk_cell BK157.out 1).trans rfl
                                have hcz83_2 : wc.cell? ⟨gb157, 2, none⟩ = some (.string x158002_2) := (blk_cell BK157.out 2).trans rfl
                                have hfz83_0 := blk_frozen BK157.out 0
                                have hfz83_1 := blk_frozen BK157.out 1
                                have hfz83_2 := blk_frozen BK157.out 2
                                go_wp2_with (first | ((with_reducible refine gate_callee (f := 36) rfl ?_); refine goesL_ (some 137) rfl rfl Tryd.func36 (by kernel_rfl) rfl #[.agg #[.int .i64 3, .int .i64 0, .string x158002_2]] rfl q2_ ?_; (with_reducible refine (corollaryref01_Right.calls kj72 3 0 x158002_2 true _ A80.out).mono ?_); rintro e w84 ⟨rfl, hb⟩; refine ⟨_, rfl, ?_⟩; have n0_ := Aside0.mk (blk_below (g := gb148) (o := .cells #[.int .i64 x149000_2, .int .i64 x149001_2, .string x149002_2] 46 (0, 0)) q9_ hb); have n1_ := Aside0.mk (blk_below (g := gb157) (o := .cells #[.int .i64 3, .int .i64 0, .string x158002_2] 46 (0, 0)) q57_ hb); have n2_ := Aside0.mk (below_step q0_ hb); clear BK148; clear BK157; clear HB; have BK148 := n0_; have BK157 := n1_; have HB := n2_; clear n0_ n1_ n2_; (try clear hb); (try clear hb2); (try clear hk); (try clear hi); have hcz85_0 : w84.cell? ⟨gb157, 0, none⟩ = some (.int .i64 3) := (blk_cell BK157.out 0).trans rfl; have hcz85_1 : w84.cell? ⟨gb157, 1, none⟩ = some (.int .i64 0) := (blk_cell BK157.out 1).trans rfl; have hcz85_2 : w84.cell? ⟨gb157, 2, none⟩ = some (.string x158002_2) := (blk_cell BK157.out 2).trans rfl; have hfz85_0 := blk_frozen BK157.out 0; have hfz85_1 := blk_frozen BK157.out 1; have hfz85_2 := blk_frozen BK157.out 2; have hcz86_0 : w84.cell? ⟨gb148, 0, none⟩ = some (.int .i64 x149000_2) := (blk_cell BK148.out 0).trans rfl; have hcz86_1 : w84.cell? ⟨gb148, 1, none⟩ = some (.int .i64 x149001_2) := (blk_cell BK148.out 1).trans rfl; have hcz86_2 : w84.cell? ⟨gb148, 2, none⟩ = some (.string x149002_2) := (blk_cell BK148.out 2).trans rfl; have hfz86_0 := blk_frozen BK148.out 0; have hfz86_1 := blk_frozen BK148.out 1; have hfz86_2 := blk_frozen BK148.out 2))
                                refine bodyPost_ret (results_ctt rfl _ _ gb148 46 #[.int .i64 3, .int .i64 0, .string x158002_2] (0, 0) _ rfl (by (with_reducible repeat first | apply bN_ | apply bD_ | apply bA_); refine blk_put (cs := #[.int .i64 3, .int .i64 0, .string x149002_2]) ?_ 2 _ rfl; (with_reducible repeat first | apply bN_ | apply bD_ | apply bA_); refine blk_put (cs := #[.int .i64 3, .int .i64 x149001_2, .string x149002_2]) ?_ 1 _ rfl; (with_reducible repeat first | apply bN_ | apply bD_ | apply bA_); refine blk_put (cs := #[.int .i64 x149000_2, .int .i64 x149001_2, .string x149002_2]) ?_ 0 _ rfl; (with_reducible repeat first | apply bN_ | apply bD_ | apply bA_); exact BK148.out) Tryd.underlying46 rfl (by kernel_rfl)) rfl ?_
                                exact ⟨q4_, q0_⟩
                              · replace c81 := Bool.eq_false_iff.mpr c81
                                subst c81
                                replace H := ifF_ H
                                simp only [Option.some.injEq, Prod.mk.injEq] at H
                                obtain ⟨rfl, rfl, rfl, rfl, rfl⟩ := H
                                have hnb87 := NB157_148.out
                                have hnc87 := NB148_157.out
                                have hcz88_0 : wc.cell? ⟨gb157, 0, none⟩ = some (.int .i64 3) := (blk_cell BK157.out 0).trans rfl
                                have hcz88_1 : wc.cell? ⟨gb157, 1, none⟩ = some (.int .i64 0) := (blk_cell BK157.out 1).trans rfl
                                have hcz88_2 : wc.cell? ⟨gb157, 2, none⟩ = some (.string x158002_2) := (blk_cell BK157.out 2).trans rfl
                                have hfz88_0 := blk_frozen BK157.out 0
                                have hfz88_1 := blk_frozen BK157.out 1
                                have hfz88_2 := blk_frozen BK157.out 2
                                go_wp2_with (first | ((with_reducible refine gate_callee (f := 36) rfl ?_); refine goesL_ (some 137) rfl rfl Tryd.func36 (by kernel_rfl) rfl #[.agg #[.int .i64 3, .int .i64 0, .string x158002_2]] rfl q2_ ?_; (with_reducible refine (corollaryref01_Right.calls kj72 3 0 x158002_2 false _ A80.out).mono ?_); rintro e w89 ⟨rfl, hb⟩; refine ⟨_, rfl, ?_⟩; have n0_ := Aside0.mk (blk_below (g := gb148) (o := .cells #[.int .i64 x149000_2, .int .i64 x149001_2, .string x149002_2] 46 (0, 0)) q9_ hb); have n1_ := Aside0.mk (blk_below (g := gb157) (o := .cells #[.int .i64 3, .int .i64 0, .string x158002_2] 46 (0, 0)) q57_ hb); have n2_ := Aside0.mk (below_step q0_ hb); clear BK148; clear BK157; clear HB; have BK148 := n0_; have BK157 := n1_; have HB := n2_; clear n0_ n1_ n2_; (try clear hb); (try clear hb2); (try clear hk); (try clear hi); have hcz90_0 : w89.cell? ⟨gb148, 0, none⟩ = some (.int .i64 x149000_2) := (blk_cell BK148.out 0).trans rfl; have hcz90_1 : w89.cell? ⟨gb148, 1, none⟩ = some (.int .i64 x149001_2) := (blk_cell BK148.out 1).trans rfl; have hcz90_2 : w89.cell? ⟨gb148, 2, none⟩ = some (.string x149002_2) := (blk_cell BK148.out 2).trans rfl; have hfz90_0 := blk_frozen BK148.out 0; have hfz90_1 := blk_frozen BK148.out 1; have hfz90_2 := blk_frozen BK148.out 2))
                                refine bodyPost_ret (results_ctt rfl _ _ gb148 46 #[.int .i64 0, .int .i64 0, .string (⟨#[]⟩ : ByteArray)] (0, 0) _ rfl q12_ Tryd.underlying46 rfl (by kernel_rfl)) rfl ?_
                                exact ⟨q4_, q0_⟩
                            · replace c79 := Bool.eq_false_iff.mpr c79
                              subst c79
                              replace H := ifF_ H
                              obtain ⟨ji91, hji91⟩ : ∃ j_ : Int, (wrap64 (x1_2 + 1)) = j_ := ⟨_, rfl⟩
                              replace H : (if 0 ≤ (ji91) then (if (ji91) ≤ (wrap64 ((ji91) + 1)) then (if (wrap64 ((ji91) + 1)) ≤ (a0.size : Int) then (if x158002_2.size + (a0.extract ((ji91) : Int).toNat ((wrap64 ((ji91) + 1)) : Int).toNat).size ≤ 9223372036854775807 then (corollaryref11_one.l1 kj72 a0 (wrap64 ((ji91) + 1)) 3 0 (x158002_2 ++ (a0.extract ((ji91) : Int).toNat ((wrap64 ((ji91) + 1)) : Int).toNat))) else (none)) else (none)) else (none)) else (none)) = some (r1, r2, r3, r4, r5) := by first | (rw [hji91] at H; exact H) | (simp only [hji91] at H ⊢; exact H)
                              have hji91w : (IntKind.i64.wrap (x1_2 + 1)) = ji91 := (i64_w _).trans hji91
                              by_cases c92 : 0 ≤ (ji91)
                              · rw [if_pos c92] at H
                                have c92b0 := eq_true c92
                                have c92b1 : decide (0 ≤ (ji91)) = true := decide_eq_true c92
                                clear c92
                                by_cases c93 : (ji91) ≤ (wrap64 ((ji91) + 1))
                                · rw [if_pos c93] at H
                                  have c93b0 := eq_true c93
                                  have c93b1 : decide ((ji91) ≤ (wrap64 ((ji91) + 1))) = true := decide_eq_true c93
                                  by_cases c94 : (wrap64 ((ji91) + 1)) ≤ (a0.size : Int)
                                  · rw [if_pos c94] at H
                                    have c94b0 := eq_true c94
                                    have c94b1 : decide ((wrap64 ((ji91) + 1)) ≤ (a0.size : Int)) = true := decide_eq_true c94
                                    by_cases c95 : x158002_2.size + (a0.extract ((ji91) : Int).toNat ((wrap64 ((ji91) + 1)) : Int).toNat).size ≤ 9223372036854775807
                                    · rw [if_pos c95] at H
                                      have c95b0 := eq_true c95
                                      have c95b1 : decide (x158002_2.size + (a0.extract ((ji91) : Int).toNat ((wrap64 ((ji91) + 1)) : Int).toNat).size ≤ 9223372036854775807) = true := decide_eq_true c95
                                      try have c95b2 : (9223372036854775807 < x158002_2.size + (a0.extract ((ji91) : Int).toNat ((wrap64 ((ji91) + 1)) : Int).toNat).size) = False := eq_false (Nat.not_lt.2 c95)
                                      (try (have c95b5 : (9223372036854775807 < x158002_2.size + (((wrap64 ((ji91) + 1)) : Int).toNat - ((ji91) : Int).toNat)) = False := eq_false (by have hq_ := c95; (try simp only [ByteArray.size_append, ByteArray.size_extract] at hq_); first | omega | (simp only [decide_eq_true_eq] at *; omega))))
                                      have H' := Aside0.mk H
                                      clear H
                                      try go_wp2
                                      have n0_ := Aside0.mk (blk_drew BK148.out)
                                      have n1_ := Aside0.mk (blk_drew BK157.out)
                                      have n2_ := Aside0.mk (below_drew1 HB.out)
                                      clear BK148
                                      clear BK157
                                      clear HB
                                      have BK148 := n0_
                                      have BK157 := n1_
                                      have HB := n2_
                                      clear n0_ n1_ n2_
                                      refine start_ (n := 10) (S := fun w' => w'.cell? ⟨gb157, 0, none⟩ = some (.int .i64 3) ∧ w'.cell? ⟨gb157, 1, none⟩ = some (.int .i64 0) ∧ w'.cell? ⟨gb157, 2, none⟩ = some (.string x158002_2)) (ds := [9]) #[false, false, false, false, false, false, false, false, false, false] (by kernel_rfl) rfl rfl ⟨(blk_cell BK157.out 0).trans rfl, (blk_cell BK157.out 1).trans rfl, (blk_cell BK157.out 2).trans rfl⟩ (fun hHeld => ?_); refine with_tabW corollaryref11_one.tab23 corollaryref11_one.bits23 (fun HT_ HW_ => ?_)
                                      generalize wc.drew = w96 at BK148 BK157 HB hHeld ⊢
                                      refine pure_ (i := 0) (N := some 145) (v := ?_) (a' := ?_) #[true, false, false, false, false, false, false, false, false, false] rfl rfl (any_of HT_.out (by kernel_rfl)) (fun _ _ _ h => h) (Or.inl ⟨by rfl, ?_⟩) ?_ ?_
                                      rotate_left
                                      · intro w'
                                        go_simp
                                        with_reducible rfl
                                      rotate_left
                                      · simp only [Act.put, List.setIfInBounds_toArray, List.set_cons_zero, List.set_cons_succ, i64_w, i32_w]
                                        rfl
                                      refine pure_ (i := 2) (N := some 147) (v := ?_) (a' := ?_) #[true, false, true, false, false, false, false, false, false, false] rfl rfl (any_of HT_.out (by kernel_rfl)) (fun _ _ _ h => h) (Or.inl ⟨by rfl, ?_⟩) ?_ ?_
                                      rotate_left
                                      · intro w'
                                        go_simp
                                        with_reducible rfl
                                      rotate_left
                                      · simp only [Act.put, List.setIfInBounds_toArray, List.set_cons_zero, List.set_cons_succ, i64_w, i32_w]
                                        rfl
                                      refine pure_ (i := 3) (N := some 148) (v := ?_) (a' := ?_) #[true, false, true, true, false, false, false, false, false, false] rfl rfl (any_of HT_.out (by kernel_rfl)) (fun _ _ _ h => h) (Or.inl ⟨by rfl, ?_⟩) ?_ ?_
                                      rotate_left
                                      · intro w'
                                        go_simp
                                        with_reducible rfl
                                      rotate_left
                                      · simp only [Act.put, List.setIfInBounds_toArray, List.set_cons_zero, List.set_cons_succ, i64_w, i32_w]
                                        rfl
                                      refine pure_ (i := 4) (N := some 149) (v := ?_) (a' := ?_) #[true, false, true, true, true, false, false, false, false, false] rfl rfl (any_of HT_.out (by kernel_rfl)) (fun _ _ _ h => h) (Or.inl ⟨by rfl, ?_⟩) ?_ ?_
                                      rotate_left
                                      · intro w'
                                        go_simp
                                        with_reducible rfl
                                      rotate_left
                                      · simp only [Act.put, List.setIfInBounds_toArray, List.set_cons_zero, List.set_cons_succ, i64_w, i32_w]
                                        rfl
                                      refine pure_ (i := 5) (N := some 150) (v := ?_) (a' := ?_) #[true, false, true, true, true, true, false, false, false, false] rfl rfl (any_of HT_.out (by kernel_rfl)) (fun _ _ _ h => h) (Or.inl ⟨by rfl, ?_⟩) ?_ ?_
                                      rotate_left
                                      · intro w'
                                        go_simp
                                        with_reducible rfl
                                      rotate_left
                                      · simp only [Act.put, List.setIfInBounds_toArray, List.set_cons_zero, List.set_cons_succ, i64_w, i32_w]
                                        rfl
                                      refine pure_ (i := 6) (N := some 151) (v := ?_) (a' := ?_) #[true, false, true, true, true, true, true, false, false, false] rfl rfl (any_of HT_.out (by kernel_rfl)) (fun _ _ _ h => h) (Or.inl ⟨by rfl, ?_⟩) ?_ ?_
                                      rotate_left
                                      · intro w'
                                        go_simp
                                        with_reducible rfl
                                      rotate_left
                                      · simp only [Act.put, List.setIfInBounds_toArray, List.set_cons_zero, List.set_cons_succ, i64_w, i32_w]
                                        rfl
                                      refine take_ (i := 1) (N := some 146) (v := ?_) (a' := ?_) #[true, true, true, true, true, true, true, false, false, false] rfl rfl (take_ofW HT_.out HW_.out (by kernel_rfl)) (fun _ _ _ h => h) (Or.inl ⟨by rfl, ?_⟩) hHeld ?_ ?_
                                      rotate_left
                                      · rintro w' ⟨s0, s1, s2⟩
                                        go_simp
                                        with_reducible rfl
                                      rotate_left
                                      · simp only [Act.put, List.setIfInBounds_toArray, List.set_cons_zero, List.set_cons_succ, i64_w, i32_w]
                                        rfl
                                      refine pure_ (i := 7) (N := some 152) (v := ?_) (a' := ?_) #[true, true, true, true, true, true, true, true, false, false] rfl rfl (any_of HT_.out (by kernel_rfl)) (fun _ _ _ h => h) (Or.inl ⟨by rfl, ?_⟩) ?_ ?_
                                      rotate_left
                                      · intro w'
                                        go_simp
                                        with_reducible rfl
                                      rotate_left
                                      · simp only [Act.put, List.setIfInBounds_toArray, List.set_cons_zero, List.set_cons_succ, i64_w, i32_w]
                                        rfl
                                      refine pure_ (i := 8) (N := some 153) (v := ?_) (a' := ?_) #[true, true, true, true, true, true, true, true, true, false] rfl rfl (any_of HT_.out (by kernel_rfl)) (fun _ _ _ h => h) (Or.inl ⟨by rfl, ?_⟩) ?_ ?_
                                      rotate_left
                                      · intro w'
                                        go_simp
                                        with_reducible rfl
                                      rotate_left
                                      · simp only [Act.put, List.setIfInBounds_toArray, List.set_cons_zero, List.set_cons_succ, i64_w, i32_w]
                                        rfl
                                      refine last_ (i := 9) (N := none) #[true, true, true, true, true, true, true, true, true, true] rfl rfl (one_of HT_.out (by kernel_rfl)) (by decide) (fun K hK => ?_)
                                      have hs97 : w96.cell? ⟨gb157, 2, none⟩ = some (.string x158002_2) := (blk_cell BK157.out 2).trans rfl
                                      have hfs97 := blk_frozen BK157.out 2
                                      have hns97_0 := NB148_157.out
                                      have hms97_0 := NB157_148.out
                                      refine skip_ (w1 := ?_) (by rfl) rfl ?_ ?_
                                      rotate_left
                                      · go_simp
                                        rfl
                                      refine hK.out _ _ ?_
                                      clear hK K
                                      refine done_ (done_of HT_.out (by kernel_rfl)) ?_
                                      try go_wp2
                                      go_roundg kj72
                                      case measure => have := HJ2.out; have := HK2.out; have := HJ72.out; omega
                                      case rel => exact ⟨(wrap64 ((ji91) + 1)), (x149000_2), (x149001_2), (x149002_2), (x158002_2 ++ (a0.extract ((ji91) : Int).toNat ((wrap64 ((ji91) + 1)) : Int).toNat)), (by first | rfl | (simp; done) | (simp only [← hji91] <;> (first | rfl | simp)) | (simp [*]; done)), H', ⟨by have := HJ2.out; have := HK2.out; have := HJ72.out; omega⟩, ⟨by (with_reducible repeat first | apply bN_ | apply bD_ | apply bA_); refine blk_far ?_ NB148_157.out _; (with_reducible repeat first | apply bN_ | apply bD_ | apply bA_); exact BK148.out⟩, ⟨q58_⟩, ⟨q0_⟩⟩
                                    · rw [if_neg c95] at H
                                      exact absurd H (by simp)
                                  · rw [if_neg c94] at H
                                    exact absurd H (by simp)
                                · rw [if_neg c93] at H
                                  exact absurd H (by simp)
                              · rw [if_neg c92] at H
                                exact absurd H (by simp)
                      · rw [if_neg c72] at H
                        have c72b0 : ((bt a0 x1_2) == 39) = false := beq_eq_false_iff_ne.mpr c72
                        have c72b1 : ((bt a0 x1_2) != 39) = true := bne_iff_ne.mpr c72
                        have c98b0 := eq_true (of_decide_eq_true q7_ : 0 ≤ x1_2)
                        by_cases c99 : x1_2 ≤ (wrap64 (x1_2 + 1))
                        · rw [if_pos c99] at H
                          have c99b0 := eq_true c99
                          have c99b1 : decide (x1_2 ≤ (wrap64 (x1_2 + 1))) = true := decide_eq_true c99
                          by_cases c100 : (wrap64 (x1_2 + 1)) ≤ (a0.size : Int)
                          · rw [if_pos c100] at H
                            have c100b0 := eq_true c100
                            have c100b1 : decide ((wrap64 (x1_2 + 1)) ≤ (a0.size : Int)) = true := decide_eq_true c100
                            by_cases c101 : x158002_2.size + (a0.extract (x1_2 : Int).toNat ((wrap64 (x1_2 + 1)) : Int).toNat).size ≤ 9223372036854775807
                            · rw [if_pos c101] at H
                              have c101b0 := eq_true c101
                              have c101b1 : decide (x158002_2.size + (a0.extract (x1_2 : Int).toNat ((wrap64 (x1_2 + 1)) : Int).toNat).size ≤ 9223372036854775807) = true := decide_eq_true c101
                              try have c101b2 : (9223372036854775807 < x158002_2.size + (a0.extract (x1_2 : Int).toNat ((wrap64 (x1_2 + 1)) : Int).toNat).size) = False := eq_false (Nat.not_lt.2 c101)
                              (try (have c101b5 : (9223372036854775807 < x158002_2.size + (((wrap64 (x1_2 + 1)) : Int).toNat - (x1_2 : Int).toNat)) = False := eq_false (by have hq_ := c101; (try simp only [ByteArray.size_append, ByteArray.size_extract] at hq_); first | omega | (simp only [decide_eq_true_eq] at *; omega))))
                              have H' := Aside0.mk H
                              clear H
                              have p71 : 0 ≤ (x1_2 : Int) := of_decide_eq_true q7_
                              have q71 : x1_2 < (a0.size : Int) := of_decide_eq_true q7_
                              have hx71 := bt_at a0 x1_2
                              replace p71 := eq_true p71
                              replace q71 := eq_true q71
                              try go_wp2
                              have n0_ := Aside0.mk (blk_drew BK148.out)
                              have n1_ := Aside0.mk (blk_drew BK157.out)
                              have n2_ := Aside0.mk (below_drew1 HB.out)
                              clear BK148
                              clear BK157
                              clear HB
                              have BK148 := n0_
                              have BK157 := n1_
                              have HB := n2_
                              clear n0_ n1_ n2_
                              refine start_ (n := 10) (S := fun w' => w'.cell? ⟨gb157, 0, none⟩ = some (.int .i64 3) ∧ w'.cell? ⟨gb157, 1, none⟩ = some (.int .i64 0) ∧ w'.cell? ⟨gb157, 2, none⟩ = some (.string x158002_2)) (ds := [9]) #[false, false, false, false, false, false, false, false, false, false] (by kernel_rfl) rfl rfl ⟨(blk_cell BK157.out 0).trans rfl, (blk_cell BK157.out 1).trans rfl, (blk_cell BK157.out 2).trans rfl⟩ (fun hHeld => ?_); refine with_tabW corollaryref11_one.tab23 corollaryref11_one.bits23 (fun HT_ HW_ => ?_)
                              generalize wr.drew = w102 at BK148 BK157 HB hHeld ⊢
                              refine pure_ (i := 0) (N := some 145) (v := ?_) (a' := ?_) #[true, false, false, false, false, false, false, false, false, false] rfl rfl (any_of HT_.out (by kernel_rfl)) (fun _ _ _ h => h) (Or.inl ⟨by rfl, ?_⟩) ?_ ?_
                              rotate_left
                              · intro w'
                                go_simp
                                with_reducible rfl
                              rotate_left
                              · simp only [Act.put, List.setIfInBounds_toArray, List.set_cons_zero, List.set_cons_succ, i64_w, i32_w]
                                rfl
                              refine pure_ (i := 2) (N := some 147) (v := ?_) (a' := ?_) #[true, false, true, false, false, false, false, false, false, false] rfl rfl (any_of HT_.out (by kernel_rfl)) (fun _ _ _ h => h) (Or.inl ⟨by rfl, ?_⟩) ?_ ?_
                              rotate_left
                              · intro w'
                                go_simp
                                with_reducible rfl
                              rotate_left
                              · simp only [Act.put, List.setIfInBounds_toArray, List.set_cons_zero, List.set_cons_succ, i64_w, i32_w]
                                rfl
                              refine pure_ (i := 3) (N := some 148) (v := ?_) (a' := ?_) #[true, false, true, true, false, false, false, false, false, false] rfl rfl (any_of HT_.out (by kernel_rfl)) (fun _ _ _ h => h) (Or.inl ⟨by rfl, ?_⟩) ?_ ?_
                              rotate_left
                              · intro w'
                                go_simp
                                with_reducible rfl
                              rotate_left
                              · simp only [Act.put, List.setIfInBounds_toArray, List.set_cons_zero, List.set_cons_succ, i64_w, i32_w]
                                rfl
                              refine pure_ (i := 4) (N := some 149) (v := ?_) (a' := ?_) #[true, false, true, true, true, false, false, false, false, false] rfl rfl (any_of HT_.out (by kernel_rfl)) (fun _ _ _ h => h) (Or.inl ⟨by rfl, ?_⟩) ?_ ?_
                              rotate_left
                              · intro w'
                                go_simp
                                with_reducible rfl
                              rotate_left
                              · simp only [Act.put, List.setIfInBounds_toArray, List.set_cons_zero, List.set_cons_succ, i64_w, i32_w]
                                rfl
                              refine pure_ (i := 5) (N := some 150) (v := ?_) (a' := ?_) #[true, false, true, true, true, true, false, false, false, false] rfl rfl (any_of HT_.out (by kernel_rfl)) (fun _ _ _ h => h) (Or.inl ⟨by rfl, ?_⟩) ?_ ?_
                              rotate_left
                              · intro w'
                                go_simp
                                with_reducible rfl
                              rotate_left
                              · simp only [Act.put, List.setIfInBounds_toArray, List.set_cons_zero, List.set_cons_succ, i64_w, i32_w]
                                rfl
                              refine pure_ (i := 6) (N := some 151) (v := ?_) (a' := ?_) #[true, false, true, true, true, true, true, false, false, false] rfl rfl (any_of HT_.out (by kernel_rfl)) (fun _ _ _ h => h) (Or.inl ⟨by rfl, ?_⟩) ?_ ?_
                              rotate_left
                              · intro w'
                                go_simp
                                with_reducible rfl
                              rotate_left
                              · simp only [Act.put, List.setIfInBounds_toArray, List.set_cons_zero, List.set_cons_succ, i64_w, i32_w]
                                rfl
                              refine take_ (i := 1) (N := some 146) (v := ?_) (a' := ?_) #[true, true, true, true, true, true, true, false, false, false] rfl rfl (take_ofW HT_.out HW_.out (by kernel_rfl)) (fun _ _ _ h => h) (Or.inl ⟨by rfl, ?_⟩) hHeld ?_ ?_
                              rotate_left
                              · rintro w' ⟨s0, s1, s2⟩
                                go_simp
                                with_reducible rfl
                              rotate_left
                              · simp only [Act.put, List.setIfInBounds_toArray, List.set_cons_zero, List.set_cons_succ, i64_w, i32_w]
                                rfl
                              refine pure_ (i := 7) (N := some 152) (v := ?_) (a' := ?_) #[true, true, true, true, true, true, true, true, false, false] rfl rfl (any_of HT_.out (by kernel_rfl)) (fun _ _ _ h => h) (Or.inl ⟨by rfl, ?_⟩) ?_ ?_
                              rotate_left
                              · intro w'
                                go_simp
                                with_reducible rfl
                              rotate_left
                              · simp only [Act.put, List.setIfInBounds_toArray, List.set_cons_zero, List.set_cons_succ, i64_w, i32_w]
                                rfl
                              refine pure_ (i := 8) (N := some 153) (v := ?_) (a' := ?_) #[true, true, true, true, true, true, true, true, true, false] rfl rfl (any_of HT_.out (by kernel_rfl)) (fun _ _ _ h => h) (Or.inl ⟨by rfl, ?_⟩) ?_ ?_
                              rotate_left
                              · intro w'
                                go_simp
                                with_reducible rfl
                              rotate_left
                              · simp only [Act.put, List.setIfInBounds_toArray, List.set_cons_zero, List.set_cons_succ, i64_w, i32_w]
                                rfl
                              refine last_ (i := 9) (N := none) #[true, true, true, true, true, true, true, true, true, true] rfl rfl (one_of HT_.out (by kernel_rfl)) (by decide) (fun K hK => ?_)
                              have hs103 : w102.cell? ⟨gb157, 2, none⟩ = some (.string x158002_2) := (blk_cell BK157.out 2).trans rfl
                              have hfs103 := blk_frozen BK157.out 2
                              have hns103_0 := NB148_157.out
                              have hms103_0 := NB157_148.out
                              refine skip_ (w1 := ?_) (by rfl) rfl ?_ ?_
                              rotate_left
                              · go_simp
                                rfl
                              refine hK.out _ _ ?_
                              clear hK K
                              refine done_ (done_of HT_.out (by kernel_rfl)) ?_
                              try go_wp2
                              go_roundg k2
                              case measure => have := HJ2.out; have := HK2.out; omega
                              case rel => exact ⟨(wrap64 (x1_2 + 1)), (x149000_2), (x149001_2), (x149002_2), (x158002_2 ++ (a0.extract (x1_2 : Int).toNat ((wrap64 (x1_2 + 1)) : Int).toNat)), q3_, H', ⟨by have := HJ2.out; have := HK2.out; omega⟩, ⟨by (with_reducible repeat first | apply bN_ | apply bD_ | apply bA_); refine blk_far ?_ NB148_157.out _; (with_reducible repeat first | apply bN_ | apply bD_ | apply bA_); exact BK148.out⟩, ⟨q58_⟩, ⟨q0_⟩⟩
                            · rw [if_neg c101] at H
                              exact absurd H (by simp)
                          · rw [if_neg c100] at H
                            exact absurd H (by simp)
                        · rw [if_neg c99] at H
                          exact absurd H (by simp)
                    · rw [if_neg c70] at H
                      exact absurd H (by simp)
                  · rw [if_neg c69] at H
                    have c69b0 : decide (x1_2 < (a0.size : Int)) = false := decide_eq_false c69
                    clear c69
                    simp only [Option.some.injEq, Prod.mk.injEq] at H
                    obtain ⟨rfl, rfl, rfl, rfl, rfl⟩ := H
                    have hnb104 := NB148_157.out
                    have hnc104 := NB157_148.out
                    have hcz105_0 : wr.cell? ⟨gb148, 0, none⟩ = some (.int .i64 x149000_2) := (blk_cell BK148.out 0).trans rfl
                    have hcz105_1 : wr.cell? ⟨gb148, 1, none⟩ = some (.int .i64 x149001_2) := (blk_cell BK148.out 1).trans rfl
                    have hcz105_2 : wr.cell? ⟨gb148, 2, none⟩ = some (.string x149002_2) := (blk_cell BK148.out 2).trans rfl
                    have hfz105_0 := blk_frozen BK148.out 0
                    have hfz105_1 := blk_frozen BK148.out 1
                    have hfz105_2 := blk_frozen BK148.out 2
                    go_wp2
                    refine bodyPost_ret (results_ctt rfl _ _ gb148 46 #[.int .i64 0, .int .i64 0, .string (⟨#[]⟩ : ByteArray)] (0, 0) _ rfl q12_ Tryd.underlying46 rfl (by kernel_rfl)) rfl ?_
                    exact ⟨q4_, q0_⟩
            · rw [if_neg c65] at H
              have c65b0 : ((bt a0 a1) == 39) = false := beq_eq_false_iff_ne.mpr c65
              have c65b1 : ((bt a0 a1) != 39) = true := bne_iff_ne.mpr c65
              replace H := Option.bind_eq_some_iff.mp H
              obtain ⟨t159, A1060, H⟩ := H
              replace H : (if t159 = 1 then (corollaryref11_one.l2 kj2 a0 a1 1 0 (⟨#[]⟩ : ByteArray)) else ((corollaryref11_class.f kj2 a0 a1).bind fun t162 => (if t162 = 2 then (corollaryref11_one.l3 kj2 a0 a1 false 2 0 (⟨#[]⟩ : ByteArray)) else (if (wrap64 (a1 + 1)) < (a0.size : Int) then (if 0 ≤ (wrap64 (a1 + 1)) then (corollaryref11_one.j8 kj2 a0 a1 (bt a0 a1) (bt a0 (wrap64 (a1 + 1)))) else (none)) else (corollaryref11_one.j8 kj2 a0 a1 (bt a0 a1) 0))))) = some (r1, r2, r3, r4, r5) := H
              have A106 := Aside0.mk A1060
              clear A1060
              by_cases c107 : t159 = 1
              · rw [if_pos c107] at H
                have c107b0 : (t159 == 1) = true := beq_iff_eq.mpr c107
                have c107b1 : (t159 != 1) = false := bne_eq_false_iff_eq.mpr c107
                clear c107
                have H' := Aside0.mk H
                clear H
                have p64 : 0 ≤ (a1 : Int) := of_decide_eq_true q7_
                have q64 : a1 < (a0.size : Int) := of_decide_eq_true q7_
                have hx64 := bt_at a0 a1
                replace p64 := eq_true p64
                replace q64 := eq_true q64
                go_wp2_with (first | ((with_reducible refine gate_callee (f := 37) rfl ?_); refine goesL_ (some 157) rfl rfl Tryd.func37 (by kernel_rfl) rfl #[.string a0, .int .i64 a1] rfl q2_ ?_; (with_reducible refine (corollaryref11_class.calls kj2 a0 a1 t159 _ A106.out).mono ?_); rintro e w' ⟨rfl, ⟨nd, rfl⟩⟩; refine ⟨_, rfl, ?_⟩; (try (rw [drewN_self wc]; generalize hq_ : World.drewN wc _ = wc; have n0_ : Aside0 (wc.heap[gb148]? = some (.cells #[.int .i64 0, .int .i64 0, .string (⟨#[]⟩ : ByteArray)] 46 (0, 0))) := ⟨q14_⟩; have n1_ : Aside0 (Below w.heap.size w wc) := ⟨q11_⟩; clear BK148 HB hq_; have BK148 := n0_; have HB := n1_; clear n0_ n1_))) | ((with_reducible refine gate_dst (N := 9) rfl ?_); (try (refine gate_guard (by rfl) ?_; dsimp only)); refine box_event ?hg (N := 9) ?hd (cs := #[.int .i64 0, .int .i64 0, .string (⟨#[]⟩ : ByteArray)]) (t := 46) ?hr ?_; (case hd => rfl); (case hg => rfl); (case hr => first | (go_simp; done) | (go_simp; rfl)); intro gb160 hg w108 hbox hb; have n0_ := Aside0.mk (blk_below (g := gb148) (o := .cells #[.int .i64 0, .int .i64 0, .string (⟨#[]⟩ : ByteArray)] 46 (0, 0)) q9_ hb); have n1_ := Aside0.mk (below_step q0_ hb); have n2_ := Aside0.mk (hbox); have n3_ := Aside0.mk ((q1_ : w.heap.size ≤ gb160)); have n4_ := Aside0.mk ((q1_ : w.heap.size ≤ gb160)); have n5_ := Aside0.mk ((q28_ : gb148 ≠ gb160)); have n6_ := Aside0.mk ((q29_ : gb160 ≠ gb148)); clear BK148; clear HB; have BK148 := n0_; have HB := n1_; have BK160 := n2_; have GW160 := n3_; have GE160 := n4_; have NB148_160 := n5_; have NB160_148 := n6_; clear n0_ n1_ n2_ n3_ n4_ n5_ n6_; clear hb hbox hg; have hnb109 := NB160_148.out; have hnc109 := NB148_160.out; have hcz110_0 : w108.cell? ⟨gb160, 0, none⟩ = some (.int .i64 0) := (blk_cell BK160.out 0).trans rfl; have hcz110_1 : w108.cell? ⟨gb160, 1, none⟩ = some (.int .i64 0) := (blk_cell BK160.out 1).trans rfl; have hcz110_2 : w108.cell? ⟨gb160, 2, none⟩ = some (.string (⟨#[]⟩ : ByteArray)) := (blk_cell BK160.out 2).trans rfl; have hfz110_0 := blk_frozen BK160.out 0; have hfz110_1 := blk_frozen BK160.out 1; have hfz110_2 := blk_frozen BK160.out 2))
                go_loopg [1] kj2 (fun kq v1 w' => ∃ (x1_2 : Int) (x161002_2 : ByteArray), v1 = .int .i64 x1_2 ∧ Aside0 (corollaryref11_one.l2 kq a0 x1_2 1 0 x161002_2 = some (r1, r2, r3, r4, r5)) ∧ Aside0 (kq ≤ kj2) ∧ Aside0 (w'.heap[gb148]? = some (.cells #[.int .i64 0, .int .i64 0, .string (⟨#[]⟩ : ByteArray)] 46 (0, 0))) ∧ Aside0 (w'.heap[gb160]? = some (.cells #[.int .i64 1, .int .i64 0, .string x161002_2] 46 (0, 0))) ∧ Aside0 (Below w.heap.size w w'))
                case atStart => exact ⟨(a1), ((⟨#[]⟩ : ByteArray)), q3_, H', ⟨Nat.le_refl _⟩, ⟨by (with_reducible repeat first | apply bN_ | apply bD_ | apply bA_); refine blk_far ?_ NB148_160.out _; (with_reducible repeat first | apply bN_ | apply bD_ | apply bA_); refine blk_far ?_ NB148_160.out _; (with_reducible repeat first | apply bN_ | apply bD_ | apply bA_); refine blk_far ?_ NB148_160.out _; (with_reducible repeat first | apply bN_ | apply bD_ | apply bA_); exact BK148.out⟩, ⟨by (with_reducible repeat first | apply bN_ | apply bD_ | apply bA_); refine blk_put (cs := #[.int .i64 1, .int .i64 0, .string (⟨#[]⟩ : ByteArray)]) ?_ 2 _ rfl; (with_reducible repeat first | apply bN_ | apply bD_ | apply bA_); refine blk_put (cs := #[.int .i64 1, .int .i64 0, .string (⟨#[]⟩ : ByteArray)]) ?_ 1 _ rfl; (with_reducible repeat first | apply bN_ | apply bD_ | apply bA_); refine blk_put (cs := #[.int .i64 0, .int .i64 0, .string (⟨#[]⟩ : ByteArray)]) ?_ 0 _ rfl; (with_reducible repeat first | apply bN_ | apply bD_ | apply bA_); exact BK160.out⟩, ⟨q0_⟩⟩
                case round => as_aux_lemma =>
                  clear H'
                  try clear c1
                  try clear p1
                  try clear q1
                  try clear hx1
                  try clear c2
                  try clear p2
                  try clear q2
                  try clear hx2
                  try clear c3
                  try clear p3
                  try clear q3
                  try clear hx3
                  try clear c4
                  try clear p4
                  try clear q4
                  try clear hx4
                  try clear c5
                  try clear c5b0
                  try clear hcv5
                  try clear c6
                  try clear c6b0
                  try clear p6
                  try clear q6
                  try clear hx6
                  try clear c7
                  try clear p7
                  try clear q7
                  try clear hx7
                  try clear c8
                  try clear c8b0
                  try clear c8b1
                  try clear c9
                  try clear c9b0
                  try clear c10
                  try clear c11
                  try clear c11b0
                  try clear p12
                  try clear q12
                  try clear hx12
                  try clear c13
                  try clear c15
                  try clear c17
                  try clear c18
                  try clear c18b0
                  try clear c19
                  try clear c19b0
                  try clear p20
                  try clear q20
                  try clear hx20
                  try clear c21
                  try clear c23
                  try clear c23b0
                  try clear c24
                  try clear c24b0
                  try clear c25
                  try clear c25b0
                  try clear p26
                  try clear q26
                  try clear hx26
                  try clear c28
                  try clear c28b0
                  try clear c30
                  try clear c30b0
                  try clear c31
                  try clear c31b0
                  try clear p32
                  try clear q32
                  try clear hx32
                  try clear c34
                  try clear c35
                  try clear c36
                  try clear c37
                  try clear c37b0
                  try clear c38
                  try clear c38b0
                  try clear p39
                  try clear q39
                  try clear hx39
                  try clear c42
                  try clear c42b0
                  try clear c43
                  try clear c43b0
                  try clear p44
                  try clear q44
                  try clear hx44
                  try clear c46
                  try clear c46b0
                  try clear c46b1
                  try clear c46b2
                  try clear hcv50
                  try clear c52
                  try clear c52b0
                  try clear c53
                  try clear c55
                  try clear c55b0
                  try clear c55b1
                  try clear c56
                  try clear c59
                  try clear c62
                  try clear c62b0
                  try clear c63
                  try clear c63b0
                  try clear p64
                  try clear q64
                  try clear hx64
                  try clear c65
                  try clear c65b0
                  try clear c65b1
                  try clear c67
                  try clear c69
                  try clear c69b0
                  try clear c70
                  try clear c70b0
                  try clear p71
                  try clear q71
                  try clear hx71
                  try clear c72
                  try clear c72b0
                  try clear c72b1
                  try clear c74
                  try clear c74b0
                  try clear c76
                  try clear c76b0
                  try clear c77
                  try clear c77b0
                  try clear p78
                  try clear q78
                  try clear hx78
                  try clear c79
                  try clear c81
                  try clear c82
                  try clear c87
                  try clear c92
                  try clear c92b0
                  try clear c92b1
                  try clear c93
                  try clear c93b0
                  try clear c93b1
                  try clear c94
                  try clear c94b0
                  try clear c94b1
                  try clear c95
                  try clear c95b0
                  try clear c95b1
                  try clear c95b2
                  try clear c98
                  try clear c98b0
                  try clear c99
                  try clear c99b0
                  try clear c99b1
                  try clear c100
                  try clear c100b0
                  try clear c100b1
                  try clear c101
                  try clear c101b0
                  try clear c101b1
                  try clear c101b2
                  try clear c104
                  try clear c107
                  try clear c107b0
                  try clear c107b1
                  try clear c109
                  try clear hcz105_0
                  try clear hcz105_1
                  try clear hcz105_2
                  try clear hcz110_0
                  try clear hcz110_1
                  try clear hcz110_2
                  try clear hcz16_0
                  try clear hcz16_1
                  try clear hcz16_2
                  try clear hcz36_0
                  try clear hcz36_1
                  try clear hcz36_2
                  try clear hcz54_0
                  try clear hcz54_1
                  try clear hcz54_2
                  try clear hcz57_0
                  try clear hcz57_1
                  try clear hcz57_2
                  try clear hcz58_0
                  try clear hcz58_1
                  try clear hcz58_2
                  try clear hcz60_0
                  try clear hcz60_1
                  try clear hcz60_2
                  try clear hcz61_0
                  try clear hcz61_1
                  try clear hcz61_2
                  try clear hcz68_0
                  try clear hcz68_1
                  try clear hcz68_2
                  try clear hcz83_0
                  try clear hcz83_1
                  try clear hcz83_2
                  try clear hcz85_0
                  try clear hcz85_1
                  try clear hcz85_2
                  try clear hcz86_0
                  try clear hcz86_1
                  try clear hcz86_2
                  try clear hcz88_0
                  try clear hcz88_1
                  try clear hcz88_2
                  try clear hcz90_0
                  try clear hcz90_1
                  try clear hcz90_2
                  try clear hfz105_0
                  try clear hfz105_1
                  try clear hfz105_2
                  try clear hfz110_0
                  try clear hfz110_1
                  try clear hfz110_2
                  try clear hfz16_0
                  try clear hfz16_1
                  try clear hfz16_2
                  try clear hfz36_0
                  try clear hfz36_1
                  try clear hfz36_2
                  try clear hfz54_0
                  try clear hfz54_1
                  try clear hfz54_2
                  try clear hfz57_0
                  try clear hfz57_1
                  try clear hfz57_2
                  try clear hfz58_0
                  try clear hfz58_1
                  try clear hfz58_2
                  try clear hfz60_0
                  try clear hfz60_1
                  try clear hfz60_2
                  try clear hfz61_0
                  try clear hfz61_1
                  try clear hfz61_2
                  try clear hfz68_0
                  try clear hfz68_1
                  try clear hfz68_2
                  try clear hfz83_0
                  try clear hfz83_1
                  try clear hfz83_2
                  try clear hfz85_0
                  try clear hfz85_1
                  try clear hfz85_2
                  try clear hfz86_0
                  try clear hfz86_1
                  try clear hfz86_2
                  try clear hfz88_0
                  try clear hfz88_1
                  try clear hfz88_2
                  try clear hfz90_0
                  try clear hfz90_1
                  try clear hfz90_2
                  try clear p1
                  try clear p12
                  try clear p2
                  try clear p20
                  try clear p26
                  try clear p3
                  try clear p32
                  try clear p39
                  try clear p4
                  try clear p44
                  try clear p6
                  try clear p64
                  try clear p7
                  try clear p71
                  try clear p78
                  try clear q1
                  try clear q12
                  try clear q2
                  try clear q20
                  try clear q26
                  try clear q3
                  try clear q32
                  try clear q39
                  try clear q4
                  try clear q44
                  try clear q6
                  try clear q64
                  try clear q7
                  try clear q71
                  try clear q78
                  obtain ⟨x1_2, x161002_2, rfl, HA, HK2, BK148, BK160, HB⟩ := hrel
                  cases gk with
                  | zero => exact absurd HA.out (by simp [corollaryref11_one.l2])
                  | succ k2 =>
                    have H := HA.out
                    clear HA
                    simp only [corollaryref11_one.l2] at H
                    replace H := Option.bind_eq_some_iff.mp H
                    obtain ⟨t161, A1110, H⟩ := H
                    replace H : (if t161 > 0 then (if 0 ≤ x1_2 then (if x1_2 ≤ (wrap64 (x1_2 + 1)) then (if (wrap64 (x1_2 + 1)) ≤ (a0.size : Int) then (if x161002_2.size + (a0.extract (x1_2 : Int).toNat ((wrap64 (x1_2 + 1)) : Int).toNat).size ≤ 9223372036854775807 then (corollaryref11_one.l2 k2 a0 (wrap64 (x1_2 + 1)) 1 0 (x161002_2 ++ (a0.extract (x1_2 : Int).toNat ((wrap64 (x1_2 + 1)) : Int).toNat))) else (none)) else (none)) else (none)) else (none)) else (some (1, 0, x161002_2, x1_2, 0))) = some (r1, r2, r3, r4, r5) := H
                    have A111 := Aside0.mk A1110
                    clear A1110
                    by_cases c112 : t161 > 0
                    · rw [if_pos c112] at H
                      have c112b0 : decide (0 < t161) = true := decide_eq_true c112
                      clear c112
                      by_cases c113 : 0 ≤ x1_2
                      · rw [if_pos c113] at H
                        have c113b0 := eq_true c113
                        have c113b1 : decide (0 ≤ x1_2) = true := decide_eq_true c113
                        clear c113
                        by_cases c114 : x1_2 ≤ (wrap64 (x1_2 + 1))
                        · rw [if_pos c114] at H
                          have c114b0 := eq_true c114
                          have c114b1 : decide (x1_2 ≤ (wrap64 (x1_2 + 1))) = true := decide_eq_true c114
                          by_cases c115 : (wrap64 (x1_2 + 1)) ≤ (a0.size : Int)
                          · rw [if_pos c115] at H
                            have c115b0 := eq_true c115
                            have c115b1 : decide ((wrap64 (x1_2 + 1)) ≤ (a0.size : Int)) = true := decide_eq_true c115
                            by_cases c116 : x161002_2.size + (a0.extract (x1_2 : Int).toNat ((wrap64 (x1_2 + 1)) : Int).toNat).size ≤ 9223372036854775807
                            · rw [if_pos c116] at H
                              have c116b0 := eq_true c116
                              have c116b1 : decide (x161002_2.size + (a0.extract (x1_2 : Int).toNat ((wrap64 (x1_2 + 1)) : Int).toNat).size ≤ 9223372036854775807) = true := decide_eq_true c116
                              try have c116b2 : (9223372036854775807 < x161002_2.size + (a0.extract (x1_2 : Int).toNat ((wrap64 (x1_2 + 1)) : Int).toNat).size) = False := eq_false (Nat.not_lt.2 c116)
                              (try (have c116b5 : (9223372036854775807 < x161002_2.size + (((wrap64 (x1_2 + 1)) : Int).toNat - (x1_2 : Int).toNat)) = False := eq_false (by have hq_ := c116; (try simp only [ByteArray.size_append, ByteArray.size_extract] at hq_); first | omega | (simp only [decide_eq_true_eq] at *; omega))))
                              have H' := Aside0.mk H
                              clear H
                              try go_wp2_with (first | ((with_reducible refine gate_callee (f := 37) rfl ?_); refine goesL_ (some 162) rfl rfl Tryd.func37 (by kernel_rfl) rfl #[.string a0, .int .i64 x1_2] rfl q2_ ?_; (with_reducible refine (corollaryref11_class.calls k2 a0 x1_2 t161 _ A111.out).mono ?_); rintro e w' ⟨rfl, ⟨nd, rfl⟩⟩; refine ⟨_, rfl, ?_⟩; (try (rw [drewN_self wr]; generalize hq_ : World.drewN wr _ = wr; have n0_ : Aside0 (wr.heap[gb148]? = some (.cells #[.int .i64 0, .int .i64 0, .string (⟨#[]⟩ : ByteArray)] 46 (0, 0))) := ⟨q14_⟩; have n1_ : Aside0 (wr.heap[gb160]? = some (.cells #[.int .i64 1, .int .i64 0, .string x161002_2] 46 (0, 0))) := ⟨by rw [← hq_]; exact (by (with_reducible repeat first | apply bN_ | apply bD_ | apply bA_); exact BK160.out)⟩; have n2_ : Aside0 (Below w.heap.size w wr) := ⟨q11_⟩; clear BK148 BK160 HB hq_; have BK148 := n0_; have BK160 := n1_; have HB := n2_; clear n0_ n1_ n2_))))
                              have n0_ := Aside0.mk (blk_drew BK148.out)
                              have n1_ := Aside0.mk (blk_drew BK160.out)
                              have n2_ := Aside0.mk (below_drew1 HB.out)
                              clear BK148
                              clear BK160
                              clear HB
                              have BK148 := n0_
                              have BK160 := n1_
                              have HB := n2_
                              clear n0_ n1_ n2_
                              refine start_ (n := 10) (S := fun w' => w'.cell? ⟨gb160, 0, none⟩ = some (.int .i64 1) ∧ w'.cell? ⟨gb160, 1, none⟩ = some (.int .i64 0) ∧ w'.cell? ⟨gb160, 2, none⟩ = some (.string x161002_2)) (ds := [9]) #[false, false, false, false, false, false, false, false, false, false] (by kernel_rfl) rfl rfl ⟨(blk_cell BK160.out 0).trans rfl, (blk_cell BK160.out 1).trans rfl, (blk_cell BK160.out 2).trans rfl⟩ (fun hHeld => ?_); refine with_tabW corollaryref11_one.tab28 corollaryref11_one.bits28 (fun HT_ HW_ => ?_)
                              generalize wr.drew = w117 at BK148 BK160 HB hHeld ⊢
                              refine pure_ (i := 0) (N := some 164) (v := ?_) (a' := ?_) #[true, false, false, false, false, false, false, false, false, false] rfl rfl (any_of HT_.out (by kernel_rfl)) (fun _ _ _ h => h) (Or.inl ⟨by rfl, ?_⟩) ?_ ?_
                              rotate_left
                              · intro w'
                                go_simp
                                with_reducible rfl
                              rotate_left
                              · simp only [Act.put, List.setIfInBounds_toArray, List.set_cons_zero, List.set_cons_succ, i64_w, i32_w]
                                rfl
                              refine pure_ (i := 2) (N := some 166) (v := ?_) (a' := ?_) #[true, false, true, false, false, false, false, false, false, false] rfl rfl (any_of HT_.out (by kernel_rfl)) (fun _ _ _ h => h) (Or.inl ⟨by rfl, ?_⟩) ?_ ?_
                              rotate_left
                              · intro w'
                                go_simp
                                with_reducible rfl
                              rotate_left
                              · simp only [Act.put, List.setIfInBounds_toArray, List.set_cons_zero, List.set_cons_succ, i64_w, i32_w]
                                rfl
                              refine pure_ (i := 3) (N := some 167) (v := ?_) (a' := ?_) #[true, false, true, true, false, false, false, false, false, false] rfl rfl (any_of HT_.out (by kernel_rfl)) (fun _ _ _ h => h) (Or.inl ⟨by rfl, ?_⟩) ?_ ?_
                              rotate_left
                              · intro w'
                                go_simp
                                with_reducible rfl
                              rotate_left
                              · simp only [Act.put, List.setIfInBounds_toArray, List.set_cons_zero, List.set_cons_succ, i64_w, i32_w]
                                rfl
                              refine pure_ (i := 4) (N := some 168) (v := ?_) (a' := ?_) #[true, false, true, true, true, false, false, false, false, false] rfl rfl (any_of HT_.out (by kernel_rfl)) (fun _ _ _ h => h) (Or.inl ⟨by rfl, ?_⟩) ?_ ?_
                              rotate_left
                              · intro w'
                                go_simp
                                with_reducible rfl
                              rotate_left
                              · simp only [Act.put, List.setIfInBounds_toArray, List.set_cons_zero, List.set_cons_succ, i64_w, i32_w]
                                rfl
                              refine pure_ (i := 5) (N := some 169) (v := ?_) (a' := ?_) #[true, false, true, true, true, true, false, false, false, false] rfl rfl (any_of HT_.out (by kernel_rfl)) (fun _ _ _ h => h) (Or.inl ⟨by rfl, ?_⟩) ?_ ?_
                              rotate_left
                              · intro w'
                                go_simp
                                with_reducible rfl
                              rotate_left
                              · simp only [Act.put, List.setIfInBounds_toArray, List.set_cons_zero, List.set_cons_succ, i64_w, i32_w]
                                rfl
                              refine pure_ (i := 6) (N := some 170) (v := ?_) (a' := ?_) #[true, false, true, true, true, true, true, false, false, false] rfl rfl (any_of HT_.out (by kernel_rfl)) (fun _ _ _ h => h) (Or.inl ⟨by rfl, ?_⟩) ?_ ?_
                              rotate_left
                              · intro w'
                                go_simp
                                with_reducible rfl
                              rotate_left
                              · simp only [Act.put, List.setIfInBounds_toArray, List.set_cons_zero, List.set_cons_succ, i64_w, i32_w]
                                rfl
                              refine take_ (i := 1) (N := some 165) (v := ?_) (a' := ?_) #[true, true, true, true, true, true, true, false, false, false] rfl rfl (take_ofW HT_.out HW_.out (by kernel_rfl)) (fun _ _ _ h => h) (Or.inl ⟨by rfl, ?_⟩) hHeld ?_ ?_
                              rotate_left
                              · rintro w' ⟨s0, s1, s2⟩
                                go_simp
                                with_reducible rfl
                              rotate_left
                              · simp only [Act.put, List.setIfInBounds_toArray, List.set_cons_zero, List.set_cons_succ, i64_w, i32_w]
                                rfl
                              refine pure_ (i := 7) (N := some 171) (v := ?_) (a' := ?_) #[true, true, true, true, true, true, true, true, false, false] rfl rfl (any_of HT_.out (by kernel_rfl)) (fun _ _ _ h => h) (Or.inl ⟨by rfl, ?_⟩) ?_ ?_
                              rotate_left
                              · intro w'
                                go_simp
                                with_reducible rfl
                              rotate_left
                              · simp only [Act.put, List.setIfInBounds_toArray, List.set_cons_zero, List.set_cons_succ, i64_w, i32_w]
                                rfl
                              refine pure_ (i := 8) (N := some 172) (v := ?_) (a' := ?_) #[true, true, true, true, true, true, true, true, true, false] rfl rfl (any_of HT_.out (by kernel_rfl)) (fun _ _ _ h => h) (Or.inl ⟨by rfl, ?_⟩) ?_ ?_
                              rotate_left
                              · intro w'
                                go_simp
                                with_reducible rfl
                              rotate_left
                              · simp only [Act.put, List.setIfInBounds_toArray, List.set_cons_zero, List.set_cons_succ, i64_w, i32_w]
                                rfl
                              refine last_ (i := 9) (N := none) #[true, true, true, true, true, true, true, true, true, true] rfl rfl (one_of HT_.out (by kernel_rfl)) (by decide) (fun K hK => ?_)
                              have hs118 : w117.cell? ⟨gb160, 2, none⟩ = some (.string x161002_2) := (blk_cell BK160.out 2).trans rfl
                              have hfs118 := blk_frozen BK160.out 2
                              have hns118_0 := NB148_160.out
                              have hms118_0 := NB160_148.out
                              refine skip_ (w1 := ?_) (by rfl) rfl ?_ ?_
                              rotate_left
                              · go_simp
                                rfl
                              refine hK.out _ _ ?_
                              clear hK K
                              refine done_ (done_of HT_.out (by kernel_rfl)) ?_
                              try go_wp2
                              go_roundg k2
                              case measure => have := HJ2.out; have := HK2.out; omega
                              case rel => exact ⟨(wrap64 (x1_2 + 1)), (x161002_2 ++ (a0.extract (x1_2 : Int).toNat ((wrap64 (x1_2 + 1)) : Int).toNat)), q3_, H', ⟨by have := HJ2.out; have := HK2.out; omega⟩, ⟨by (with_reducible repeat first | apply bN_ | apply bD_ | apply bA_); refine blk_far ?_ NB148_160.out _; (with_reducible repeat first | apply bN_ | apply bD_ | apply bA_); exact BK148.out⟩, ⟨by (with_reducible repeat first | apply bN_ | apply bD_ | apply bA_); refine blk_put (cs := #[.int .i64 1, .int .i64 0, .string x161002_2]) ?_ 2 _ rfl; (with_reducible repeat first | apply bN_ | apply bD_ | apply bA_); exact BK160.out⟩, ⟨q0_⟩⟩
                            · rw [if_neg c116] at H
                              exact absurd H (by simp)
                          · rw [if_neg c115] at H
                            exact absurd H (by simp)
                        · rw [if_neg c114] at H
                          exact absurd H (by simp)
                      · rw [if_neg c113] at H
                        exact absurd H (by simp)
                    · rw [if_neg c112] at H
                      have c112b0 : decide (0 < t161) = false := decide_eq_false c112
                      clear c112
                      simp only [Option.some.injEq, Prod.mk.injEq] at H
                      obtain ⟨rfl, rfl, rfl, rfl, rfl⟩ := H
                      go_wp2_with (first | ((with_reducible refine gate_callee (f := 37) rfl ?_); refine goesL_ (some 162) rfl rfl Tryd.func37 (by kernel_rfl) rfl #[.string a0, .int .i64 x1_2] rfl q2_ ?_; (with_reducible refine (corollaryref11_class.calls k2 a0 x1_2 t161 _ A111.out).mono ?_); rintro e w' ⟨rfl, ⟨nd, rfl⟩⟩; refine ⟨_, rfl, ?_⟩; (try (rw [drewN_self wr]; generalize hq_ : World.drewN wr _ = wr; have n0_ : Aside0 (wr.heap[gb148]? = some (.cells #[.int .i64 0, .int .i64 0, .string (⟨#[]⟩ : ByteArray)] 46 (0, 0))) := ⟨q14_⟩; have n1_ : Aside0 (wr.heap[gb160]? = some (.cells #[.int .i64 1, .int .i64 0, .string x161002_2] 46 (0, 0))) := ⟨by rw [← hq_]; exact (by (with_reducible repeat first | apply bN_ | apply bD_ | apply bA_); exact BK160.out)⟩; have n2_ : Aside0 (Below w.heap.size w wr) := ⟨q11_⟩; clear BK148 BK160 HB hq_; have BK148 := n0_; have BK160 := n1_; have HB := n2_; clear n0_ n1_ n2_)); have hnb119 := NB160_148.out; have hnc119 := NB148_160.out; have hcz120_0 : wr.cell? ⟨gb160, 0, none⟩ = some (.int .i64 1) := (blk_cell BK160.out 0).trans rfl; have hcz120_1 : wr.cell? ⟨gb160, 1, none⟩ = some (.int .i64 0) := (blk_cell BK160.out 1).trans rfl; have hcz120_2 : wr.cell? ⟨gb160, 2, none⟩ = some (.string x161002_2) := (blk_cell BK160.out 2).trans rfl; have hfz120_0 := blk_frozen BK160.out 0; have hfz120_1 := blk_frozen BK160.out 1; have hfz120_2 := blk_frozen BK160.out 2; have hcz121_0 : wr.cell? ⟨gb148, 0, none⟩ = some (.int .i64 0) := (blk_cell BK148.out 0).trans rfl; have hcz121_1 : wr.cell? ⟨gb148, 1, none⟩ = some (.int .i64 0) := (blk_cell BK148.out 1).trans rfl; have hcz121_2 : wr.cell? ⟨gb148, 2, none⟩ = some (.string (⟨#[]⟩ : ByteArray)) := (blk_cell BK148.out 2).trans rfl; have hfz121_0 := blk_frozen BK148.out 0; have hfz121_1 := blk_frozen BK148.out 1; have hfz121_2 := blk_frozen BK148.out 2))
                      refine bodyPost_ret (results_ctt rfl _ _ gb148 46 #[.int .i64 1, .int .i64 0, .string x161002_2] (0, 0) _ rfl (by (with_reducible repeat first | apply bN_ | apply bD_ | apply bA_); refine blk_put (cs := #[.int .i64 1, .int .i64 0, .string (⟨#[]⟩ : ByteArray)]) ?_ 2 _ rfl; (with_reducible repeat first | apply bN_ | apply bD_ | apply bA_); refine blk_put (cs := #[.int .i64 1, .int .i64 0, .string (⟨#[]⟩ : ByteArray)]) ?_ 1 _ rfl; (with_reducible repeat first | apply bN_ | apply bD_ | apply bA_); refine blk_put (cs := #[.int .i64 0, .int .i64 0, .string (⟨#[]⟩ : ByteArray)]) ?_ 0 _ rfl; (with_reducible repeat first | apply bN_ | apply bD_ | apply bA_); exact BK148.out) Tryd.underlying46 rfl (by kernel_rfl)) rfl ?_
                      exact ⟨q4_, q0_⟩
              · rw [if_neg c107] at H
                have c107b0 : (t159 == 1) = false := beq_eq_false_iff_ne.mpr c107
                have c107b1 : (t159 != 1) = true := bne_iff_ne.mpr c107
                replace H := Option.bind_eq_some_iff.mp H
                obtain ⟨t162, A1220, H⟩ := H
                replace H : (if t162 = 2 then (corollaryref11_one.l3 kj2 a0 a1 false 2 0 (⟨#[]⟩ : ByteArray)) else (if (wrap64 (a1 + 1)) < (a0.size : Int) then (if 0 ≤ (wrap64 (a1 + 1)) then (corollaryref11_one.j8 kj2 a0 a1 (bt a0 a1) (bt a0 (wrap64 (a1 + 1)))) else (none)) else (corollaryref11_one.j8 kj2 a0 a1 (bt a0 a1) 0))) = some (r1, r2, r3, r4, r5) := H
                have A122 := Aside0.mk A1220
                clear A1220
                by_cases c123 : t162 = 2
                · rw [if_pos c123] at H
                  have c123b0 : (t162 == 2) = true := beq_iff_eq.mpr c123
                  have c123b1 : (t162 != 2) = false := bne_eq_false_iff_eq.mpr c123
                  clear c123
                  have H' := Aside0.mk H
                  clear H
                  have p64 : 0 ≤ (a1 : Int) := of_decide_eq_true q7_
                  have q64 : a1 < (a0.size : Int) := of_decide_eq_true q7_
                  have hx64 := bt_at a0 a1
                  replace p64 := eq_true p64
                  replace q64 := eq_true q64
                  go_wp2_with (first | ((with_reducible refine gate_callee (f := 37) rfl ?_); refine goesL_ (some 157) rfl rfl Tryd.func37 (by kernel_rfl) rfl #[.string a0, .int .i64 a1] rfl q2_ ?_; (with_reducible refine (corollaryref11_class.calls kj2 a0 a1 t159 _ A106.out).mono ?_); rintro e w' ⟨rfl, ⟨nd, rfl⟩⟩; refine ⟨_, rfl, ?_⟩; (try (rw [drewN_self wc]; generalize hq_ : World.drewN wc _ = wc; have n0_ : Aside0 (wc.heap[gb148]? = some (.cells #[.int .i64 0, .int .i64 0, .string (⟨#[]⟩ : ByteArray)] 46 (0, 0))) := ⟨q14_⟩; have n1_ : Aside0 (Below w.heap.size w wc) := ⟨q11_⟩; clear BK148 HB hq_; have BK148 := n0_; have HB := n1_; clear n0_ n1_))) | ((with_reducible refine gate_callee (f := 37) rfl ?_); refine goesL_ (some 179) rfl rfl Tryd.func37 (by kernel_rfl) rfl #[.string a0, .int .i64 a1] rfl q2_ ?_; (with_reducible refine (corollaryref11_class.calls kj2 a0 a1 t162 _ A122.out).mono ?_); rintro e w' ⟨rfl, ⟨nd, rfl⟩⟩; refine ⟨_, rfl, ?_⟩; (try (rw [drewN_self wc]; generalize hq_ : World.drewN wc _ = wc; have n0_ : Aside0 (wc.heap[gb148]? = some (.cells #[.int .i64 0, .int .i64 0, .string (⟨#[]⟩ : ByteArray)] 46 (0, 0))) := ⟨q14_⟩; have n1_ : Aside0 (Below w.heap.size w wc) := ⟨q11_⟩; clear BK148 HB hq_; have BK148 := n0_; have HB := n1_; clear n0_ n1_))) | ((with_reducible refine gate_dst (N := 10) rfl ?_); (try (refine gate_guard (by rfl) ?_; dsimp only)); refine box_event ?hg (N := 10) ?hd (cs := #[.int .i64 0, .int .i64 0, .string (⟨#[]⟩ : ByteArray)]) (t := 46) ?hr ?_; (case hd => rfl); (case hg => rfl); (case hr => first | (go_simp; done) | (go_simp; rfl)); intro gb163 hg w124 hbox hb; have n0_ := Aside0.mk (blk_below (g := gb148) (o := .cells #[.int .i64 0, .int .i64 0, .string (⟨#[]⟩ : ByteArray)] 46 (0, 0)) q9_ hb); have n1_ := Aside0.mk (below_step q0_ hb); have n2_ := Aside0.mk (hbox); have n3_ := Aside0.mk ((q1_ : w.heap.size ≤ gb163)); have n4_ := Aside0.mk ((q1_ : w.heap.size ≤ gb163)); have n5_ := Aside0.mk ((q28_ : gb148 ≠ gb163)); have n6_ := Aside0.mk ((q29_ : gb163 ≠ gb148)); clear BK148; clear HB; have BK148 := n0_; have HB := n1_; have BK163 := n2_; have GW163 := n3_; have GE163 := n4_; have NB148_163 := n5_; have NB163_148 := n6_; clear n0_ n1_ n2_ n3_ n4_ n5_ n6_; clear hb hbox hg; have hnb125 := NB163_148.out; have hnc125 := NB148_163.out; have hcz126_0 : w124.cell? ⟨gb163, 0, none⟩ = some (.int .i64 0) := (blk_cell BK163.out 0).trans rfl; have hcz126_1 : w124.cell? ⟨gb163, 1, none⟩ = some (.int .i64 0) := (blk_cell BK163.out 1).trans rfl; have hcz126_2 : w124.cell? ⟨gb163, 2, none⟩ = some (.string (⟨#[]⟩ : ByteArray)) := (blk_cell BK163.out 2).trans rfl; have hfz126_0 := blk_frozen BK163.out 0; have hfz126_1 := blk_frozen BK163.out 1; have hfz126_2 := blk_frozen BK163.out 2))
                  go_loopg [1, 11] kj2 (fun kq v1 v11 w' => ∃ (x1_2 : Int) (x11_2 : Bool) (x164001_2 : Int), v1 = .int .i64 x1_2 ∧ v11 = .bool x11_2 ∧ Aside0 (corollaryref11_one.l3 kq a0 x1_2 x11_2 2 x164001_2 (⟨#[]⟩ : ByteArray) = some (r1, r2, r3, r4, r5)) ∧ Aside0 (kq ≤ kj2) ∧ Aside0 (w'.heap[gb148]? = some (.cells #[.int .i64 0, .int .i64 0, .string (⟨#[]⟩ : ByteArray)] 46 (0, 0))) ∧ Aside0 (w'.heap[gb163]? = some (.cells #[.int .i64 2, .int .i64 x164001_2, .string (⟨#[]⟩ : ByteArray)] 46 (0, 0))) ∧ Aside0 (Below w.heap.size w w'))
                  case atStart => exact ⟨(a1), (false), (0), q3_, q3_, H', ⟨Nat.le_refl _⟩, ⟨by (with_reducible repeat first | apply bN_ | apply bD_ | apply bA_); refine blk_far ?_ NB148_163.out _; (with_reducible repeat first | apply bN_ | apply bD_ | apply bA_); refine blk_far ?_ NB148_163.out _; (with_reducible repeat first | apply bN_ | apply bD_ | apply bA_); refine blk_far ?_ NB148_163.out _; (with_reducible repeat first | apply bN_ | apply bD_ | apply bA_); exact BK148.out⟩, ⟨by (with_reducible repeat first | apply bN_ | apply bD_ | apply bA_); refine blk_put (cs := #[.int .i64 2, .int .i64 0, .string (⟨#[]⟩ : ByteArray)]) ?_ 2 _ rfl; (with_reducible repeat first | apply bN_ | apply bD_ | apply bA_); refine blk_put (cs := #[.int .i64 2, .int .i64 0, .string (⟨#[]⟩ : ByteArray)]) ?_ 1 _ rfl; (with_reducible repeat first | apply bN_ | apply bD_ | apply bA_); refine blk_put (cs := #[.int .i64 0, .int .i64 0, .string (⟨#[]⟩ : ByteArray)]) ?_ 0 _ rfl; (with_reducible repeat first | apply bN_ | apply bD_ | apply bA_); exact BK163.out⟩, ⟨q0_⟩⟩
                  case round => as_aux_lemma =>
                    clear H'
                    try clear c1
                    try clear p1
                    try clear q1
                    try clear hx1
                    try clear c2
                    try clear p2
                    try clear q2
                    try clear hx2
                    try clear c3
                    try clear p3
                    try clear q3
                    try clear hx3
                    try clear c4
                    try clear p4
                    try clear q4
                    try clear hx4
                    try clear c5
                    try clear c5b0
                    try clear hcv5
                    try clear c6
                    try clear c6b0
                    try clear p6
                    try clear q6
                    try clear hx6
                    try clear c7
                    try clear p7
                    try clear q7
                    try clear hx7
                    try clear c8
                    try clear c8b0
                    try clear c8b1
                    try clear c9
                    try clear c9b0
                    try clear c10
                    try clear c11
                    try clear c11b0
                    try clear c12
                    try clear p12
                    try clear q12
                    try clear hx12
                    try clear c13
                    try clear c15
                    try clear c17
                    try clear c18
                    try clear c18b0
                    try clear c19
                    try clear c19b0
                    try clear p20
                    try clear q20
                    try clear hx20
                    try clear c21
                    try clear c23
                    try clear c23b0
                    try clear c24
                    try clear c24b0
                    try clear c25
                    try clear c25b0
                    try clear p26
                    try clear q26
                    try clear hx26
                    try clear c28
                    try clear c28b0
                    try clear c30
                    try clear c30b0
                    try clear c31
                    try clear c31b0
                    try clear p32
                    try clear q32
                    try clear hx32
                    try clear c34
                    try clear c35
                    try clear c36
                    try clear c37
                    try clear c37b0
                    try clear c38
                    try clear c38b0
                    try clear p39
                    try clear q39
                    try clear hx39
                    try clear c42
                    try clear c42b0
                    try clear c43
                    try clear c43b0
                    try clear p44
                    try clear q44
                    try clear hx44
                    try clear c46
                    try clear c46b0
                    try clear c46b1
                    try clear c46b2
                    try clear hcv50
                    try clear c52
                    try clear c52b0
                    try clear c53
                    try clear c55
                    try clear c55b0
                    try clear c55b1
                    try clear c56
                    try clear c59
                    try clear c62
                    try clear c62b0
                    try clear c63
                    try clear c63b0
                    try clear p64
                    try clear q64
                    try clear hx64
                    try clear c65
                    try clear c65b0
                    try clear c65b1
                    try clear c67
                    try clear c69
                    try clear c69b0
                    try clear c70
                    try clear c70b0
                    try clear p71
                    try clear q71
                    try clear hx71
                    try clear c72
                    try clear c72b0
                    try clear c72b1
                    try clear c74
                    try clear c74b0
                    try clear c76
                    try clear c76b0
                    try clear c77
                    try clear c77b0
                    try clear p78
                    try clear q78
                    try clear hx78
                    try clear c79
                    try clear c81
                    try clear c82
                    try clear c87
                    try clear c92
                    try clear c92b0
                    try clear c92b1
                    try clear c93
                    try clear c93b0
                    try clear c93b1
                    try clear c94
                    try clear c94b0
                    try clear c94b1
                    try clear c95
                    try clear c95b0
                    try clear c95b1
                    try clear c95b2
                    try clear c98
                    try clear c98b0
                    try clear c99
                    try clear c99b0
                    try clear c99b1
                    try clear c100
                    try clear c100b0
                    try clear c100b1
                    try clear c101
                    try clear c101b0
                    try clear c101b1
                    try clear c101b2
                    try clear c104
                    try clear c107
                    try clear c107b0
                    try clear c107b1
                    try clear c109
                    try clear c112
                    try clear c112b0
                    try clear c113
                    try clear c113b0
                    try clear c113b1
                    try clear c114
                    try clear c114b0
                    try clear c114b1
                    try clear c115
                    try clear c115b0
                    try clear c115b1
                    try clear c116
                    try clear c116b0
                    try clear c116b1
                    try clear c116b2
                    try clear c119
                    try clear c123
                    try clear c123b0
                    try clear c123b1
                    try clear c125
                    try clear hcz105_0
                    try clear hcz105_1
                    try clear hcz105_2
                    try clear hcz110_0
                    try clear hcz110_1
                    try clear hcz110_2
                    try clear hcz120_0
                    try clear hcz120_1
                    try clear hcz120_2
                    try clear hcz121_0
                    try clear hcz121_1
                    try clear hcz121_2
                    try clear hcz126_0
                    try clear hcz126_1
                    try clear hcz126_2
                    try clear hcz16_0
                    try clear hcz16_1
                    try clear hcz16_2
                    try clear hcz36_0
                    try clear hcz36_1
                    try clear hcz36_2
                    try clear hcz54_0
                    try clear hcz54_1
                    try clear hcz54_2
                    try clear hcz57_0
                    try clear hcz57_1
                    try clear hcz57_2
                    try clear hcz58_0
                    try clear hcz58_1
                    try clear hcz58_2
                    try clear hcz60_0
                    try clear hcz60_1
                    try clear hcz60_2
                    try clear hcz61_0
                    try clear hcz61_1
                    try clear hcz61_2
                    try clear hcz68_0
                    try clear hcz68_1
                    try clear hcz68_2
                    try clear hcz83_0
                    try clear hcz83_1
                    try clear hcz83_2
                    try clear hcz85_0
                    try clear hcz85_1
                    try clear hcz85_2
                    try clear hcz86_0
                    try clear hcz86_1
                    try clear hcz86_2
                    try clear hcz88_0
                    try clear hcz88_1
                    try clear hcz88_2
                    try clear hcz90_0
                    try clear hcz90_1
                    try clear hcz90_2
                    try clear hfz105_0
                    try clear hfz105_1
                    try clear hfz105_2
                    try clear hfz110_0
                    try clear hfz110_1
                    try clear hfz110_2
                    try clear hfz120_0
                    try clear hfz120_1
                    try clear hfz120_2
                    try clear hfz121_0
                    try clear hfz121_1
                    try clear hfz121_2
                    try clear hfz126_0
                    try clear hfz126_1
                    try clear hfz126_2
                    try clear hfz16_0
                    try clear hfz16_1
                    try clear hfz16_2
                    try clear hfz36_0
                    try clear hfz36_1
                    try clear hfz36_2
                    try clear hfz54_0
                    try clear hfz54_1
                    try clear hfz54_2
                    try clear hfz57_0
                    try clear hfz57_1
                    try clear hfz57_2
                    try clear hfz58_0
                    try clear hfz58_1
                    try clear hfz58_2
                    try clear hfz60_0
                    try clear hfz60_1
                    try clear hfz60_2
                    try clear hfz61_0
                    try clear hfz61_1
                    try clear hfz61_2
                    try clear hfz68_0
                    try clear hfz68_1
                    try clear hfz68_2
                    try clear hfz83_0
                    try clear hfz83_1
                    try clear hfz83_2
                    try clear hfz85_0
                    try clear hfz85_1
                    try clear hfz85_2
                    try clear hfz86_0
                    try clear hfz86_1
                    try clear hfz86_2
                    try clear hfz88_0
                    try clear hfz88_1
                    try clear hfz88_2
                    try clear hfz90_0
                    try clear hfz90_1
                    try clear hfz90_2
                    try clear p1
                    try clear p12
                    try clear p2
                    try clear p20
                    try clear p26
                    try clear p3
                    try clear p32
                    try clear p39
                    try clear p4
                    try clear p44
                    try clear p6
                    try clear p64
                    try clear p7
                    try clear p71
                    try clear p78
                    try clear q1
                    try clear q12
                    try clear q2
                    try clear q20
                    try clear q26
                    try clear q3
                    try clear q32
                    try clear q39
                    try clear q4
                    try clear q44
                    try clear q6
                    try clear q64
                    try clear q7
                    try clear q71
                    try clear q78
                    obtain ⟨x1_2, x11_2, x164001_2, rfl, rfl, HA, HK2, BK148, BK163, HB⟩ := hrel
                    cases gk with
                    | zero => exact absurd HA.out (by simp [corollaryref11_one.l3])
                    | succ k2 =>
                      have H := HA.out
                      clear HA
                      simp only [corollaryref11_one.l3] at H
                      replace H := Option.bind_eq_some_iff.mp H
                      obtain ⟨t164, A1270, H⟩ := H
                      replace H : (if t164 = 2 then (if 0 ≤ x1_2 then (if x1_2 < (a0.size : Int) then ((corollaryref01_Times.f k2 x164001_2 10).bind fun bt165 => ((corollaryref01_Sum.f bt165.1 (((bt a0 x1_2) - 48) % 256)).bind fun bt167 => (if x11_2 = true then (corollaryref11_one.l3 k2 a0 (wrap64 (x1_2 + 1)) true 2 bt167.1 (⟨#[]⟩ : ByteArray)) else (if bt165.2 = true then (corollaryref11_one.l3 k2 a0 (wrap64 (x1_2 + 1)) (!bt167.2) 2 bt167.1 (⟨#[]⟩ : ByteArray)) else (corollaryref11_one.l3 k2 a0 (wrap64 (x1_2 + 1)) true 2 bt167.1 (⟨#[]⟩ : ByteArray)))))) else (none)) else (none)) else (if x11_2 = true then (some (0, 0, (⟨#[]⟩ : ByteArray), 0, 14)) else (some (2, x164001_2, (⟨#[]⟩ : ByteArray), x1_2, 0)))) = some (r1, r2, r3, r4, r5) := H
                      have A127 := Aside0.mk A1270
                      clear A1270
                      by_cases c128 : t164 = 2
                      · rw [if_pos c128] at H
                        have c128b0 : (t164 == 2) = true := beq_iff_eq.mpr c128
                        have c128b1 : (t164 != 2) = false := bne_eq_false_iff_eq.mpr c128
                        clear c128
                        by_cases c129 : 0 ≤ x1_2
                        · rw [if_pos c129] at H
                          have c129b0 : decide (0 ≤ x1_2) = true := decide_eq_true c129
                          clear c129
                          by_cases c130 : x1_2 < (a0.size : Int)
                          · rw [if_pos c130] at H
                            have c130b0 : decide (x1_2 < (a0.size : Int)) = true := decide_eq_true c130
                            clear c130
                            replace H := Option.bind_eq_some_iff.mp H
                            obtain ⟨⟨t165, t166⟩, A1320, H⟩ := H
                            replace H : ((corollaryref01_Sum.f t165 (((bt a0 x1_2) - 48) % 256)).bind fun bt167 => (if x11_2 = true then (corollaryref11_one.l3 k2 a0 (wrap64 (x1_2 + 1)) true 2 bt167.1 (⟨#[]⟩ : ByteArray)) else (if t166 = true then (corollaryref11_one.l3 k2 a0 (wrap64 (x1_2 + 1)) (!bt167.2) 2 bt167.1 (⟨#[]⟩ : ByteArray)) else (corollaryref11_one.l3 k2 a0 (wrap64 (x1_2 + 1)) true 2 bt167.1 (⟨#[]⟩ : ByteArray))))) = some (r1, r2, r3, r4, r5) := H
                            have A132 := Aside0.mk A1320
                            clear A1320
                            replace H := Option.bind_eq_some_iff.mp H
                            obtain ⟨⟨t167, t168⟩, A1330, H⟩ := H
                            replace H : (if x11_2 = true then (corollaryref11_one.l3 k2 a0 (wrap64 (x1_2 + 1)) true 2 t167 (⟨#[]⟩ : ByteArray)) else (if t166 = true then (corollaryref11_one.l3 k2 a0 (wrap64 (x1_2 + 1)) (!t168) 2 t167 (⟨#[]⟩ : ByteArray)) else (corollaryref11_one.l3 k2 a0 (wrap64 (x1_2 + 1)) true 2 t167 (⟨#[]⟩ : ByteArray)))) = some (r1, r2, r3, r4, r5) := H
                            have A133 := Aside0.mk A1330
                            clear A1330
                            by_cases c134 : x11_2 = true
                            · subst c134
                              replace H := ifT_ H
                              have H' := Aside0.mk H
                              clear H
                              go_wp2_with (first | ((with_reducible refine gate_callee (f := 37) rfl ?_); refine goesL_ (some 184) rfl rfl Tryd.func37 (by kernel_rfl) rfl #[.string a0, .int .i64 x1_2] rfl q2_ ?_; (with_reducible refine (corollaryref11_class.calls k2 a0 x1_2 t164 _ A127.out).mono ?_); rintro e w' ⟨rfl, ⟨nd, rfl⟩⟩; refine ⟨_, rfl, ?_⟩; (try (rw [drewN_self wr]; generalize hq_ : World.drewN wr _ = wr; have n0_ : Aside0 (wr.heap[gb148]? = some (.cells #[.int .i64 0, .int .i64 0, .string (⟨#[]⟩ : ByteArray)] 46 (0, 0))) := ⟨q14_⟩; have n1_ : Aside0 (wr.heap[gb163]? = some (.cells #[.int .i64 2, .int .i64 x164001_2, .string (⟨#[]⟩ : ByteArray)] 46 (0, 0))) := ⟨q20_⟩; have n2_ : Aside0 (Below w.heap.size w wr) := ⟨q11_⟩; clear BK148 BK163 HB hq_; have BK148 := n0_; have BK163 := n1_; have HB := n2_; clear n0_ n1_ n2_)); have p131 : 0 ≤ (x1_2 : Int) := of_decide_eq_true q7_; have q131 : x1_2 < (a0.size : Int) := of_decide_eq_true q7_; have hx131 := bt_at a0 x1_2; replace p131 := eq_true p131; replace q131 := eq_true q131; have hnb135 := NB163_148.out; have hnc135 := NB148_163.out; have hcz136_0 : wr.cell? ⟨gb163, 0, none⟩ = some (.int .i64 2) := (blk_cell BK163.out 0).trans rfl; have hcz136_1 : wr.cell? ⟨gb163, 1, none⟩ = some (.int .i64 x164001_2) := (blk_cell BK163.out 1).trans rfl; have hcz136_2 : wr.cell? ⟨gb163, 2, none⟩ = some (.string (⟨#[]⟩ : ByteArray)) := (blk_cell BK163.out 2).trans rfl; have hfz136_0 := blk_frozen BK163.out 0; have hfz136_1 := blk_frozen BK163.out 1; have hfz136_2 := blk_frozen BK163.out 2) | ((with_reducible refine gate_callee (f := 38) rfl ?_); refine goesL_ (some 194) rfl rfl Tryd.func38 (by kernel_rfl) rfl #[.int .i64 x164001_2, .int .i64 10] rfl q2_ ?_; (with_reducible refine (corollaryref01_Times.calls k2 x164001_2 10 t165 t166 _ A132.out).mono ?_); rintro e w' ⟨rfl, ⟨nd, rfl⟩⟩; refine ⟨_, rfl, ?_⟩; (try (rw [drewN_self wr]; generalize hq_ : World.drewN wr _ = wr; have n0_ : Aside0 (wr.heap[gb148]? = some (.cells #[.int .i64 0, .int .i64 0, .string (⟨#[]⟩ : ByteArray)] 46 (0, 0))) := ⟨q14_⟩; have n1_ : Aside0 (wr.heap[gb163]? = some (.cells #[.int .i64 2, .int .i64 x164001_2, .string (⟨#[]⟩ : ByteArray)] 46 (0, 0))) := ⟨q20_⟩; have n2_ : Aside0 (Below w.heap.size w wr) := ⟨q11_⟩; clear BK148 BK163 HB hq_; have BK148 := n0_; have BK163 := n1_; have HB := n2_; clear n0_ n1_ n2_))) | ((with_reducible refine gate_callee (f := 39) rfl ?_); refine goesL_ (some 200) rfl rfl Tryd.func39 (by kernel_rfl) rfl #[.int .i64 t165, .int .i64 (((bt a0 x1_2) - 48) % 256)] rfl q2_ ?_; (with_reducible refine (corollaryref01_Sum.calls t165 (((bt a0 x1_2) - 48) % 256) t167 t168 _ A133.out).mono ?_); rintro e w' ⟨rfl, ⟨nd, rfl⟩⟩; refine ⟨_, rfl, ?_⟩; (try (rw [drewN_self wr]; generalize hq_ : World.drewN wr _ = wr; have n0_ : Aside0 (wr.heap[gb148]? = some (.cells #[.int .i64 0, .int .i64 0, .string (⟨#[]⟩ : ByteArray)] 46 (0, 0))) := ⟨q14_⟩; have n1_ : Aside0 (wr.heap[gb163]? = some (.cells #[.int .i64 2, .int .i64 x164001_2, .string (⟨#[]⟩ : ByteArray)] 46 (0, 0))) := ⟨q20_⟩; have n2_ : Aside0 (Below w.heap.size w wr) := ⟨q11_⟩; clear BK148 BK163 HB hq_; have BK148 := n0_; have BK163 := n1_; have HB := n2_; clear n0_ n1_ n2_)); have hcz137_0 : wr.cell? ⟨gb163, 0, none⟩ = some (.int .i64 2) := (blk_cell BK163.out 0).trans rfl; have hcz137_1 : wr.cell? ⟨gb163, 1, none⟩ = some (.int .i64 x164001_2) := (blk_cell BK163.out 1).trans rfl; have hcz137_2 : wr.cell? ⟨gb163, 2, none⟩ = some (.string (⟨#[]⟩ : ByteArray)) := (blk_cell BK163.out 2).trans rfl; have hfz137_0 := blk_frozen BK163.out 0; have hfz137_1 := blk_frozen BK163.out 1; have hfz137_2 := blk_frozen BK163.out 2))
                              go_roundg k2
                              case measure => have := HJ2.out; have := HK2.out; omega
                              case rel => exact ⟨(wrap64 (x1_2 + 1)), (true), (t167), q3_, q3_, H', ⟨by have := HJ2.out; have := HK2.out; omega⟩, ⟨q50_⟩, ⟨q45_⟩, ⟨q0_⟩⟩
                            · replace c134 := Bool.eq_false_iff.mpr c134
                              subst c134
                              replace H := ifF_ H
                              by_cases c138 : t166 = true
                              · subst c138
                                replace H := ifT_ H
                                have H' := Aside0.mk H
                                clear H
                                go_wp2_with (first | ((with_reducible refine gate_callee (f := 37) rfl ?_); refine goesL_ (some 184) rfl rfl Tryd.func37 (by kernel_rfl) rfl #[.string a0, .int .i64 x1_2] rfl q2_ ?_; (with_reducible refine (corollaryref11_class.calls k2 a0 x1_2 t164 _ A127.out).mono ?_); rintro e w' ⟨rfl, ⟨nd, rfl⟩⟩; refine ⟨_, rfl, ?_⟩; (try (rw [drewN_self wr]; generalize hq_ : World.drewN wr _ = wr; have n0_ : Aside0 (wr.heap[gb148]? = some (.cells #[.int .i64 0, .int .i64 0, .string (⟨#[]⟩ : ByteArray)] 46 (0, 0))) := ⟨q14_⟩; have n1_ : Aside0 (wr.heap[gb163]? = some (.cells #[.int .i64 2, .int .i64 x164001_2, .string (⟨#[]⟩ : ByteArray)] 46 (0, 0))) := ⟨q20_⟩; have n2_ : Aside0 (Below w.heap.size w wr) := ⟨q11_⟩; clear BK148 BK163 HB hq_; have BK148 := n0_; have BK163 := n1_; have HB := n2_; clear n0_ n1_ n2_)); have p131 : 0 ≤ (x1_2 : Int) := of_decide_eq_true q7_; have q131 : x1_2 < (a0.size : Int) := of_decide_eq_true q7_; have hx131 := bt_at a0 x1_2; replace p131 := eq_true p131; replace q131 := eq_true q131; have hnb139 := NB163_148.out; have hnc139 := NB148_163.out; have hcz140_0 : wr.cell? ⟨gb163, 0, none⟩ = some (.int .i64 2) := (blk_cell BK163.out 0).trans rfl; have hcz140_1 : wr.cell? ⟨gb163, 1, none⟩ = some (.int .i64 x164001_2) := (blk_cell BK163.out 1).trans rfl; have hcz140_2 : wr.cell? ⟨gb163, 2, none⟩ = some (.string (⟨#[]⟩ : ByteArray)) := (blk_cell BK163.out 2).trans rfl; have hfz140_0 := blk_frozen BK163.out 0; have hfz140_1 := blk_frozen BK163.out 1; have hfz140_2 := blk_frozen BK163.out 2) | ((with_reducible refine gate_callee (f := 38) rfl ?_); refine goesL_ (some 194) rfl rfl Tryd.func38 (by kernel_rfl) rfl #[.int .i64 x164001_2, .int .i64 10] rfl q2_ ?_; (with_reducible refine (corollaryref01_Times.calls k2 x164001_2 10 t165 true _ A132.out).mono ?_); rintro e w' ⟨rfl, ⟨nd, rfl⟩⟩; refine ⟨_, rfl, ?_⟩; (try (rw [drewN_self wr]; generalize hq_ : World.drewN wr _ = wr; have n0_ : Aside0 (wr.heap[gb148]? = some (.cells #[.int .i64 0, .int .i64 0, .string (⟨#[]⟩ : ByteArray)] 46 (0, 0))) := ⟨q14_⟩; have n1_ : Aside0 (wr.heap[gb163]? = some (.cells #[.int .i64 2, .int .i64 x164001_2, .string (⟨#[]⟩ : ByteArray)] 46 (0, 0))) := ⟨q20_⟩; have n2_ : Aside0 (Below w.heap.size w wr) := ⟨q11_⟩; clear BK148 BK163 HB hq_; have BK148 := n0_; have BK163 := n1_; have HB := n2_; clear n0_ n1_ n2_))) | ((with_reducible refine gate_callee (f := 39) rfl ?_); refine goesL_ (some 200) rfl rfl Tryd.func39 (by kernel_rfl) rfl #[.int .i64 t165, .int .i64 (((bt a0 x1_2) - 48) % 256)] rfl q2_ ?_; (with_reducible refine (corollaryref01_Sum.calls t165 (((bt a0 x1_2) - 48) % 256) t167 t168 _ A133.out).mono ?_); rintro e w' ⟨rfl, ⟨nd, rfl⟩⟩; refine ⟨_, rfl, ?_⟩; (try (rw [drewN_self wr]; generalize hq_ : World.drewN wr _ = wr; have n0_ : Aside0 (wr.heap[gb148]? = some (.cells #[.int .i64 0, .int .i64 0, .string (⟨#[]⟩ : ByteArray)] 46 (0, 0))) := ⟨q14_⟩; have n1_ : Aside0 (wr.heap[gb163]? = some (.cells #[.int .i64 2, .int .i64 x164001_2, .string (⟨#[]⟩ : ByteArray)] 46 (0, 0))) := ⟨q20_⟩; have n2_ : Aside0 (Below w.heap.size w wr) := ⟨q11_⟩; clear BK148 BK163 HB hq_; have BK148 := n0_; have BK163 := n1_; have HB := n2_; clear n0_ n1_ n2_)); have hcz141_0 : wr.cell? ⟨gb163, 0, none⟩ = some (.int .i64 2) := (blk_cell BK163.out 0).trans rfl; have hcz141_1 : wr.cell? ⟨gb163, 1, none⟩ = some (.int .i64 x164001_2) := (blk_cell BK163.out 1).trans rfl; have hcz141_2 : wr.cell? ⟨gb163, 2, none⟩ = some (.string (⟨#[]⟩ : ByteArray)) := (blk_cell BK163.out 2).trans rfl; have hfz141_0 := blk_frozen BK163.out 0; have hfz141_1 := blk_frozen BK163.out 1; have hfz141_2 := blk_frozen BK163.out 2))
                                go_roundg k2
                                case measure => have := HJ2.out; have := HK2.out; omega
                                case rel => exact ⟨(wrap64 (x1_2 + 1)), (!t168), (t167), q3_, q3_, H', ⟨by have := HJ2.out; have := HK2.out; omega⟩, ⟨q50_⟩, ⟨q45_⟩, ⟨q0_⟩⟩
                              · replace c138 := Bool.eq_false_iff.mpr c138
                                subst c138
                                replace H := ifF_ H
                                have H' := Aside0.mk H
                                clear H
                                go_wp2_with (first | ((with_reducible refine gate_callee (f := 37) rfl ?_); refine goesL_ (some 184) rfl rfl Tryd.func37 (by kernel_rfl) rfl #[.string a0, .int .i64 x1_2] rfl q2_ ?_; (with_reducible refine (corollaryref11_class.calls k2 a0 x1_2 t164 _ A127.out).mono ?_); rintro e w' ⟨rfl, ⟨nd, rfl⟩⟩; refine ⟨_, rfl, ?_⟩; (try (rw [drewN_self wr]; generalize hq_ : World.drewN wr _ = wr; have n0_ : Aside0 (wr.heap[gb148]? = some (.cells #[.int .i64 0, .int .i64 0, .string (⟨#[]⟩ : ByteArray)] 46 (0, 0))) := ⟨q14_⟩; have n1_ : Aside0 (wr.heap[gb163]? = some (.cells #[.int .i64 2, .int .i64 x164001_2, .string (⟨#[]⟩ : ByteArray)] 46 (0, 0))) := ⟨q20_⟩; have n2_ : Aside0 (Below w.heap.size w wr) := ⟨q11_⟩; clear BK148 BK163 HB hq_; have BK148 := n0_; have BK163 := n1_; have HB := n2_; clear n0_ n1_ n2_)); have p131 : 0 ≤ (x1_2 : Int) := of_decide_eq_true q7_; have q131 : x1_2 < (a0.size : Int) := of_decide_eq_true q7_; have hx131 := bt_at a0 x1_2; replace p131 := eq_true p131; replace q131 := eq_true q131; have hnb142 := NB163_148.out; have hnc142 := NB148_163.out; have hcz143_0 : wr.cell? ⟨gb163, 0, none⟩ = some (.int .i64 2) := (blk_cell BK163.out 0).trans rfl; have hcz143_1 : wr.cell? ⟨gb163, 1, none⟩ = some (.int .i64 x164001_2) := (blk_cell BK163.out 1).trans rfl; have hcz143_2 : wr.cell? ⟨gb163, 2, none⟩ = some (.string (⟨#[]⟩ : ByteArray)) := (blk_cell BK163.out 2).trans rfl; have hfz143_0 := blk_frozen BK163.out 0; have hfz143_1 := blk_frozen BK163.out 1; have hfz143_2 := blk_frozen BK163.out 2) | ((with_reducible refine gate_callee (f := 38) rfl ?_); refine goesL_ (some 194) rfl rfl Tryd.func38 (by kernel_rfl) rfl #[.int .i64 x164001_2, .int .i64 10] rfl q2_ ?_; (with_reducible refine (corollaryref01_Times.calls k2 x164001_2 10 t165 false _ A132.out).mono ?_); rintro e w' ⟨rfl, ⟨nd, rfl⟩⟩; refine ⟨_, rfl, ?_⟩; (try (rw [drewN_self wr]; generalize hq_ : World.drewN wr _ = wr; have n0_ : Aside0 (wr.heap[gb148]? = some (.cells #[.int .i64 0, .int .i64 0, .string (⟨#[]⟩ : ByteArray)] 46 (0, 0))) := ⟨q14_⟩; have n1_ : Aside0 (wr.heap[gb163]? = some (.cells #[.int .i64 2, .int .i64 x164001_2, .string (⟨#[]⟩ : ByteArray)] 46 (0, 0))) := ⟨q20_⟩; have n2_ : Aside0 (Below w.heap.size w wr) := ⟨q11_⟩; clear BK148 BK163 HB hq_; have BK148 := n0_; have BK163 := n1_; have HB := n2_; clear n0_ n1_ n2_))) | ((with_reducible refine gate_callee (f := 39) rfl ?_); refine goesL_ (some 200) rfl rfl Tryd.func39 (by kernel_rfl) rfl #[.int .i64 t165, .int .i64 (((bt a0 x1_2) - 48) % 256)] rfl q2_ ?_; (with_reducible refine (corollaryref01_Sum.calls t165 (((bt a0 x1_2) - 48) % 256) t167 t168 _ A133.out).mono ?_); rintro e w' ⟨rfl, ⟨nd, rfl⟩⟩; refine ⟨_, rfl, ?_⟩; (try (rw [drewN_self wr]; generalize hq_ : World.drewN wr _ = wr; have n0_ : Aside0 (wr.heap[gb148]? = some (.cells #[.int .i64 0, .int .i64 0, .string (⟨#[]⟩ : ByteArray)] 46 (0, 0))) := ⟨q14_⟩; have n1_ : Aside0 (wr.heap[gb163]? = some (.cells #[.int .i64 2, .int .i64 x164001_2, .string (⟨#[]⟩ : ByteArray)] 46 (0, 0))) := ⟨q20_⟩; have n2_ : Aside0 (Below w.heap.size w wr) := ⟨q11_⟩; clear BK148 BK163 HB hq_; have BK148 := n0_; have BK163 := n1_; have HB := n2_; clear n0_ n1_ n2_)); have hcz144_0 : wr.cell? ⟨gb163, 0, none⟩ = some (.int .i64 2) := (blk_cell BK163.out 0).trans rfl; have hcz144_1 : wr.cell? ⟨gb163, 1, none⟩ = some (.int .i64 x164001_2) := (blk_cell BK163.out 1).trans rfl; have hcz144_2 : wr.cell? ⟨gb163, 2, none⟩ = some (.string (⟨#[]⟩ : ByteArray)) := (blk_cell BK163.out 2).trans rfl; have hfz144_0 := blk_frozen BK163.out 0; have hfz144_1 := blk_frozen BK163.out 1; have hfz144_2 := blk_frozen BK163.out 2))
                                go_roundg k2
                                case measure => have := HJ2.out; have := HK2.out; omega
                                case rel => exact ⟨(wrap64 (x1_2 + 1)), (true), (t167), q3_, q3_, H', ⟨by have := HJ2.out; have := HK2.out; omega⟩, ⟨q50_⟩, ⟨q45_⟩, ⟨q0_⟩⟩
                          · rw [if_neg c130] at H
                            exact absurd H (by simp)
                        · rw [if_neg c129] at H
                          exact absurd H (by simp)
                      · rw [if_neg c128] at H
                        have c128b0 : (t164 == 2) = false := beq_eq_false_iff_ne.mpr c128
                        have c128b1 : (t164 != 2) = true := bne_iff_ne.mpr c128
                        by_cases c145 : x11_2 = true
                        · subst c145
                          replace H := ifT_ H
                          simp only [Option.some.injEq, Prod.mk.injEq] at H
                          obtain ⟨rfl, rfl, rfl, rfl, rfl⟩ := H
                          go_wp2_with (first | ((with_reducible refine gate_callee (f := 37) rfl ?_); refine goesL_ (some 184) rfl rfl Tryd.func37 (by kernel_rfl) rfl #[.string a0, .int .i64 x1_2] rfl q2_ ?_; (with_reducible refine (corollaryref11_class.calls k2 a0 x1_2 t164 _ A127.out).mono ?_); rintro e w' ⟨rfl, ⟨nd, rfl⟩⟩; refine ⟨_, rfl, ?_⟩; (try (rw [drewN_self wr]; generalize hq_ : World.drewN wr _ = wr; have n0_ : Aside0 (wr.heap[gb148]? = some (.cells #[.int .i64 0, .int .i64 0, .string (⟨#[]⟩ : ByteArray)] 46 (0, 0))) := ⟨q14_⟩; have n1_ : Aside0 (wr.heap[gb163]? = some (.cells #[.int .i64 2, .int .i64 x164001_2, .string (⟨#[]⟩ : ByteArray)] 46 (0, 0))) := ⟨q20_⟩; have n2_ : Aside0 (Below w.heap.size w wr) := ⟨q11_⟩; clear BK148 BK163 HB hq_; have BK148 := n0_; have BK163 := n1_; have HB := n2_; clear n0_ n1_ n2_)); have hnb146 := NB148_163.out; have hnc146 := NB163_148.out; have hcz147_0 : wr.cell? ⟨gb148, 0, none⟩ = some (.int .i64 0) := (blk_cell BK148.out 0).trans rfl; have hcz147_1 : wr.cell? ⟨gb148, 1, none⟩ = some (.int .i64 0) := (blk_cell BK148.out 1).trans rfl; have hcz147_2 : wr.cell? ⟨gb148, 2, none⟩ = some (.string (⟨#[]⟩ : ByteArray)) := (blk_cell BK148.out 2).trans rfl; have hfz147_0 := blk_frozen BK148.out 0; have hfz147_1 := blk_frozen BK148.out 1; have hfz147_2 := blk_frozen BK148.out 2))
                          refine bodyPost_ret (results_ctt rfl _ _ gb148 46 #[.int .i64 0, .int .i64 0, .string (⟨#[]⟩ : ByteArray)] (0, 0) _ rfl q39_ Tryd.underlying46 rfl (by kernel_rfl)) rfl ?_
                          exact ⟨q4_, q0_⟩
                        · replace c145 := Bool.eq_false_iff.mpr c145
                          subst c145
                          replace H := ifF_ H
                          simp only [Option.some.injEq, Prod.mk.injEq] at H
                          obtain ⟨rfl, rfl, rfl, rfl, rfl⟩ := H
                          go_wp2_with (first | ((with_reducible refine gate_callee (f := 37) rfl ?_); refine goesL_ (some 184) rfl rfl Tryd.func37 (by kernel_rfl) rfl #[.string a0, .int .i64 x1_2] rfl q2_ ?_; (with_reducible refine (corollaryref11_class.calls k2 a0 x1_2 t164 _ A127.out).mono ?_); rintro e w' ⟨rfl, ⟨nd, rfl⟩⟩; refine ⟨_, rfl, ?_⟩; (try (rw [drewN_self wr]; generalize hq_ : World.drewN wr _ = wr; have n0_ : Aside0 (wr.heap[gb148]? = some (.cells #[.int .i64 0, .int .i64 0, .string (⟨#[]⟩ : ByteArray)] 46 (0, 0))) := ⟨q14_⟩; have n1_ : Aside0 (wr.heap[gb163]? = some (.cells #[.int .i64 2, .int .i64 x164001_2, .string (⟨#[]⟩ : ByteArray)] 46 (0, 0))) := ⟨q20_⟩; have n2_ : Aside0 (Below w.heap.size w wr) := ⟨q11_⟩; clear BK148 BK163 HB hq_; have BK148 := n0_; have BK163 := n1_; have HB := n2_; clear n0_ n1_ n2_)); have hnb148 := NB163_148.out; have hnc148 := NB148_163.out; have hcz149_0 : wr.cell? ⟨gb163, 0, none⟩ = some (.int .i64 2) := (blk_cell BK163.out 0).trans rfl; have hcz149_1 : wr.cell? ⟨gb163, 1, none⟩ = some (.int .i64 x164001_2) := (blk_cell BK163.out 1).trans rfl; have hcz149_2 : wr.cell? ⟨gb163, 2, none⟩ = some (.string (⟨#[]⟩ : ByteArray)) := (blk_cell BK163.out 2).trans rfl; have hfz149_0 := blk_frozen BK163.out 0; have hfz149_1 := blk_frozen BK163.out 1; have hfz149_2 := blk_frozen BK163.out 2; have hcz150_0 : wr.cell? ⟨gb148, 0, none⟩ = some (.int .i64 0) := (blk_cell BK148.out 0).trans rfl; have hcz150_1 : wr.cell? ⟨gb148, 1, none⟩ = some (.int .i64 0) := (blk_cell BK148.out 1).trans rfl; have hcz150_2 : wr.cell? ⟨gb148, 2, none⟩ = some (.string (⟨#[]⟩ : ByteArray)) := (blk_cell BK148.out 2).trans rfl; have hfz150_0 := blk_frozen BK148.out 0; have hfz150_1 := blk_frozen BK148.out 1; have hfz150_2 := blk_frozen BK148.out 2))
                          refine bodyPost_ret (results_ctt rfl _ _ gb148 46 #[.int .i64 2, .int .i64 x164001_2, .string (⟨#[]⟩ : ByteArray)] (0, 0) _ rfl (by (with_reducible repeat first | apply bN_ | apply bD_ | apply bA_); refine blk_put (cs := #[.int .i64 2, .int .i64 x164001_2, .string (⟨#[]⟩ : ByteArray)]) ?_ 2 _ rfl; (with_reducible repeat first | apply bN_ | apply bD_ | apply bA_); refine blk_put (cs := #[.int .i64 2, .int .i64 0, .string (⟨#[]⟩ : ByteArray)]) ?_ 1 _ rfl; (with_reducible repeat first | apply bN_ | apply bD_ | apply bA_); refine blk_put (cs := #[.int .i64 0, .int .i64 0, .string (⟨#[]⟩ : ByteArray)]) ?_ 0 _ rfl; (with_reducible repeat first | apply bN_ | apply bD_ | apply bA_); exact BK148.out) Tryd.underlying46 rfl (by kernel_rfl)) rfl ?_
                          exact ⟨q4_, q0_⟩
                · rw [if_neg c123] at H
                  have c123b0 : (t162 == 2) = false := beq_eq_false_iff_ne.mpr c123
                  have c123b1 : (t162 != 2) = true := bne_iff_ne.mpr c123
                  have HC152 := Aside0.mk H
                  clear H
                  have p64 : 0 ≤ (a1 : Int) := of_decide_eq_true q7_
                  have q64 : a1 < (a0.size : Int) := of_decide_eq_true q7_
                  have hx64 := bt_at a0 a1
                  replace p64 := eq_true p64
                  replace q64 := eq_true q64
                  go_upto_if 227 with (first | ((with_reducible refine gate_callee (f := 37) rfl ?_); refine goesL_ (some 157) rfl rfl Tryd.func37 (by kernel_rfl) rfl #[.string a0, .int .i64 a1] rfl q2_ ?_; (with_reducible refine (corollaryref11_class.calls kj2 a0 a1 t159 _ A106.out).mono ?_); rintro e w' ⟨rfl, ⟨nd, rfl⟩⟩; refine ⟨_, rfl, ?_⟩) | ((with_reducible refine gate_callee (f := 37) rfl ?_); refine goesL_ (some 179) rfl rfl Tryd.func37 (by kernel_rfl) rfl #[.string a0, .int .i64 a1] rfl q2_ ?_; (with_reducible refine (corollaryref11_class.calls kj2 a0 a1 t162 _ A122.out).mono ?_); rintro e w' ⟨rfl, ⟨nd, rfl⟩⟩; refine ⟨_, rfl, ?_⟩; have p151 : 0 ≤ (a1 : Int) := of_decide_eq_true q7_; have q151 : a1 < (a0.size : Int) := of_decide_eq_true q7_; have hx151 := bt_at a0 a1; replace p151 := eq_true p151; replace q151 := eq_true q151))
                  (try simp only [Act.put, List.setIfInBounds_toArray, List.set_cons_zero, List.set_cons_succ])
                  go_cut [18] (fun v18 wc => ∃ (kq : Nat) (x18_151 : Int), v18 = .int .u8 x18_151 ∧ Aside0 (corollaryref11_one.j8 kq a0 a1 (bt a0 a1) x18_151 = some (r1, r2, r3, r4, r5)) ∧ Aside0 (kq ≤ kj2) ∧ Aside0 (wc.heap[gb148]? = some (.cells #[.int .i64 0, .int .i64 0, .string (⟨#[]⟩ : ByteArray)] 46 (0, 0))) ∧ Aside0 (Below w.heap.size w wc))
                  case first => as_aux_lemma =>
                    have H := HC152.out
                    clear HC152
                    by_cases c153 : (wrap64 (a1 + 1)) < (a0.size : Int)
                    · rw [if_pos c153] at H
                      have c153b0 : decide ((wrap64 (a1 + 1)) < (a0.size : Int)) = true := decide_eq_true c153
                      clear c153
                      (first | rw [c153b0] | (simp only [i64_w, i32_w]; rw [c153b0]) | skip)
                      obtain ⟨ji154, hji154⟩ : ∃ j_ : Int, (wrap64 (a1 + 1)) = j_ := ⟨_, rfl⟩
                      replace H : (if 0 ≤ (ji154) then (corollaryref11_one.j8 kj2 a0 a1 (bt a0 a1) (bt a0 (ji154))) else (none)) = some (r1, r2, r3, r4, r5) := by first | (rw [hji154] at H; exact H) | (simp only [hji154] at H ⊢; exact H)
                      (try rw [hji154] at c153b0)
                      have hji154w : (IntKind.i64.wrap (a1 + 1)) = ji154 := (i64_w _).trans hji154
                      by_cases c155 : 0 ≤ (ji154)
                      · rw [if_pos c155] at H
                        have c155b0 : decide (0 ≤ (ji154)) = true := decide_eq_true c155
                        clear c155
                        have H' := Aside0.mk H
                        clear H
                        have p156 : 0 ≤ ((ji154) : Int) := of_decide_eq_true q7_
                        have q156 : (ji154) < (a0.size : Int) := of_decide_eq_true q7_
                        have hx156 := bt_at a0 (ji154)
                        replace p156 := eq_true p156
                        replace q156 := eq_true q156
                        go_wp2
                        go_meet
                        case rel => exact ⟨_, (bt a0 (ji154)), (by first | rfl | (simp; done) | (simp only [← hji154] <;> (first | rfl | simp)) | (simp [*]; done)), H', ⟨q42_⟩, ⟨q9_⟩, ⟨q0_⟩⟩
                      · rw [if_neg c155] at H
                        exact absurd H (by simp)
                    · rw [if_neg c153] at H
                      have c153b0 : decide ((wrap64 (a1 + 1)) < (a0.size : Int)) = false := decide_eq_false c153
                      clear c153
                      (first | rw [c153b0] | (simp only [i64_w, i32_w]; rw [c153b0]) | skip)
                      have H' := Aside0.mk H
                      clear H
                      go_wp2
                      go_meet
                      case rel => exact ⟨_, (0), q3_, H', ⟨q42_⟩, ⟨q9_⟩, ⟨q0_⟩⟩
                  case rest => as_aux_lemma =>
                    clear HC152
                    try clear c1
                    try clear p1
                    try clear q1
                    try clear hx1
                    try clear c2
                    try clear p2
                    try clear q2
                    try clear hx2
                    try clear c3
                    try clear p3
                    try clear q3
                    try clear hx3
                    try clear c4
                    try clear p4
                    try clear q4
                    try clear hx4
                    try clear c5
                    try clear c5b0
                    try clear hcv5
                    try clear c6
                    try clear c6b0
                    try clear p6
                    try clear q6
                    try clear hx6
                    try clear c7
                    try clear p7
                    try clear q7
                    try clear hx7
                    try clear c8
                    try clear c8b0
                    try clear c8b1
                    try clear c9
                    try clear c9b0
                    try clear c10
                    try clear c11
                    try clear c11b0
                    try clear c12
                    try clear p12
                    try clear q12
                    try clear hx12
                    try clear c13
                    try clear p13
                    try clear q13
                    try clear hx13
                    try clear c14
                    try clear c15
                    try clear p15
                    try clear q15
                    try clear hx15
                    try clear c17
                    try clear c18
                    try clear c18b0
                    try clear c19
                    try clear c19b0
                    try clear p20
                    try clear q20
                    try clear hx20
                    try clear c21
                    try clear c23
                    try clear c23b0
                    try clear c24
                    try clear c24b0
                    try clear c25
                    try clear c25b0
                    try clear p26
                    try clear q26
                    try clear hx26
                    try clear c28
                    try clear c28b0
                    try clear c30
                    try clear c30b0
                    try clear c31
                    try clear c31b0
                    try clear p32
                    try clear q32
                    try clear hx32
                    try clear c34
                    try clear c35
                    try clear c36
                    try clear c37
                    try clear c37b0
                    try clear c38
                    try clear c38b0
                    try clear c39
                    try clear p39
                    try clear q39
                    try clear hx39
                    try clear c42
                    try clear c42b0
                    try clear c43
                    try clear c43b0
                    try clear p44
                    try clear q44
                    try clear hx44
                    try clear c46
                    try clear c46b0
                    try clear c46b1
                    try clear c46b2
                    try clear hcv50
                    try clear c52
                    try clear c52b0
                    try clear c53
                    try clear c55
                    try clear c55b0
                    try clear c55b1
                    try clear c56
                    try clear c59
                    try clear c62
                    try clear c62b0
                    try clear c63
                    try clear c63b0
                    try clear p64
                    try clear q64
                    try clear hx64
                    try clear c65
                    try clear c65b0
                    try clear c65b1
                    try clear c67
                    try clear c69
                    try clear c69b0
                    try clear c70
                    try clear c70b0
                    try clear p71
                    try clear q71
                    try clear hx71
                    try clear c72
                    try clear c72b0
                    try clear c72b1
                    try clear c74
                    try clear c74b0
                    try clear c76
                    try clear c76b0
                    try clear c77
                    try clear c77b0
                    try clear p78
                    try clear q78
                    try clear hx78
                    try clear c79
                    try clear c81
                    try clear c82
                    try clear c87
                    try clear c92
                    try clear c92b0
                    try clear c92b1
                    try clear c93
                    try clear c93b0
                    try clear c93b1
                    try clear c94
                    try clear c94b0
                    try clear c94b1
                    try clear c95
                    try clear c95b0
                    try clear c95b1
                    try clear c95b2
                    try clear c98
                    try clear c98b0
                    try clear c99
                    try clear c99b0
                    try clear c99b1
                    try clear c100
                    try clear c100b0
                    try clear c100b1
                    try clear c101
                    try clear c101b0
                    try clear c101b1
                    try clear c101b2
                    try clear c104
                    try clear c107
                    try clear c107b0
                    try clear c107b1
                    try clear c109
                    try clear c112
                    try clear c112b0
                    try clear c113
                    try clear c113b0
                    try clear c113b1
                    try clear c114
                    try clear c114b0
                    try clear c114b1
                    try clear c115
                    try clear c115b0
                    try clear c115b1
                    try clear c116
                    try clear c116b0
                    try clear c116b1
                    try clear c116b2
                    try clear c119
                    try clear c123
                    try clear c123b0
                    try clear c123b1
                    try clear c125
                    try clear c128
                    try clear c128b0
                    try clear c128b1
                    try clear c129
                    try clear c129b0
                    try clear c130
                    try clear c130b0
                    try clear p131
                    try clear q131
                    try clear hx131
                    try clear c134
                    try clear c135
                    try clear c138
                    try clear c139
                    try clear c142
                    try clear c145
                    try clear c146
                    try clear c148
                    try clear p151
                    try clear q151
                    try clear hx151
                    try clear c153
                    try clear c153b0
                    try clear c155
                    try clear c155b0
                    try clear p156
                    try clear q156
                    try clear hx156
                    try clear hcz105_0
                    try clear hcz105_1
                    try clear hcz105_2
                    try clear hcz110_0
                    try clear hcz110_1
                    try clear hcz110_2
                    try clear hcz120_0
                    try clear hcz120_1
                    try clear hcz120_2
                    try clear hcz121_0
                    try clear hcz121_1
                    try clear hcz121_2
                    try clear hcz126_0
                    try clear hcz126_1
                    try clear hcz126_2
                    try clear hcz136_0
                    try clear hcz136_1
                    try clear hcz136_2
                    try clear hcz137_0
                    try clear hcz137_1
                    try clear hcz137_2
                    try clear hcz140_0
                    try clear hcz140_1
                    try clear hcz140_2
                    try clear hcz141_0
                    try clear hcz141_1
                    try clear hcz141_2
                    try clear hcz143_0
                    try clear hcz143_1
                    try clear hcz143_2
                    try clear hcz144_0
                    try clear hcz144_1
                    try clear hcz144_2
                    try clear hcz147_0
                    try clear hcz147_1
                    try clear hcz147_2
                    try clear hcz149_0
                    try clear hcz149_1
                    try clear hcz149_2
                    try clear hcz150_0
                    try clear hcz150_1
                    try clear hcz150_2
                    try clear hcz16_0
                    try clear hcz16_1
                    try clear hcz16_2
                    try clear hcz36_0
                    try clear hcz36_1
                    try clear hcz36_2
                    try clear hcz54_0
                    try clear hcz54_1
                    try clear hcz54_2
                    try clear hcz57_0
                    try clear hcz57_1
                    try clear hcz57_2
                    try clear hcz58_0
                    try clear hcz58_1
                    try clear hcz58_2
                    try clear hcz60_0
                    try clear hcz60_1
                    try clear hcz60_2
                    try clear hcz61_0
                    try clear hcz61_1
                    try clear hcz61_2
                    try clear hcz68_0
                    try clear hcz68_1
                    try clear hcz68_2
                    try clear hcz83_0
                    try clear hcz83_1
                    try clear hcz83_2
                    try clear hcz85_0
                    try clear hcz85_1
                    try clear hcz85_2
                    try clear hcz86_0
                    try clear hcz86_1
                    try clear hcz86_2
                    try clear hcz88_0
                    try clear hcz88_1
                    try clear hcz88_2
                    try clear hcz90_0
                    try clear hcz90_1
                    try clear hcz90_2
                    try clear hfz105_0
                    try clear hfz105_1
                    try clear hfz105_2
                    try clear hfz110_0
                    try clear hfz110_1
                    try clear hfz110_2
                    try clear hfz120_0
                    try clear hfz120_1
                    try clear hfz120_2
                    try clear hfz121_0
                    try clear hfz121_1
                    try clear hfz121_2
                    try clear hfz126_0
                    try clear hfz126_1
                    try clear hfz126_2
                    try clear hfz136_0
                    try clear hfz136_1
                    try clear hfz136_2
                    try clear hfz137_0
                    try clear hfz137_1
                    try clear hfz137_2
                    try clear hfz140_0
                    try clear hfz140_1
                    try clear hfz140_2
                    try clear hfz141_0
                    try clear hfz141_1
                    try clear hfz141_2
                    try clear hfz143_0
                    try clear hfz143_1
                    try clear hfz143_2
                    try clear hfz144_0
                    try clear hfz144_1
                    try clear hfz144_2
                    try clear hfz147_0
                    try clear hfz147_1
                    try clear hfz147_2
                    try clear hfz149_0
                    try clear hfz149_1
                    try clear hfz149_2
                    try clear hfz150_0
                    try clear hfz150_1
                    try clear hfz150_2
                    try clear hfz16_0
                    try clear hfz16_1
                    try clear hfz16_2
                    try clear hfz36_0
                    try clear hfz36_1
                    try clear hfz36_2
                    try clear hfz54_0
                    try clear hfz54_1
                    try clear hfz54_2
                    try clear hfz57_0
                    try clear hfz57_1
                    try clear hfz57_2
                    try clear hfz58_0
                    try clear hfz58_1
                    try clear hfz58_2
                    try clear hfz60_0
                    try clear hfz60_1
                    try clear hfz60_2
                    try clear hfz61_0
                    try clear hfz61_1
                    try clear hfz61_2
                    try clear hfz68_0
                    try clear hfz68_1
                    try clear hfz68_2
                    try clear hfz83_0
                    try clear hfz83_1
                    try clear hfz83_2
                    try clear hfz85_0
                    try clear hfz85_1
                    try clear hfz85_2
                    try clear hfz86_0
                    try clear hfz86_1
                    try clear hfz86_2
                    try clear hfz88_0
                    try clear hfz88_1
                    try clear hfz88_2
                    try clear hfz90_0
                    try clear hfz90_1
                    try clear hfz90_2
                    try clear p1
                    try clear p12
                    try clear p131
                    try clear p151
                    try clear p156
                    try clear p2
                    try clear p20
                    try clear p26
                    try clear p3
                    try clear p32
                    try clear p39
                    try clear p4
                    try clear p44
                    try clear p6
                    try clear p64
                    try clear p7
                    try clear p71
                    try clear p78
                    try clear q1
                    try clear q12
                    try clear q131
                    try clear q151
                    try clear q156
                    try clear q2
                    try clear q20
                    try clear q26
                    try clear q3
                    try clear q32
                    try clear q39
                    try clear q4
                    try clear q44
                    try clear q6
                    try clear q64
                    try clear q7
                    try clear q71
                    try clear q78
                    obtain ⟨kq, x18_151, rfl, HA, HJ151, BK148, HB⟩ := hcut
                    cases kq with
                    | zero => exact absurd HA.out (by simp [corollaryref11_one.j8])
                    | succ kj151 =>
                      have H := HA.out
                      clear HA
                      simp only [corollaryref11_one.j8] at H
                      have HC157 := Aside0.mk H
                      clear H
                      go_upto_region 47 with (fail)
                      go_cut [249] (fun v249 wc => ∃ (kq : Nat) (x249_156 : Bool), v249 = .bool x249_156 ∧ Aside0 (corollaryref11_one.j9 kq a0 a1 (bt a0 a1) x249_156 = some (r1, r2, r3, r4, r5)) ∧ Aside0 (kq ≤ kj151) ∧ Aside0 (wc.heap[gb148]? = some (.cells #[.int .i64 0, .int .i64 0, .string (⟨#[]⟩ : ByteArray)] 46 (0, 0))) ∧ Aside0 (Below w.heap.size w wc))
                      case first => as_aux_lemma =>
                        have H := HC157.out
                        clear HC157
                        by_cases c158 : (bt a0 a1) = 60
                        · rw [if_pos c158] at H
                          have c158b0 : ((bt a0 a1) == 60) = true := beq_iff_eq.mpr c158
                          have c158b1 : ((bt a0 a1) != 60) = false := bne_eq_false_iff_eq.mpr c158
                          clear c158
                          (first | rw [c158b0] | (simp only [i64_w, i32_w]; rw [c158b0]) | skip)
                          by_cases c159 : x18_151 = 62
                          · rw [if_pos c159] at H
                            have c159b0 : (x18_151 == 62) = true := beq_iff_eq.mpr c159
                            have c159b1 : (x18_151 != 62) = false := bne_eq_false_iff_eq.mpr c159
                            clear c159
                            have H' := Aside0.mk H
                            clear H
                            go_wp2
                            go_meet
                            case rel => exact ⟨_, (true), q3_, H', ⟨q51_⟩, ⟨q9_⟩, ⟨q0_⟩⟩
                          · rw [if_neg c159] at H
                            have c159b0 : (x18_151 == 62) = false := beq_eq_false_iff_ne.mpr c159
                            have c159b1 : (x18_151 != 62) = true := bne_iff_ne.mpr c159
                            by_cases c160 : x18_151 = 61
                            · rw [if_pos c160] at H
                              have c160b0 : (x18_151 == 61) = true := beq_iff_eq.mpr c160
                              have c160b1 : (x18_151 != 61) = false := bne_eq_false_iff_eq.mpr c160
                              clear c160
                              have H' := Aside0.mk H
                              clear H
                              go_wp2
                              go_meet
                              case rel => exact ⟨_, (true), q3_, H', ⟨q51_⟩, ⟨q9_⟩, ⟨q0_⟩⟩
                            · rw [if_neg c160] at H
                              have c160b0 : (x18_151 == 61) = false := beq_eq_false_iff_ne.mpr c160
                              have c160b1 : (x18_151 != 61) = true := bne_iff_ne.mpr c160
                              by_cases c161 : (bt a0 a1) = 62
                              · rw [if_pos c161] at H
                                have c161b0 : ((bt a0 a1) == 62) = true := beq_iff_eq.mpr c161
                                have c161b1 : ((bt a0 a1) != 62) = false := bne_eq_false_iff_eq.mpr c161
                                clear c161
                                have H' := Aside0.mk H
                                clear H
                                go_wp2
                                go_meet
                                case rel => exact ⟨_, ((x18_151 == 61)), q3_, H', ⟨q51_⟩, ⟨q9_⟩, ⟨q0_⟩⟩
                              · rw [if_neg c161] at H
                                have c161b0 : ((bt a0 a1) == 62) = false := beq_eq_false_iff_ne.mpr c161
                                have c161b1 : ((bt a0 a1) != 62) = true := bne_iff_ne.mpr c161
                                have H' := Aside0.mk H
                                clear H
                                go_wp2
                                go_meet
                                case rel => exact ⟨_, (false), q3_, H', ⟨q51_⟩, ⟨q9_⟩, ⟨q0_⟩⟩
                        · rw [if_neg c158] at H
                          have c158b0 : ((bt a0 a1) == 60) = false := beq_eq_false_iff_ne.mpr c158
                          have c158b1 : ((bt a0 a1) != 60) = true := bne_iff_ne.mpr c158
                          (first | rw [c158b0] | (simp only [i64_w, i32_w]; rw [c158b0]) | skip)
                          by_cases c162 : (bt a0 a1) = 62
                          · rw [if_pos c162] at H
                            have c162b0 : ((bt a0 a1) == 62) = true := beq_iff_eq.mpr c162
                            have c162b1 : ((bt a0 a1) != 62) = false := bne_eq_false_iff_eq.mpr c162
                            clear c162
                            have H' := Aside0.mk H
                            clear H
                            go_wp2
                            go_meet
                            case rel => exact ⟨_, ((x18_151 == 61)), q3_, H', ⟨q51_⟩, ⟨q9_⟩, ⟨q0_⟩⟩
                          · rw [if_neg c162] at H
                            have c162b0 : ((bt a0 a1) == 62) = false := beq_eq_false_iff_ne.mpr c162
                            have c162b1 : ((bt a0 a1) != 62) = true := bne_iff_ne.mpr c162
                            have H' := Aside0.mk H
                            clear H
                            go_wp2
                            go_meet
                            case rel => exact ⟨_, (false), q3_, H', ⟨q51_⟩, ⟨q9_⟩, ⟨q0_⟩⟩
                      case rest => as_aux_lemma =>
                        clear HC157
                        try clear c1
                        try clear p1
                        try clear q1
                        try clear hx1
                        try clear c2
                        try clear p2
                        try clear q2
                        try clear hx2
                        try clear c3
                        try clear p3
                        try clear q3
                        try clear hx3
                        try clear c4
                        try clear p4
                        try clear q4
                        try clear hx4
                        try clear c5
                        try clear c5b0
                        try clear hcv5
                        try clear c6
                        try clear c6b0
                        try clear p6
                        try clear q6
                        try clear hx6
                        try clear c7
                        try clear p7
                        try clear q7
                        try clear hx7
                        try clear c8
                        try clear c8b0
                        try clear c8b1
                        try clear c9
                        try clear c9b0
                        try clear c10
                        try clear c11
                        try clear c11b0
                        try clear c12
                        try clear p12
                        try clear q12
                        try clear hx12
                        try clear c13
                        try clear p13
                        try clear q13
                        try clear hx13
                        try clear c14
                        try clear c15
                        try clear p15
                        try clear q15
                        try clear hx15
                        try clear c16
                        try clear c17
                        try clear c18
                        try clear c18b0
                        try clear c19
                        try clear c19b0
                        try clear p20
                        try clear q20
                        try clear hx20
                        try clear c21
                        try clear c23
                        try clear c23b0
                        try clear c24
                        try clear c24b0
                        try clear c25
                        try clear c25b0
                        try clear p26
                        try clear q26
                        try clear hx26
                        try clear c28
                        try clear c28b0
                        try clear c30
                        try clear c30b0
                        try clear c31
                        try clear c31b0
                        try clear p32
                        try clear q32
                        try clear hx32
                        try clear c34
                        try clear c35
                        try clear c36
                        try clear c37
                        try clear c37b0
                        try clear c38
                        try clear c38b0
                        try clear c39
                        try clear p39
                        try clear q39
                        try clear hx39
                        try clear c42
                        try clear c42b0
                        try clear c43
                        try clear c43b0
                        try clear p44
                        try clear q44
                        try clear hx44
                        try clear c46
                        try clear c46b0
                        try clear c46b1
                        try clear c46b2
                        try clear hcv50
                        try clear c52
                        try clear c52b0
                        try clear c53
                        try clear c55
                        try clear c55b0
                        try clear c55b1
                        try clear c56
                        try clear c59
                        try clear c62
                        try clear c62b0
                        try clear c63
                        try clear c63b0
                        try clear p64
                        try clear q64
                        try clear hx64
                        try clear c65
                        try clear c65b0
                        try clear c65b1
                        try clear c67
                        try clear c69
                        try clear c69b0
                        try clear c70
                        try clear c70b0
                        try clear p71
                        try clear q71
                        try clear hx71
                        try clear c72
                        try clear c72b0
                        try clear c72b1
                        try clear c74
                        try clear c74b0
                        try clear c76
                        try clear c76b0
                        try clear c77
                        try clear c77b0
                        try clear p78
                        try clear q78
                        try clear hx78
                        try clear c79
                        try clear c81
                        try clear c82
                        try clear c87
                        try clear c92
                        try clear c92b0
                        try clear c92b1
                        try clear c93
                        try clear c93b0
                        try clear c93b1
                        try clear c94
                        try clear c94b0
                        try clear c94b1
                        try clear c95
                        try clear c95b0
                        try clear c95b1
                        try clear c95b2
                        try clear c98
                        try clear c98b0
                        try clear c99
                        try clear c99b0
                        try clear c99b1
                        try clear c100
                        try clear c100b0
                        try clear c100b1
                        try clear c101
                        try clear c101b0
                        try clear c101b1
                        try clear c101b2
                        try clear c104
                        try clear c107
                        try clear c107b0
                        try clear c107b1
                        try clear c109
                        try clear c112
                        try clear c112b0
                        try clear c113
                        try clear c113b0
                        try clear c113b1
                        try clear c114
                        try clear c114b0
                        try clear c114b1
                        try clear c115
                        try clear c115b0
                        try clear c115b1
                        try clear c116
                        try clear c116b0
                        try clear c116b1
                        try clear c116b2
                        try clear c119
                        try clear c123
                        try clear c123b0
                        try clear c123b1
                        try clear c125
                        try clear c128
                        try clear c128b0
                        try clear c128b1
                        try clear c129
                        try clear c129b0
                        try clear c130
                        try clear c130b0
                        try clear p131
                        try clear q131
                        try clear hx131
                        try clear c134
                        try clear c135
                        try clear c138
                        try clear c139
                        try clear c142
                        try clear c145
                        try clear c146
                        try clear c148
                        try clear p151
                        try clear q151
                        try clear hx151
                        try clear c153
                        try clear c153b0
                        try clear c155
                        try clear c155b0
                        try clear p156
                        try clear q156
                        try clear hx156
                        try clear c158
                        try clear c158b0
                        try clear c158b1
                        try clear c159
                        try clear c159b0
                        try clear c159b1
                        try clear c160
                        try clear c160b0
                        try clear c160b1
                        try clear c161
                        try clear c161b0
                        try clear c161b1
                        try clear c162
                        try clear c162b0
                        try clear c162b1
                        try clear hcz105_0
                        try clear hcz105_1
                        try clear hcz105_2
                        try clear hcz110_0
                        try clear hcz110_1
                        try clear hcz110_2
                        try clear hcz120_0
                        try clear hcz120_1
                        try clear hcz120_2
                        try clear hcz121_0
                        try clear hcz121_1
                        try clear hcz121_2
                        try clear hcz126_0
                        try clear hcz126_1
                        try clear hcz126_2
                        try clear hcz136_0
                        try clear hcz136_1
                        try clear hcz136_2
                        try clear hcz137_0
                        try clear hcz137_1
                        try clear hcz137_2
                        try clear hcz140_0
                        try clear hcz140_1
                        try clear hcz140_2
                        try clear hcz141_0
                        try clear hcz141_1
                        try clear hcz141_2
                        try clear hcz143_0
                        try clear hcz143_1
                        try clear hcz143_2
                        try clear hcz144_0
                        try clear hcz144_1
                        try clear hcz144_2
                        try clear hcz147_0
                        try clear hcz147_1
                        try clear hcz147_2
                        try clear hcz149_0
                        try clear hcz149_1
                        try clear hcz149_2
                        try clear hcz150_0
                        try clear hcz150_1
                        try clear hcz150_2
                        try clear hcz16_0
                        try clear hcz16_1
                        try clear hcz16_2
                        try clear hcz36_0
                        try clear hcz36_1
                        try clear hcz36_2
                        try clear hcz54_0
                        try clear hcz54_1
                        try clear hcz54_2
                        try clear hcz57_0
                        try clear hcz57_1
                        try clear hcz57_2
                        try clear hcz58_0
                        try clear hcz58_1
                        try clear hcz58_2
                        try clear hcz60_0
                        try clear hcz60_1
                        try clear hcz60_2
                        try clear hcz61_0
                        try clear hcz61_1
                        try clear hcz61_2
                        try clear hcz68_0
                        try clear hcz68_1
                        try clear hcz68_2
                        try clear hcz83_0
                        try clear hcz83_1
                        try clear hcz83_2
                        try clear hcz85_0
                        try clear hcz85_1
                        try clear hcz85_2
                        try clear hcz86_0
                        try clear hcz86_1
                        try clear hcz86_2
                        try clear hcz88_0
                        try clear hcz88_1
                        try clear hcz88_2
                        try clear hcz90_0
                        try clear hcz90_1
                        try clear hcz90_2
                        try clear hfz105_0
                        try clear hfz105_1
                        try clear hfz105_2
                        try clear hfz110_0
                        try clear hfz110_1
                        try clear hfz110_2
                        try clear hfz120_0
                        try clear hfz120_1
                        try clear hfz120_2
                        try clear hfz121_0
                        try clear hfz121_1
                        try clear hfz121_2
                        try clear hfz126_0
                        try clear hfz126_1
                        try clear hfz126_2
                        try clear hfz136_0
                        try clear hfz136_1
                        try clear hfz136_2
                        try clear hfz137_0
                        try clear hfz137_1
                        try clear hfz137_2
                        try clear hfz140_0
                        try clear hfz140_1
                        try clear hfz140_2
                        try clear hfz141_0
                        try clear hfz141_1
                        try clear hfz141_2
                        try clear hfz143_0
                        try clear hfz143_1
                        try clear hfz143_2
                        try clear hfz144_0
                        try clear hfz144_1
                        try clear hfz144_2
                        try clear hfz147_0
                        try clear hfz147_1
                        try clear hfz147_2
                        try clear hfz149_0
                        try clear hfz149_1
                        try clear hfz149_2
                        try clear hfz150_0
                        try clear hfz150_1
                        try clear hfz150_2
                        try clear hfz16_0
                        try clear hfz16_1
                        try clear hfz16_2
                        try clear hfz36_0
                        try clear hfz36_1
                        try clear hfz36_2
                        try clear hfz54_0
                        try clear hfz54_1
                        try clear hfz54_2
                        try clear hfz57_0
                        try clear hfz57_1
                        try clear hfz57_2
                        try clear hfz58_0
                        try clear hfz58_1
                        try clear hfz58_2
                        try clear hfz60_0
                        try clear hfz60_1
                        try clear hfz60_2
                        try clear hfz61_0
                        try clear hfz61_1
                        try clear hfz61_2
                        try clear hfz68_0
                        try clear hfz68_1
                        try clear hfz68_2
                        try clear hfz83_0
                        try clear hfz83_1
                        try clear hfz83_2
                        try clear hfz85_0
                        try clear hfz85_1
                        try clear hfz85_2
                        try clear hfz86_0
                        try clear hfz86_1
                        try clear hfz86_2
                        try clear hfz88_0
                        try clear hfz88_1
                        try clear hfz88_2
                        try clear hfz90_0
                        try clear hfz90_1
                        try clear hfz90_2
                        try clear p1
                        try clear p12
                        try clear p13
                        try clear p131
                        try clear p15
                        try clear p151
                        try clear p156
                        try clear p2
                        try clear p20
                        try clear p26
                        try clear p3
                        try clear p32
                        try clear p39
                        try clear p4
                        try clear p44
                        try clear p6
                        try clear p64
                        try clear p7
                        try clear p71
                        try clear p78
                        try clear q1
                        try clear q12
                        try clear q13
                        try clear q131
                        try clear q15
                        try clear q151
                        try clear q156
                        try clear q2
                        try clear q20
                        try clear q26
                        try clear q3
                        try clear q32
                        try clear q39
                        try clear q4
                        try clear q44
                        try clear q6
                        try clear q64
                        try clear q7
                        try clear q71
                        try clear q78
                        obtain ⟨kq, x249_156, rfl, HA, HJ156, BK148, HB⟩ := hcut
                        cases kq with
                        | zero => exact absurd HA.out (by simp [corollaryref11_one.j9])
                        | succ kj156 =>
                          have H := HA.out
                          clear HA
                          simp only [corollaryref11_one.j9] at H
                          by_cases c163 : x249_156 = true
                          · subst c163
                            replace H := ifT_ H
                            by_cases c164 : 0 ≤ a1
                            · rw [if_pos c164] at H
                              have c164b0 := eq_true c164
                              have c164b1 : decide (0 ≤ a1) = true := decide_eq_true c164
                              clear c164
                              by_cases c165 : a1 ≤ (wrap64 (a1 + 2))
                              · rw [if_pos c165] at H
                                have c165b0 := eq_true c165
                                have c165b1 : decide (a1 ≤ (wrap64 (a1 + 2))) = true := decide_eq_true c165
                                by_cases c166 : (wrap64 (a1 + 2)) ≤ (a0.size : Int)
                                · rw [if_pos c166] at H
                                  have c166b0 := eq_true c166
                                  have c166b1 : decide ((wrap64 (a1 + 2)) ≤ (a0.size : Int)) = true := decide_eq_true c166
                                  simp only [Option.some.injEq, Prod.mk.injEq] at H
                                  obtain ⟨rfl, rfl, rfl, rfl, rfl⟩ := H
                                  have hcz167_0 : wc.cell? ⟨gb148, 0, none⟩ = some (.int .i64 0) := (blk_cell BK148.out 0).trans rfl
                                  have hcz167_1 : wc.cell? ⟨gb148, 1, none⟩ = some (.int .i64 0) := (blk_cell BK148.out 1).trans rfl
                                  have hcz167_2 : wc.cell? ⟨gb148, 2, none⟩ = some (.string (⟨#[]⟩ : ByteArray)) := (blk_cell BK148.out 2).trans rfl
                                  have hfz167_0 := blk_frozen BK148.out 0
                                  have hfz167_1 := blk_frozen BK148.out 1
                                  have hfz167_2 := blk_frozen BK148.out 2
                                  go_wp2
                                  refine bodyPost_ret (results_ctt rfl _ _ gb148 46 #[.int .i64 5, .int .i64 0, .string (a0.extract (a1 : Int).toNat ((wrap64 (a1 + 2)) : Int).toNat)] (0, 0) _ rfl q8_ Tryd.underlying46 rfl (by kernel_rfl)) rfl ?_
                                  exact ⟨q4_, q0_⟩
                                · rw [if_neg c166] at H
                                  exact absurd H (by simp)
                              · rw [if_neg c165] at H
                                exact absurd H (by simp)
                            · rw [if_neg c164] at H
                              exact absurd H (by simp)
                          · replace c163 := Bool.eq_false_iff.mpr c163
                            subst c163
                            replace H := ifF_ H
                            by_cases c168 : (bt a0 a1) = 40
                            · rw [if_pos c168] at H
                              have c168b0 : ((bt a0 a1) == 40) = true := beq_iff_eq.mpr c168
                              have c168b1 : ((bt a0 a1) != 40) = false := bne_eq_false_iff_eq.mpr c168
                              clear c168
                              by_cases c169 : 0 ≤ a1
                              · rw [if_pos c169] at H
                                have c169b0 := eq_true c169
                                have c169b1 : decide (0 ≤ a1) = true := decide_eq_true c169
                                clear c169
                                by_cases c170 : a1 ≤ (wrap64 (a1 + 1))
                                · rw [if_pos c170] at H
                                  have c170b0 := eq_true c170
                                  have c170b1 : decide (a1 ≤ (wrap64 (a1 + 1))) = true := decide_eq_true c170
                                  by_cases c171 : (wrap64 (a1 + 1)) ≤ (a0.size : Int)
                                  · rw [if_pos c171] at H
                                    have c171b0 := eq_true c171
                                    have c171b1 : decide ((wrap64 (a1 + 1)) ≤ (a0.size : Int)) = true := decide_eq_true c171
                                    simp only [Option.some.injEq, Prod.mk.injEq] at H
                                    obtain ⟨rfl, rfl, rfl, rfl, rfl⟩ := H
                                    have hcz172_0 : wc.cell? ⟨gb148, 0, none⟩ = some (.int .i64 0) := (blk_cell BK148.out 0).trans rfl
                                    have hcz172_1 : wc.cell? ⟨gb148, 1, none⟩ = some (.int .i64 0) := (blk_cell BK148.out 1).trans rfl
                                    have hcz172_2 : wc.cell? ⟨gb148, 2, none⟩ = some (.string (⟨#[]⟩ : ByteArray)) := (blk_cell BK148.out 2).trans rfl
                                    have hfz172_0 := blk_frozen BK148.out 0
                                    have hfz172_1 := blk_frozen BK148.out 1
                                    have hfz172_2 := blk_frozen BK148.out 2
                                    go_wp2
                                    refine bodyPost_ret (results_ctt rfl _ _ gb148 46 #[.int .i64 5, .int .i64 0, .string (a0.extract (a1 : Int).toNat ((wrap64 (a1 + 1)) : Int).toNat)] (0, 0) _ rfl q8_ Tryd.underlying46 rfl (by kernel_rfl)) rfl ?_
                                    exact ⟨q4_, q0_⟩
                                  · rw [if_neg c171] at H
                                    exact absurd H (by simp)
                                · rw [if_neg c170] at H
                                  exact absurd H (by simp)
                              · rw [if_neg c169] at H
                                exact absurd H (by simp)
                            · rw [if_neg c168] at H
                              have c168b0 : ((bt a0 a1) == 40) = false := beq_eq_false_iff_ne.mpr c168
                              have c168b1 : ((bt a0 a1) != 40) = true := bne_iff_ne.mpr c168
                              by_cases c173 : (bt a0 a1) = 41
                              · rw [if_pos c173] at H
                                have c173b0 : ((bt a0 a1) == 41) = true := beq_iff_eq.mpr c173
                                have c173b1 : ((bt a0 a1) != 41) = false := bne_eq_false_iff_eq.mpr c173
                                clear c173
                                by_cases c174 : 0 ≤ a1
                                · rw [if_pos c174] at H
                                  have c174b0 := eq_true c174
                                  have c174b1 : decide (0 ≤ a1) = true := decide_eq_true c174
                                  clear c174
                                  by_cases c175 : a1 ≤ (wrap64 (a1 + 1))
                                  · rw [if_pos c175] at H
                                    have c175b0 := eq_true c175
                                    have c175b1 : decide (a1 ≤ (wrap64 (a1 + 1))) = true := decide_eq_true c175
                                    by_cases c176 : (wrap64 (a1 + 1)) ≤ (a0.size : Int)
                                    · rw [if_pos c176] at H
                                      have c176b0 := eq_true c176
                                      have c176b1 : decide ((wrap64 (a1 + 1)) ≤ (a0.size : Int)) = true := decide_eq_true c176
                                      simp only [Option.some.injEq, Prod.mk.injEq] at H
                                      obtain ⟨rfl, rfl, rfl, rfl, rfl⟩ := H
                                      have hcz177_0 : wc.cell? ⟨gb148, 0, none⟩ = some (.int .i64 0) := (blk_cell BK148.out 0).trans rfl
                                      have hcz177_1 : wc.cell? ⟨gb148, 1, none⟩ = some (.int .i64 0) := (blk_cell BK148.out 1).trans rfl
                                      have hcz177_2 : wc.cell? ⟨gb148, 2, none⟩ = some (.string (⟨#[]⟩ : ByteArray)) := (blk_cell BK148.out 2).trans rfl
                                      have hfz177_0 := blk_frozen BK148.out 0
                                      have hfz177_1 := blk_frozen BK148.out 1
                                      have hfz177_2 := blk_frozen BK148.out 2
                                      go_wp2
                                      refine bodyPost_ret (results_ctt rfl _ _ gb148 46 #[.int .i64 5, .int .i64 0, .string (a0.extract (a1 : Int).toNat ((wrap64 (a1 + 1)) : Int).toNat)] (0, 0) _ rfl q8_ Tryd.underlying46 rfl (by kernel_rfl)) rfl ?_
                                      exact ⟨q4_, q0_⟩
                                    · rw [if_neg c176] at H
                                      exact absurd H (by simp)
                                  · rw [if_neg c175] at H
                                    exact absurd H (by simp)
                                · rw [if_neg c174] at H
                                  exact absurd H (by simp)
                              · rw [if_neg c173] at H
                                have c173b0 : ((bt a0 a1) == 41) = false := beq_eq_false_iff_ne.mpr c173
                                have c173b1 : ((bt a0 a1) != 41) = true := bne_iff_ne.mpr c173
                                by_cases c178 : (bt a0 a1) = 44
                                · rw [if_pos c178] at H
                                  have c178b0 : ((bt a0 a1) == 44) = true := beq_iff_eq.mpr c178
                                  have c178b1 : ((bt a0 a1) != 44) = false := bne_eq_false_iff_eq.mpr c178
                                  clear c178
                                  by_cases c179 : 0 ≤ a1
                                  · rw [if_pos c179] at H
                                    have c179b0 := eq_true c179
                                    have c179b1 : decide (0 ≤ a1) = true := decide_eq_true c179
                                    clear c179
                                    by_cases c180 : a1 ≤ (wrap64 (a1 + 1))
                                    · rw [if_pos c180] at H
                                      have c180b0 := eq_true c180
                                      have c180b1 : decide (a1 ≤ (wrap64 (a1 + 1))) = true := decide_eq_true c180
                                      by_cases c181 : (wrap64 (a1 + 1)) ≤ (a0.size : Int)
                                      · rw [if_pos c181] at H
                                        have c181b0 := eq_true c181
                                        have c181b1 : decide ((wrap64 (a1 + 1)) ≤ (a0.size : Int)) = true := decide_eq_true c181
                                        simp only [Option.some.injEq, Prod.mk.injEq] at H
                                        obtain ⟨rfl, rfl, rfl, rfl, rfl⟩ := H
                                        have hcz182_0 : wc.cell? ⟨gb148, 0, none⟩ = some (.int .i64 0) := (blk_cell BK148.out 0).trans rfl
                                        have hcz182_1 : wc.cell? ⟨gb148, 1, none⟩ = some (.int .i64 0) := (blk_cell BK148.out 1).trans rfl
                                        have hcz182_2 : wc.cell? ⟨gb148, 2, none⟩ = some (.string (⟨#[]⟩ : ByteArray)) := (blk_cell BK148.out 2).trans rfl
                                        have hfz182_0 := blk_frozen BK148.out 0
                                        have hfz182_1 := blk_frozen BK148.out 1
                                        have hfz182_2 := blk_frozen BK148.out 2
                                        go_wp2
                                        refine bodyPost_ret (results_ctt rfl _ _ gb148 46 #[.int .i64 5, .int .i64 0, .string (a0.extract (a1 : Int).toNat ((wrap64 (a1 + 1)) : Int).toNat)] (0, 0) _ rfl q8_ Tryd.underlying46 rfl (by kernel_rfl)) rfl ?_
                                        exact ⟨q4_, q0_⟩
                                      · rw [if_neg c181] at H
                                        exact absurd H (by simp)
                                    · rw [if_neg c180] at H
                                      exact absurd H (by simp)
                                  · rw [if_neg c179] at H
                                    exact absurd H (by simp)
                                · rw [if_neg c178] at H
                                  have c178b0 : ((bt a0 a1) == 44) = false := beq_eq_false_iff_ne.mpr c178
                                  have c178b1 : ((bt a0 a1) != 44) = true := bne_iff_ne.mpr c178
                                  by_cases c183 : (bt a0 a1) = 46
                                  · rw [if_pos c183] at H
                                    have c183b0 : ((bt a0 a1) == 46) = true := beq_iff_eq.mpr c183
                                    have c183b1 : ((bt a0 a1) != 46) = false := bne_eq_false_iff_eq.mpr c183
                                    clear c183
                                    by_cases c184 : 0 ≤ a1
                                    · rw [if_pos c184] at H
                                      have c184b0 := eq_true c184
                                      have c184b1 : decide (0 ≤ a1) = true := decide_eq_true c184
                                      clear c184
                                      by_cases c185 : a1 ≤ (wrap64 (a1 + 1))
                                      · rw [if_pos c185] at H
                                        have c185b0 := eq_true c185
                                        have c185b1 : decide (a1 ≤ (wrap64 (a1 + 1))) = true := decide_eq_true c185
                                        by_cases c186 : (wrap64 (a1 + 1)) ≤ (a0.size : Int)
                                        · rw [if_pos c186] at H
                                          have c186b0 := eq_true c186
                                          have c186b1 : decide ((wrap64 (a1 + 1)) ≤ (a0.size : Int)) = true := decide_eq_true c186
                                          simp only [Option.some.injEq, Prod.mk.injEq] at H
                                          obtain ⟨rfl, rfl, rfl, rfl, rfl⟩ := H
                                          have hcz187_0 : wc.cell? ⟨gb148, 0, none⟩ = some (.int .i64 0) := (blk_cell BK148.out 0).trans rfl
                                          have hcz187_1 : wc.cell? ⟨gb148, 1, none⟩ = some (.int .i64 0) := (blk_cell BK148.out 1).trans rfl
                                          have hcz187_2 : wc.cell? ⟨gb148, 2, none⟩ = some (.string (⟨#[]⟩ : ByteArray)) := (blk_cell BK148.out 2).trans rfl
                                          have hfz187_0 := blk_frozen BK148.out 0
                                          have hfz187_1 := blk_frozen BK148.out 1
                                          have hfz187_2 := blk_frozen BK148.out 2
                                          go_wp2
                                          refine bodyPost_ret (results_ctt rfl _ _ gb148 46 #[.int .i64 5, .int .i64 0, .string (a0.extract (a1 : Int).toNat ((wrap64 (a1 + 1)) : Int).toNat)] (0, 0) _ rfl q8_ Tryd.underlying46 rfl (by kernel_rfl)) rfl ?_
                                          exact ⟨q4_, q0_⟩
                                        · rw [if_neg c186] at H
                                          exact absurd H (by simp)
                                      · rw [if_neg c185] at H
                                        exact absurd H (by simp)
                                    · rw [if_neg c184] at H
                                      exact absurd H (by simp)
                                  · rw [if_neg c183] at H
                                    have c183b0 : ((bt a0 a1) == 46) = false := beq_eq_false_iff_ne.mpr c183
                                    have c183b1 : ((bt a0 a1) != 46) = true := bne_iff_ne.mpr c183
                                    by_cases c188 : (bt a0 a1) = 42
                                    · rw [if_pos c188] at H
                                      have c188b0 : ((bt a0 a1) == 42) = true := beq_iff_eq.mpr c188
                                      have c188b1 : ((bt a0 a1) != 42) = false := bne_eq_false_iff_eq.mpr c188
                                      clear c188
                                      by_cases c189 : 0 ≤ a1
                                      · rw [if_pos c189] at H
                                        have c189b0 := eq_true c189
                                        have c189b1 : decide (0 ≤ a1) = true := decide_eq_true c189
                                        clear c189
                                        by_cases c190 : a1 ≤ (wrap64 (a1 + 1))
                                        · rw [if_pos c190] at H
                                          have c190b0 := eq_true c190
                                          have c190b1 : decide (a1 ≤ (wrap64 (a1 + 1))) = true := decide_eq_true c190
                                          by_cases c191 : (wrap64 (a1 + 1)) ≤ (a0.size : Int)
                                          · rw [if_pos c191] at H
                                            have c191b0 := eq_true c191
                                            have c191b1 : decide ((wrap64 (a1 + 1)) ≤ (a0.size : Int)) = true := decide_eq_true c191
                                            simp only [Option.some.injEq, Prod.mk.injEq] at H
                                            obtain ⟨rfl, rfl, rfl, rfl, rfl⟩ := H
                                            have hcz192_0 : wc.cell? ⟨gb148, 0, none⟩ = some (.int .i64 0) := (blk_cell BK148.out 0).trans rfl
                                            have hcz192_1 : wc.cell? ⟨gb148, 1, none⟩ = some (.int .i64 0) := (blk_cell BK148.out 1).trans rfl
                                            have hcz192_2 : wc.cell? ⟨gb148, 2, none⟩ = some (.string (⟨#[]⟩ : ByteArray)) := (blk_cell BK148.out 2).trans rfl
                                            have hfz192_0 := blk_frozen BK148.out 0
                                            have hfz192_1 := blk_frozen BK148.out 1
                                            have hfz192_2 := blk_frozen BK148.out 2
                                            go_wp2
                                            refine bodyPost_ret (results_ctt rfl _ _ gb148 46 #[.int .i64 5, .int .i64 0, .string (a0.extract (a1 : Int).toNat ((wrap64 (a1 + 1)) : Int).toNat)] (0, 0) _ rfl q8_ Tryd.underlying46 rfl (by kernel_rfl)) rfl ?_
                                            exact ⟨q4_, q0_⟩
                                          · rw [if_neg c191] at H
                                            exact absurd H (by simp)
                                        · rw [if_neg c190] at H
                                          exact absurd H (by simp)
                                      · rw [if_neg c189] at H
                                        exact absurd H (by simp)
                                    · rw [if_neg c188] at H
                                      have c188b0 : ((bt a0 a1) == 42) = false := beq_eq_false_iff_ne.mpr c188
                                      have c188b1 : ((bt a0 a1) != 42) = true := bne_iff_ne.mpr c188
                                      by_cases c193 : (bt a0 a1) = 43
                                      · rw [if_pos c193] at H
                                        have c193b0 : ((bt a0 a1) == 43) = true := beq_iff_eq.mpr c193
                                        have c193b1 : ((bt a0 a1) != 43) = false := bne_eq_false_iff_eq.mpr c193
                                        clear c193
                                        by_cases c194 : 0 ≤ a1
                                        · rw [if_pos c194] at H
                                          have c194b0 := eq_true c194
                                          have c194b1 : decide (0 ≤ a1) = true := decide_eq_true c194
                                          clear c194
                                          by_cases c195 : a1 ≤ (wrap64 (a1 + 1))
                                          · rw [if_pos c195] at H
                                            have c195b0 := eq_true c195
                                            have c195b1 : decide (a1 ≤ (wrap64 (a1 + 1))) = true := decide_eq_true c195
                                            by_cases c196 : (wrap64 (a1 + 1)) ≤ (a0.size : Int)
                                            · rw [if_pos c196] at H
                                              have c196b0 := eq_true c196
                                              have c196b1 : decide ((wrap64 (a1 + 1)) ≤ (a0.size : Int)) = true := decide_eq_true c196
                                              simp only [Option.some.injEq, Prod.mk.injEq] at H
                                              obtain ⟨rfl, rfl, rfl, rfl, rfl⟩ := H
                                              have hcz197_0 : wc.cell? ⟨gb148, 0, none⟩ = some (.int .i64 0) := (blk_cell BK148.out 0).trans rfl
                                              have hcz197_1 : wc.cell? ⟨gb148, 1, none⟩ = some (.int .i64 0) := (blk_cell BK148.out 1).trans rfl
                                              have hcz197_2 : wc.cell? ⟨gb148, 2, none⟩ = some (.string (⟨#[]⟩ : ByteArray)) := (blk_cell BK148.out 2).trans rfl
                                              have hfz197_0 := blk_frozen BK148.out 0
                                              have hfz197_1 := blk_frozen BK148.out 1
                                              have hfz197_2 := blk_frozen BK148.out 2
                                              go_wp2
                                              refine bodyPost_ret (results_ctt rfl _ _ gb148 46 #[.int .i64 5, .int .i64 0, .string (a0.extract (a1 : Int).toNat ((wrap64 (a1 + 1)) : Int).toNat)] (0, 0) _ rfl q8_ Tryd.underlying46 rfl (by kernel_rfl)) rfl ?_
                                              exact ⟨q4_, q0_⟩
                                            · rw [if_neg c196] at H
                                              exact absurd H (by simp)
                                          · rw [if_neg c195] at H
                                            exact absurd H (by simp)
                                        · rw [if_neg c194] at H
                                          exact absurd H (by simp)
                                      · rw [if_neg c193] at H
                                        have c193b0 : ((bt a0 a1) == 43) = false := beq_eq_false_iff_ne.mpr c193
                                        have c193b1 : ((bt a0 a1) != 43) = true := bne_iff_ne.mpr c193
                                        by_cases c198 : (bt a0 a1) = 45
                                        · rw [if_pos c198] at H
                                          have c198b0 : ((bt a0 a1) == 45) = true := beq_iff_eq.mpr c198
                                          have c198b1 : ((bt a0 a1) != 45) = false := bne_eq_false_iff_eq.mpr c198
                                          clear c198
                                          by_cases c199 : 0 ≤ a1
                                          · rw [if_pos c199] at H
                                            have c199b0 := eq_true c199
                                            have c199b1 : decide (0 ≤ a1) = true := decide_eq_true c199
                                            clear c199
                                            by_cases c200 : a1 ≤ (wrap64 (a1 + 1))
                                            · rw [if_pos c200] at H
                                              have c200b0 := eq_true c200
                                              have c200b1 : decide (a1 ≤ (wrap64 (a1 + 1))) = true := decide_eq_true c200
                                              by_cases c201 : (wrap64 (a1 + 1)) ≤ (a0.size : Int)
                                              · rw [if_pos c201] at H
                                                have c201b0 := eq_true c201
                                                have c201b1 : decide ((wrap64 (a1 + 1)) ≤ (a0.size : Int)) = true := decide_eq_true c201
                                                simp only [Option.some.injEq, Prod.mk.injEq] at H
                                                obtain ⟨rfl, rfl, rfl, rfl, rfl⟩ := H
                                                have hcz202_0 : wc.cell? ⟨gb148, 0, none⟩ = some (.int .i64 0) := (blk_cell BK148.out 0).trans rfl
                                                have hcz202_1 : wc.cell? ⟨gb148, 1, none⟩ = some (.int .i64 0) := (blk_cell BK148.out 1).trans rfl
                                                have hcz202_2 : wc.cell? ⟨gb148, 2, none⟩ = some (.string (⟨#[]⟩ : ByteArray)) := (blk_cell BK148.out 2).trans rfl
                                                have hfz202_0 := blk_frozen BK148.out 0
                                                have hfz202_1 := blk_frozen BK148.out 1
                                                have hfz202_2 := blk_frozen BK148.out 2
                                                go_wp2
                                                refine bodyPost_ret (results_ctt rfl _ _ gb148 46 #[.int .i64 5, .int .i64 0, .string (a0.extract (a1 : Int).toNat ((wrap64 (a1 + 1)) : Int).toNat)] (0, 0) _ rfl q8_ Tryd.underlying46 rfl (by kernel_rfl)) rfl ?_
                                                exact ⟨q4_, q0_⟩
                                              · rw [if_neg c201] at H
                                                exact absurd H (by simp)
                                            · rw [if_neg c200] at H
                                              exact absurd H (by simp)
                                          · rw [if_neg c199] at H
                                            exact absurd H (by simp)
                                        · rw [if_neg c198] at H
                                          have c198b0 : ((bt a0 a1) == 45) = false := beq_eq_false_iff_ne.mpr c198
                                          have c198b1 : ((bt a0 a1) != 45) = true := bne_iff_ne.mpr c198
                                          by_cases c203 : (bt a0 a1) = 61
                                          · rw [if_pos c203] at H
                                            have c203b0 : ((bt a0 a1) == 61) = true := beq_iff_eq.mpr c203
                                            have c203b1 : ((bt a0 a1) != 61) = false := bne_eq_false_iff_eq.mpr c203
                                            clear c203
                                            by_cases c204 : 0 ≤ a1
                                            · rw [if_pos c204] at H
                                              have c204b0 := eq_true c204
                                              have c204b1 : decide (0 ≤ a1) = true := decide_eq_true c204
                                              clear c204
                                              by_cases c205 : a1 ≤ (wrap64 (a1 + 1))
                                              · rw [if_pos c205] at H
                                                have c205b0 := eq_true c205
                                                have c205b1 : decide (a1 ≤ (wrap64 (a1 + 1))) = true := decide_eq_true c205
                                                by_cases c206 : (wrap64 (a1 + 1)) ≤ (a0.size : Int)
                                                · rw [if_pos c206] at H
                                                  have c206b0 := eq_true c206
                                                  have c206b1 : decide ((wrap64 (a1 + 1)) ≤ (a0.size : Int)) = true := decide_eq_true c206
                                                  simp only [Option.some.injEq, Prod.mk.injEq] at H
                                                  obtain ⟨rfl, rfl, rfl, rfl, rfl⟩ := H
                                                  have hcz207_0 : wc.cell? ⟨gb148, 0, none⟩ = some (.int .i64 0) := (blk_cell BK148.out 0).trans rfl
                                                  have hcz207_1 : wc.cell? ⟨gb148, 1, none⟩ = some (.int .i64 0) := (blk_cell BK148.out 1).trans rfl
                                                  have hcz207_2 : wc.cell? ⟨gb148, 2, none⟩ = some (.string (⟨#[]⟩ : ByteArray)) := (blk_cell BK148.out 2).trans rfl
                                                  have hfz207_0 := blk_frozen BK148.out 0
                                                  have hfz207_1 := blk_frozen BK148.out 1
                                                  have hfz207_2 := blk_frozen BK148.out 2
                                                  go_wp2
                                                  refine bodyPost_ret (results_ctt rfl _ _ gb148 46 #[.int .i64 5, .int .i64 0, .string (a0.extract (a1 : Int).toNat ((wrap64 (a1 + 1)) : Int).toNat)] (0, 0) _ rfl q8_ Tryd.underlying46 rfl (by kernel_rfl)) rfl ?_
                                                  exact ⟨q4_, q0_⟩
                                                · rw [if_neg c206] at H
                                                  exact absurd H (by simp)
                                              · rw [if_neg c205] at H
                                                exact absurd H (by simp)
                                            · rw [if_neg c204] at H
                                              exact absurd H (by simp)
                                          · rw [if_neg c203] at H
                                            have c203b0 : ((bt a0 a1) == 61) = false := beq_eq_false_iff_ne.mpr c203
                                            have c203b1 : ((bt a0 a1) != 61) = true := bne_iff_ne.mpr c203
                                            by_cases c208 : (bt a0 a1) = 60
                                            · rw [if_pos c208] at H
                                              have c208b0 : ((bt a0 a1) == 60) = true := beq_iff_eq.mpr c208
                                              have c208b1 : ((bt a0 a1) != 60) = false := bne_eq_false_iff_eq.mpr c208
                                              clear c208
                                              by_cases c209 : 0 ≤ a1
                                              · rw [if_pos c209] at H
                                                have c209b0 := eq_true c209
                                                have c209b1 : decide (0 ≤ a1) = true := decide_eq_true c209
                                                clear c209
                                                by_cases c210 : a1 ≤ (wrap64 (a1 + 1))
                                                · rw [if_pos c210] at H
                                                  have c210b0 := eq_true c210
                                                  have c210b1 : decide (a1 ≤ (wrap64 (a1 + 1))) = true := decide_eq_true c210
                                                  by_cases c211 : (wrap64 (a1 + 1)) ≤ (a0.size : Int)
                                                  · rw [if_pos c211] at H
                                                    have c211b0 := eq_true c211
                                                    have c211b1 : decide ((wrap64 (a1 + 1)) ≤ (a0.size : Int)) = true := decide_eq_true c211
                                                    simp only [Option.some.injEq, Prod.mk.injEq] at H
                                                    obtain ⟨rfl, rfl, rfl, rfl, rfl⟩ := H
                                                    have hcz212_0 : wc.cell? ⟨gb148, 0, none⟩ = some (.int .i64 0) := (blk_cell BK148.out 0).trans rfl
                                                    have hcz212_1 : wc.cell? ⟨gb148, 1, none⟩ = some (.int .i64 0) := (blk_cell BK148.out 1).trans rfl
                                                    have hcz212_2 : wc.cell? ⟨gb148, 2, none⟩ = some (.string (⟨#[]⟩ : ByteArray)) := (blk_cell BK148.out 2).trans rfl
                                                    have hfz212_0 := blk_frozen BK148.out 0
                                                    have hfz212_1 := blk_frozen BK148.out 1
                                                    have hfz212_2 := blk_frozen BK148.out 2
                                                    go_wp2
                                                    refine bodyPost_ret (results_ctt rfl _ _ gb148 46 #[.int .i64 5, .int .i64 0, .string (a0.extract (a1 : Int).toNat ((wrap64 (a1 + 1)) : Int).toNat)] (0, 0) _ rfl q8_ Tryd.underlying46 rfl (by kernel_rfl)) rfl ?_
                                                    exact ⟨q4_, q0_⟩
                                                  · rw [if_neg c211] at H
                                                    exact absurd H (by simp)
                                                · rw [if_neg c210] at H
                                                  exact absurd H (by simp)
                                              · rw [if_neg c209] at H
                                                exact absurd H (by simp)
                                            · rw [if_neg c208] at H
                                              have c208b0 : ((bt a0 a1) == 60) = false := beq_eq_false_iff_ne.mpr c208
                                              have c208b1 : ((bt a0 a1) != 60) = true := bne_iff_ne.mpr c208
                                              by_cases c213 : (bt a0 a1) = 62
                                              · rw [if_pos c213] at H
                                                have c213b0 : ((bt a0 a1) == 62) = true := beq_iff_eq.mpr c213
                                                have c213b1 : ((bt a0 a1) != 62) = false := bne_eq_false_iff_eq.mpr c213
                                                clear c213
                                                by_cases c214 : 0 ≤ a1
                                                · rw [if_pos c214] at H
                                                  have c214b0 := eq_true c214
                                                  have c214b1 : decide (0 ≤ a1) = true := decide_eq_true c214
                                                  clear c214
                                                  by_cases c215 : a1 ≤ (wrap64 (a1 + 1))
                                                  · rw [if_pos c215] at H
                                                    have c215b0 := eq_true c215
                                                    have c215b1 : decide (a1 ≤ (wrap64 (a1 + 1))) = true := decide_eq_true c215
                                                    by_cases c216 : (wrap64 (a1 + 1)) ≤ (a0.size : Int)
                                                    · rw [if_pos c216] at H
                                                      have c216b0 := eq_true c216
                                                      have c216b1 : decide ((wrap64 (a1 + 1)) ≤ (a0.size : Int)) = true := decide_eq_true c216
                                                      simp only [Option.some.injEq, Prod.mk.injEq] at H
                                                      obtain ⟨rfl, rfl, rfl, rfl, rfl⟩ := H
                                                      have hcz217_0 : wc.cell? ⟨gb148, 0, none⟩ = some (.int .i64 0) := (blk_cell BK148.out 0).trans rfl
                                                      have hcz217_1 : wc.cell? ⟨gb148, 1, none⟩ = some (.int .i64 0) := (blk_cell BK148.out 1).trans rfl
                                                      have hcz217_2 : wc.cell? ⟨gb148, 2, none⟩ = some (.string (⟨#[]⟩ : ByteArray)) := (blk_cell BK148.out 2).trans rfl
                                                      have hfz217_0 := blk_frozen BK148.out 0
                                                      have hfz217_1 := blk_frozen BK148.out 1
                                                      have hfz217_2 := blk_frozen BK148.out 2
                                                      go_wp2
                                                      refine bodyPost_ret (results_ctt rfl _ _ gb148 46 #[.int .i64 5, .int .i64 0, .string (a0.extract (a1 : Int).toNat ((wrap64 (a1 + 1)) : Int).toNat)] (0, 0) _ rfl q8_ Tryd.underlying46 rfl (by kernel_rfl)) rfl ?_
                                                      exact ⟨q4_, q0_⟩
                                                    · rw [if_neg c216] at H
                                                      exact absurd H (by simp)
                                                  · rw [if_neg c215] at H
                                                    exact absurd H (by simp)
                                                · rw [if_neg c214] at H
                                                  exact absurd H (by simp)
                                              · rw [if_neg c213] at H
                                                have c213b0 : ((bt a0 a1) == 62) = false := beq_eq_false_iff_ne.mpr c213
                                                have c213b1 : ((bt a0 a1) != 62) = true := bne_iff_ne.mpr c213
                                                simp only [Option.some.injEq, Prod.mk.injEq] at H
                                                obtain ⟨rfl, rfl, rfl, rfl, rfl⟩ := H
                                                have hcz218_0 : wc.cell? ⟨gb148, 0, none⟩ = some (.int .i64 0) := (blk_cell BK148.out 0).trans rfl
                                                have hcz218_1 : wc.cell? ⟨gb148, 1, none⟩ = some (.int .i64 0) := (blk_cell BK148.out 1).trans rfl
                                                have hcz218_2 : wc.cell? ⟨gb148, 2, none⟩ = some (.string (⟨#[]⟩ : ByteArray)) := (blk_cell BK148.out 2).trans rfl
                                                have hfz218_0 := blk_frozen BK148.out 0
                                                have hfz218_1 := blk_frozen BK148.out 1
                                                have hfz218_2 := blk_frozen BK148.out 2
                                                go_wp2
                                                refine bodyPost_ret (results_ctt rfl _ _ gb148 46 #[.int .i64 0, .int .i64 0, .string (⟨#[]⟩ : ByteArray)] (0, 0) _ rfl q39_ Tryd.underlying46 rfl (by kernel_rfl)) rfl ?_
                                                exact ⟨q4_, q0_⟩
          · rw [if_neg c63] at H
            exact absurd H (by simp)
        · rw [if_neg c62] at H
          exact absurd H (by simp)

end Go.Proofs.YtjcjndpfihchnaaDoor.P
