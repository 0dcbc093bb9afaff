-- PRINTED by print.py (a twelfth state) out of the translation. Not trusted: Lean checks it.
import Derived.Test.YtacklfnnpiobgaaQ0
import Derived.Test.YtacklfnnpiobgaaQ11
import Derived.Test.YtacklfnnpiobgaaQ19
import Derived.Test.YtacklfnnpiobgaaQ22
namespace Go.Proofs.Ytacklfnnpiobgaa.Q
open Go.RowKit Go.Proofs.YtacklfnnpiobgaaW.PrintWords Go.Proofs.YtacklfnnpiobgaaW.PrintLast Go.Proofs.YtacklfnnpiobgaaW.PrintMore
attribute [local go_sem] max2_int min2_int max_two min_two max_three min_three max_four min_four   -- for this text's walks alone
set_option linter.unusedVariables false
set_option linter.unusedSimpArgs false

/-! ### compassref04_Strong: function 25 -/
mutual
def compassref04_Strong.l0 : Nat → List (List Int) → Int → Int → List (S41) → Option (List Int × Int)
  | 0, _, _, _, _ => none
  | k + 1, x6, x7, x462000, x462001 => if x7 < x462000 then ((compassref04_Levels.f k x462000 x462001 x7).bind fun bt467 => (if 0 ≤ x7 then (if x7 < (x6.length : Int) then (compassref04_Strong.l0 k (x6.set (x7 : Int).toNat bt467.1) (wrap64 (x7 + 1)) x462000 x462001) else (none)) else (none))) else (if 0 ≤ x462000 then (if (x462000 : Int).toNat ≤ 35184372088832 then (compassref04_Strong.l1 k x6 (List.replicate (x462000 : Int).toNat 0) 0 x462000 x462001) else (none)) else (none))
def compassref04_Strong.l1 : Nat → List (List Int) → List Int → Int → Int → List (S41) → Option (List Int × Int)
  | 0, _, _, _, _, _ => none
  | k + 1, x6, x8, x9, x462000, x462001 => if x9 < x462000 then (if 0 ≤ x9 then (if x9 < (x8.length : Int) then (compassref04_Strong.l2 k x6 (x8.set (x9 : Int).toNat x9) x9 (wrap64 (x462000 - 1)) x462000 x462001) else (none)) else (none)) else ((compassref04_Numbered.f k x8).bind fun t475 => (some (t475, 0)))
def compassref04_Strong.l2 : Nat → List (List Int) → List Int → Int → Int → Int → List (S41) → Option (List Int × Int)
  | 0, _, _, _, _, _, _ => none
  | k + 1, x6, x8, x9, x10, x462000, x462001 => if x10 ≥ 0 then (if 0 ≤ x10 then (if x10 < (x6.length : Int) then (if 0 ≤ x9 then (if x9 < ((rd_L2 x6 x10).length : Int) then (if (rd (rd_L2 x6 x10) x9) ≥ 0 then (if x9 < (x6.length : Int) then (if x10 < ((rd_L2 x6 x9).length : Int) then (if (rd (rd_L2 x6 x9) x10) ≥ 0 then (if x9 < (x8.length : Int) then (if x10 < (rd x8 x9) then (compassref04_Strong.l2 k x6 (x8.set (x9 : Int).toNat x10) x9 (wrap64 (x10 - 1)) x462000 x462001) else (compassref04_Strong.l2 k x6 x8 x9 (wrap64 (x10 - 1)) x462000 x462001)) else (none)) else (compassref04_Strong.l2 k x6 x8 x9 (wrap64 (x10 - 1)) x462000 x462001)) else (none)) else (none)) else (compassref04_Strong.l2 k x6 x8 x9 (wrap64 (x10 - 1)) x462000 x462001)) else (none)) else (none)) else (none)) else (none)) else (compassref04_Strong.l1 k x6 x8 (wrap64 (x9 + 1)) x462000 x462001)
end
def compassref04_Strong.f (k : Nat) (a0_0 : Int) (l0_1 : List (S41)) : Option (List Int × Int) := (compassref03_Check.f k a0_0 l0_1).bind fun bt462 => (if bt462.1 = 0 then (if 0 ≤ a0_0 then (if (a0_0 : Int).toNat ≤ 11728124029610 then (compassref04_Strong.l0 k (List.replicate (a0_0 : Int).toNat []) 0 a0_0 l0_1) else (none)) else (none)) else (some (([] : List Int), bt462.1)))
theorem compassref04_Strong.mono_l : ∀ k, (∀ y0 y1 y2 y3, LeO (compassref04_Strong.l0 k y0 y1 y2 y3) (compassref04_Strong.l0 (k + 1) y0 y1 y2 y3)) ∧ (∀ y0 y1 y2 y3 y4, LeO (compassref04_Strong.l1 k y0 y1 y2 y3 y4) (compassref04_Strong.l1 (k + 1) y0 y1 y2 y3 y4)) ∧ (∀ y0 y1 y2 y3 y4 y5, LeO (compassref04_Strong.l2 k y0 y1 y2 y3 y4 y5) (compassref04_Strong.l2 (k + 1) y0 y1 y2 y3 y4 y5))
  | 0 => ⟨fun _ _ _ _ r h => by simp [compassref04_Strong.l0] at h, fun _ _ _ _ _ r h => by simp [compassref04_Strong.l1] at h, fun _ _ _ _ _ _ r h => by simp [compassref04_Strong.l2] at h⟩
  | k + 1 => by
    obtain ⟨ih0, ih1, ih2⟩ := compassref04_Strong.mono_l k
    refine ⟨?_, ?_, ?_⟩
    · intro y0 y1 y2 y3
      unfold compassref04_Strong.l0
      repeat' first
      | (with_reducible exact ih0 _ _ _ _)
      | (with_reducible exact ih1 _ _ _ _ _)
      | (with_reducible exact ih2 _ _ _ _ _ _)
      | (with_reducible exact compassref03_Check.mono _ _ _)
      | (with_reducible exact compassref04_Levels.mono _ _ _ _)
      | (with_reducible exact compassref04_Numbered.mono _ _)
      | (with_reducible exact LeO.refl _)
      | (with_reducible exact LeO.none _)
      | (with_reducible refine LeO.ite ?_ ?_)
      | (with_reducible refine LeO.bind ?_ (fun _ => ?_))
      | exact ih0 _ _ _ _
      | exact ih1 _ _ _ _ _
      | exact ih2 _ _ _ _ _ _
      | exact compassref03_Check.mono _ _ _
      | exact compassref04_Levels.mono _ _ _ _
      | exact compassref04_Numbered.mono _ _
      | exact LeO.none _
      | refine LeO.ite ?_ ?_
      | refine LeO.bind ?_ (fun _ => ?_)
    · intro y0 y1 y2 y3 y4
      unfold compassref04_Strong.l1
      repeat' first
      | (with_reducible exact ih0 _ _ _ _)
      | (with_reducible exact ih1 _ _ _ _ _)
      | (with_reducible exact ih2 _ _ _ _ _ _)
      | (with_reducible exact compassref03_Check.mono _ _ _)
      | (with_reducible exact compassref04_Levels.mono _ _ _ _)
      | (with_reducible exact compassref04_Numbered.mono _ _)
      | (with_reducible exact LeO.refl _)
      | (with_reducible exact LeO.none _)
      | (with_reducible refine LeO.ite ?_ ?_)
      | (with_reducible refine LeO.bind ?_ (fun _ => ?_))
      | exact ih0 _ _ _ _
      | exact ih1 _ _ _ _ _
      | exact ih2 _ _ _ _ _ _
      | exact compassref03_Check.mono _ _ _
      | exact compassref04_Levels.mono _ _ _ _
      | exact compassref04_Numbered.mono _ _
      | exact LeO.none _
      | refine LeO.ite ?_ ?_
      | refine LeO.bind ?_ (fun _ => ?_)
    · intro y0 y1 y2 y3 y4 y5
      unfold compassref04_Strong.l2
      repeat' first
      | (with_reducible exact ih0 _ _ _ _)
      | (with_reducible exact ih1 _ _ _ _ _)
      | (with_reducible exact ih2 _ _ _ _ _ _)
      | (with_reducible exact compassref03_Check.mono _ _ _)
      | (with_reducible exact compassref04_Levels.mono _ _ _ _)
      | (with_reducible exact compassref04_Numbered.mono _ _)
      | (with_reducible exact LeO.refl _)
      | (with_reducible exact LeO.none _)
      | (with_reducible refine LeO.ite ?_ ?_)
      | (with_reducible refine LeO.bind ?_ (fun _ => ?_))
      | exact ih0 _ _ _ _
      | exact ih1 _ _ _ _ _
      | exact ih2 _ _ _ _ _ _
      | exact compassref03_Check.mono _ _ _
      | exact compassref04_Levels.mono _ _ _ _
      | exact compassref04_Numbered.mono _ _
      | exact LeO.none _
      | refine LeO.ite ?_ ?_
      | refine LeO.bind ?_ (fun _ => ?_)
theorem compassref04_Strong.mono : ∀ a0 a1 k, LeO (compassref04_Strong.f k a0 a1) (compassref04_Strong.f (k + 1) a0 a1) := by
  intro a0 a1 k
  obtain ⟨ih0, ih1, ih2⟩ := compassref04_Strong.mono_l k
  unfold compassref04_Strong.f
  repeat' first
      | (with_reducible exact ih0 _ _ _ _)
      | (with_reducible exact ih1 _ _ _ _ _)
      | (with_reducible exact ih2 _ _ _ _ _ _)
      | (with_reducible exact compassref03_Check.mono _ _ _)
      | (with_reducible exact compassref04_Levels.mono _ _ _ _)
      | (with_reducible exact compassref04_Numbered.mono _ _)
      | (with_reducible exact LeO.refl _)
      | (with_reducible exact LeO.none _)
      | (with_reducible refine LeO.ite ?_ ?_)
      | (with_reducible refine LeO.bind ?_ (fun _ => ?_))
      | exact ih0 _ _ _ _
      | exact ih1 _ _ _ _ _
      | exact ih2 _ _ _ _ _ _
      | exact compassref03_Check.mono _ _ _
      | exact compassref04_Levels.mono _ _ _ _
      | exact compassref04_Numbered.mono _ _
      | exact LeO.none _
      | refine LeO.ite ?_ ?_
      | refine LeO.bind ?_ (fun _ => ?_)

end Go.Proofs.Ytacklfnnpiobgaa.Q
