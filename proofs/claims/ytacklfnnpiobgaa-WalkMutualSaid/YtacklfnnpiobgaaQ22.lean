-- PRINTED by print.py (a twelfth state) out of the translation. Not trusted: Lean checks it.
import Derived.Test.YtacklfnnpiobgaaQ0
import Derived.Test.YtacklfnnpiobgaaQ21
namespace Go.Proofs.Ytacklfnnpiobgaa.Q
open Go.RowKit Go.Proofs.YtacklfnnpiobgaaW.PrintWords Go.Proofs.YtacklfnnpiobgaaW.PrintLast Go.Proofs.YtacklfnnpiobgaaW.PrintMore
attribute [local go_sem] max2_int min2_int max_two min_two max_three min_three max_four min_four   -- for this text's walks alone
set_option linter.unusedVariables false
set_option linter.unusedSimpArgs false

/-! ### compassref04_Levels: function 14 -/
mutual
def compassref04_Levels.l0 : Nat → Int → List Int → Int → Int → List (S41) → Option (List Int × Int)
  | 0, _, _, _, _, _ => none
  | k + 1, x1, x7, x8, x450000, x450001 => if x8 < x450000 then (if 0 ≤ x8 then (if x8 < (x7.length : Int) then (compassref04_Levels.l0 k x1 (x7.set (x8 : Int).toNat (-1)) (wrap64 (x8 + 1)) x450000 x450001) else (none)) else (none)) else (if 0 ≤ x1 then (if x1 < (x7.length : Int) then (compassref04_Levels.l1 k (x7.set (x1 : Int).toNat 0) 0 x450000 x450001) else (none)) else (none))
def compassref04_Levels.l1 : Nat → List Int → Int → Int → List (S41) → Option (List Int × Int)
  | 0, _, _, _, _ => none
  | k + 1, x7, x9, x450000, x450001 => if x9 < x450000 then (compassref04_Levels.l2 k x7 x9 0 x450000 x450001) else (some (x7, 0))
def compassref04_Levels.l2 : Nat → List Int → Int → Int → Int → List (S41) → Option (List Int × Int)
  | 0, _, _, _, _, _ => none
  | k + 1, x7, x9, x10, x450000, x450001 => if x10 < (x450001.length : Int) then (if 0 ≤ x10 then (if 0 ≤ ((rd_T41 x450001 x10).f0) then (if ((rd_T41 x450001 x10).f0) < (x7.length : Int) then (if (rd x7 ((rd_T41 x450001 x10).f0)) = x9 then (if 0 ≤ ((rd_T41 x450001 x10).f1) then (if ((rd_T41 x450001 x10).f1) < (x7.length : Int) then (if (rd x7 ((rd_T41 x450001 x10).f1)) < 0 then (compassref04_Levels.l2 k (x7.set (((rd_T41 x450001 x10).f1) : Int).toNat (wrap64 (x9 + 1))) x9 (wrap64 (x10 + 1)) x450000 x450001) else (compassref04_Levels.l2 k x7 x9 (wrap64 (x10 + 1)) x450000 x450001)) else (none)) else (none)) else (compassref04_Levels.l2 k x7 x9 (wrap64 (x10 + 1)) x450000 x450001)) else (none)) else (none)) else (none)) else (compassref04_Levels.l1 k x7 (wrap64 (x9 + 1)) x450000 x450001)
end
def compassref04_Levels.f (k : Nat) (a0_0 : Int) (l0_1 : List (S41)) (a1 : Int) : Option (List Int × Int) := (compassref04_Wrong.f k a0_0 l0_1 a1).bind fun t450 => (if t450 = 0 then (if 0 ≤ a0_0 then (if (a0_0 : Int).toNat ≤ 35184372088832 then (compassref04_Levels.l0 k a1 (List.replicate (a0_0 : Int).toNat 0) 0 a0_0 l0_1) else (none)) else (none)) else (some (([] : List Int), t450)))
theorem compassref04_Levels.mono_l : ∀ k, (∀ y0 y1 y2 y3 y4, LeO (compassref04_Levels.l0 k y0 y1 y2 y3 y4) (compassref04_Levels.l0 (k + 1) y0 y1 y2 y3 y4)) ∧ (∀ y0 y1 y2 y3, LeO (compassref04_Levels.l1 k y0 y1 y2 y3) (compassref04_Levels.l1 (k + 1) y0 y1 y2 y3)) ∧ (∀ y0 y1 y2 y3 y4, LeO (compassref04_Levels.l2 k y0 y1 y2 y3 y4) (compassref04_Levels.l2 (k + 1) y0 y1 y2 y3 y4))
  | 0 => ⟨fun _ _ _ _ _ r h => by simp [compassref04_Levels.l0] at h, fun _ _ _ _ r h => by simp [compassref04_Levels.l1] at h, fun _ _ _ _ _ r h => by simp [compassref04_Levels.l2] at h⟩
  | k + 1 => by
    obtain ⟨ih0, ih1, ih2⟩ := compassref04_Levels.mono_l k
    refine ⟨?_, ?_, ?_⟩
    · intro y0 y1 y2 y3 y4
      unfold compassref04_Levels.l0
      repeat' first
      | (with_reducible exact ih0 _ _ _ _ _)
      | (with_reducible exact ih1 _ _ _ _)
      | (with_reducible exact ih2 _ _ _ _ _)
      | (with_reducible exact compassref04_Wrong.mono _ _ _ _)
      | (with_reducible exact LeO.refl _)
      | (with_reducible exact LeO.none _)
      | (with_reducible refine LeO.ite ?_ ?_)
      | (with_reducible refine LeO.bind ?_ (fun _ => ?_))
      | exact ih0 _ _ _ _ _
      | exact ih1 _ _ _ _
      | exact ih2 _ _ _ _ _
      | exact compassref04_Wrong.mono _ _ _ _
      | exact LeO.none _
      | refine LeO.ite ?_ ?_
      | refine LeO.bind ?_ (fun _ => ?_)
    · intro y0 y1 y2 y3
      unfold compassref04_Levels.l1
      repeat' first
      | (with_reducible exact ih0 _ _ _ _ _)
      | (with_reducible exact ih1 _ _ _ _)
      | (with_reducible exact ih2 _ _ _ _ _)
      | (with_reducible exact compassref04_Wrong.mono _ _ _ _)
      | (with_reducible exact LeO.refl _)
      | (with_reducible exact LeO.none _)
      | (with_reducible refine LeO.ite ?_ ?_)
      | (with_reducible refine LeO.bind ?_ (fun _ => ?_))
      | exact ih0 _ _ _ _ _
      | exact ih1 _ _ _ _
      | exact ih2 _ _ _ _ _
      | exact compassref04_Wrong.mono _ _ _ _
      | exact LeO.none _
      | refine LeO.ite ?_ ?_
      | refine LeO.bind ?_ (fun _ => ?_)
    · intro y0 y1 y2 y3 y4
      unfold compassref04_Levels.l2
      repeat' first
      | (with_reducible exact ih0 _ _ _ _ _)
      | (with_reducible exact ih1 _ _ _ _)
      | (with_reducible exact ih2 _ _ _ _ _)
      | (with_reducible exact compassref04_Wrong.mono _ _ _ _)
      | (with_reducible exact LeO.refl _)
      | (with_reducible exact LeO.none _)
      | (with_reducible refine LeO.ite ?_ ?_)
      | (with_reducible refine LeO.bind ?_ (fun _ => ?_))
      | exact ih0 _ _ _ _ _
      | exact ih1 _ _ _ _
      | exact ih2 _ _ _ _ _
      | exact compassref04_Wrong.mono _ _ _ _
      | exact LeO.none _
      | refine LeO.ite ?_ ?_
      | refine LeO.bind ?_ (fun _ => ?_)
theorem compassref04_Levels.mono : ∀ a0 a1 a2 k, LeO (compassref04_Levels.f k a0 a1 a2) (compassref04_Levels.f (k + 1) a0 a1 a2) := by
  intro a0 a1 a2 k
  obtain ⟨ih0, ih1, ih2⟩ := compassref04_Levels.mono_l k
  unfold compassref04_Levels.f
  repeat' first
      | (with_reducible exact ih0 _ _ _ _ _)
      | (with_reducible exact ih1 _ _ _ _)
      | (with_reducible exact ih2 _ _ _ _ _)
      | (with_reducible exact compassref04_Wrong.mono _ _ _ _)
      | (with_reducible exact LeO.refl _)
      | (with_reducible exact LeO.none _)
      | (with_reducible refine LeO.ite ?_ ?_)
      | (with_reducible refine LeO.bind ?_ (fun _ => ?_))
      | exact ih0 _ _ _ _ _
      | exact ih1 _ _ _ _
      | exact ih2 _ _ _ _ _
      | exact compassref04_Wrong.mono _ _ _ _
      | exact LeO.none _
      | refine LeO.ite ?_ ?_
      | refine LeO.bind ?_ (fun _ => ?_)

end Go.Proofs.Ytacklfnnpiobgaa.Q
