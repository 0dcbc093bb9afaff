-- PRINTED by print.py (a twelfth state) out of the translation. Not trusted: Lean checks it.
import Derived.Test.YtacklfnnpiobgaaQ0
namespace Go.Proofs.Ytacklfnnpiobgaa.Q
open Go.RowKit Go.Proofs.YtacklfnnpiobgaaW.PrintWords Go.Proofs.YtacklfnnpiobgaaW.PrintLast Go.Proofs.YtacklfnnpiobgaaW.PrintMore
attribute [local go_sem] max2_int min2_int max_two min_two max_three min_three max_four min_four   -- for this text's walks alone
set_option linter.unusedVariables false
set_option linter.unusedSimpArgs false

/-! ### compassref04_visit: function 37 -/
mutual
def compassref04_visit.l0 : Nat → Int → Int → Int → List (S41) → List Int → List Int → Int → Option (List Int × List Int × Int)
  | 0, _, _, _, _, _, _, _ => none
  | k + 1, x2, x7, x239000, x239001, x240000, x240001, x240002 => if x7 < (x239001.length : Int) then (if 0 ≤ x7 then (if ((rd_T41 x239001 x7).f0) = x2 then (if 0 ≤ ((rd_T41 x239001 x7).f1) then (if ((rd_T41 x239001 x7).f1) < (x240000.length : Int) then (if (rd x240000 ((rd_T41 x239001 x7).f1)) < 0 then ((compassref04_visit.f k x239000 x239001 x240000 x240001 x240002 ((rd_T41 x239001 x7).f1)).bind fun bt246 => (compassref04_visit.l0 k x2 (wrap64 (x7 + 1)) x239000 x239001 bt246.1 bt246.2.1 bt246.2.2)) else (compassref04_visit.l0 k x2 (wrap64 (x7 + 1)) x239000 x239001 x240000 x240001 x240002)) else (none)) else (none)) else (compassref04_visit.l0 k x2 (wrap64 (x7 + 1)) x239000 x239001 x240000 x240001 x240002)) else (none)) else (if 0 ≤ x2 then (if x2 < (x240001.length : Int) then (some (x240000, (x240001.set (x2 : Int).toNat x240002), wrap64 (x240002 + 1))) else (none)) else (none))
def compassref04_visit.f : Nat → Int → List (S41) → List Int → List Int → Int → Int → Option (List Int × List Int × Int)
  | 0, _, _, _, _, _, _ => none
  | k + 1, a0_0, l0_1, l1_0, l1_1, a1_2, a2 => if 0 ≤ a2 then (if a2 < (l1_0.length : Int) then (compassref04_visit.l0 k a2 0 a0_0 l0_1 (l1_0.set (a2 : Int).toNat a1_2) l1_1 (wrap64 (a1_2 + 1))) else (none)) else (none)
end
theorem compassref04_visit.mono_l : ∀ k, (∀ y0 y1 y2 y3 y4 y5, LeO (compassref04_visit.f k y0 y1 y2 y3 y4 y5) (compassref04_visit.f (k + 1) y0 y1 y2 y3 y4 y5)) ∧ (∀ y0 y1 y2 y3 y4 y5 y6, LeO (compassref04_visit.l0 k y0 y1 y2 y3 y4 y5 y6) (compassref04_visit.l0 (k + 1) y0 y1 y2 y3 y4 y5 y6))
  | 0 => ⟨fun _ _ _ _ _ _ r h => by simp [compassref04_visit.f] at h, fun _ _ _ _ _ _ _ r h => by simp [compassref04_visit.l0] at h⟩
  | k + 1 => by
    obtain ⟨ih0, ih1⟩ := compassref04_visit.mono_l k
    refine ⟨?_, ?_⟩
    · intro y0 y1 y2 y3 y4 y5
      unfold compassref04_visit.f
      repeat' first
      | (with_reducible exact ih0 _ _ _ _ _ _)
      | (with_reducible exact ih1 _ _ _ _ _ _ _)
      | (with_reducible exact LeO.refl _)
      | (with_reducible exact LeO.none _)
      | (with_reducible refine LeO.ite ?_ ?_)
      | (with_reducible refine LeO.bind ?_ (fun _ => ?_))
      | exact ih0 _ _ _ _ _ _
      | exact ih1 _ _ _ _ _ _ _
      | exact LeO.none _
      | refine LeO.ite ?_ ?_
      | refine LeO.bind ?_ (fun _ => ?_)
    · intro y0 y1 y2 y3 y4 y5 y6
      unfold compassref04_visit.l0
      repeat' first
      | (with_reducible exact ih0 _ _ _ _ _ _)
      | (with_reducible exact ih1 _ _ _ _ _ _ _)
      | (with_reducible exact LeO.refl _)
      | (with_reducible exact LeO.none _)
      | (with_reducible refine LeO.ite ?_ ?_)
      | (with_reducible refine LeO.bind ?_ (fun _ => ?_))
      | exact ih0 _ _ _ _ _ _
      | exact ih1 _ _ _ _ _ _ _
      | exact LeO.none _
      | refine LeO.ite ?_ ?_
      | refine LeO.bind ?_ (fun _ => ?_)
theorem compassref04_visit.mono : ∀ a0 a1 a2 a3 a4 a5 k, LeO (compassref04_visit.f k a0 a1 a2 a3 a4 a5) (compassref04_visit.f (k + 1) a0 a1 a2 a3 a4 a5) := by
  intro a0 a1 a2 a3 a4 a5 k
  obtain ⟨ih0, ih1⟩ := compassref04_visit.mono_l k
  exact ih0 a0 a1 a2 a3 a4 a5
end Go.Proofs.Ytacklfnnpiobgaa.Q
