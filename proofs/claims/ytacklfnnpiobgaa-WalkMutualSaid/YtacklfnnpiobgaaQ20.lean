-- PRINTED by print.py (a twelfth state) out of the translation. Not trusted: Lean checks it.
import Derived.Test.YtacklfnnpiobgaaQ0
import Derived.Test.YtacklfnnpiobgaaQ11
import Derived.Test.YtacklfnnpiobgaaQ19
namespace Go.Proofs.Ytacklfnnpiobgaa.Q
open Go.RowKit Go.Proofs.YtacklfnnpiobgaaW.PrintWords Go.Proofs.YtacklfnnpiobgaaW.PrintLast Go.Proofs.YtacklfnnpiobgaaW.PrintMore
attribute [local go_sem] max2_int min2_int max_two min_two max_three min_three max_four min_four   -- for this text's walks alone
set_option linter.unusedVariables false
set_option linter.unusedSimpArgs false

/-! ### compassref04_Parts: function 24 -/
mutual
def compassref04_Parts.l0 : Nat → List Int → Int → Int → List (S41) → Option (List Int × Int)
  | 0, _, _, _, _ => none
  | k + 1, x6, x7, x429000, x429001 => if x7 < x429000 then (if 0 ≤ x7 then (if x7 < (x6.length : Int) then (compassref04_Parts.l0 k (x6.set (x7 : Int).toNat x7) (wrap64 (x7 + 1)) x429000 x429001) else (none)) else (none)) else (compassref04_Parts.l1 k x6 0 x429000 x429001)
def compassref04_Parts.l1 : Nat → List Int → Int → Int → List (S41) → Option (List Int × Int)
  | 0, _, _, _, _ => none
  | k + 1, x6, x8, x429000, x429001 => if x8 < x429000 then (compassref04_Parts.l2 k x6 x8 0 x429000 x429001) else ((compassref04_Numbered.f k x6).bind fun t435 => (some (t435, 0)))
def compassref04_Parts.l2 : Nat → List Int → Int → Int → Int → List (S41) → Option (List Int × Int)
  | 0, _, _, _, _, _ => none
  | k + 1, x6, x8, x9, x429000, x429001 => if x9 < (x429001.length : Int) then (if 0 ≤ x9 then (if 0 ≤ ((rd_T41 x429001 x9).f0) then (if ((rd_T41 x429001 x9).f0) < (x6.length : Int) then (if 0 ≤ ((rd_T41 x429001 x9).f1) then (if ((rd_T41 x429001 x9).f1) < (x6.length : Int) then (if (rd x6 ((rd_T41 x429001 x9).f0)) < (rd x6 ((rd_T41 x429001 x9).f1)) then (compassref04_Parts.l2 k (x6.set (((rd_T41 x429001 x9).f1) : Int).toNat (rd x6 ((rd_T41 x429001 x9).f0))) x8 (wrap64 (x9 + 1)) x429000 x429001) else (compassref04_Parts.l2 k (x6.set (((rd_T41 x429001 x9).f0) : Int).toNat (rd x6 ((rd_T41 x429001 x9).f1))) x8 (wrap64 (x9 + 1)) x429000 x429001)) else (none)) else (none)) else (none)) else (none)) else (none)) else (compassref04_Parts.l1 k x6 (wrap64 (x8 + 1)) x429000 x429001)
end
def compassref04_Parts.f (k : Nat) (a0_0 : Int) (l0_1 : List (S41)) : Option (List Int × Int) := (compassref03_Check.f k a0_0 l0_1).bind fun bt429 => (if bt429.1 = 0 then (if 0 ≤ a0_0 then (if (a0_0 : Int).toNat ≤ 35184372088832 then (compassref04_Parts.l0 k (List.replicate (a0_0 : Int).toNat 0) 0 a0_0 l0_1) else (none)) else (none)) else (some (([] : List Int), bt429.1)))
theorem compassref04_Parts.mono_l : ∀ k, (∀ y0 y1 y2 y3, LeO (compassref04_Parts.l0 k y0 y1 y2 y3) (compassref04_Parts.l0 (k + 1) y0 y1 y2 y3)) ∧ (∀ y0 y1 y2 y3, LeO (compassref04_Parts.l1 k y0 y1 y2 y3) (compassref04_Parts.l1 (k + 1) y0 y1 y2 y3)) ∧ (∀ y0 y1 y2 y3 y4, LeO (compassref04_Parts.l2 k y0 y1 y2 y3 y4) (compassref04_Parts.l2 (k + 1) y0 y1 y2 y3 y4))
  | 0 => ⟨fun _ _ _ _ r h => by simp [compassref04_Parts.l0] at h, fun _ _ _ _ r h => by simp [compassref04_Parts.l1] at h, fun _ _ _ _ _ r h => by simp [compassref04_Parts.l2] at h⟩
  | k + 1 => by
    obtain ⟨ih0, ih1, ih2⟩ := compassref04_Parts.mono_l k
    refine ⟨?_, ?_, ?_⟩
    · intro y0 y1 y2 y3
      unfold compassref04_Parts.l0
      repeat' first
      | (with_reducible exact ih0 _ _ _ _)
      | (with_reducible exact ih1 _ _ _ _)
      | (with_reducible exact ih2 _ _ _ _ _)
      | (with_reducible exact compassref03_Check.mono _ _ _)
      | (with_reducible exact compassref04_Numbered.mono _ _)
      | (with_reducible exact LeO.refl _)
      | (with_reducible exact LeO.none _)
      | (with_reducible refine LeO.ite ?_ ?_)
      | (with_reducible refine LeO.bind ?_ (fun _ => ?_))
      | exact ih0 _ _ _ _
      | exact ih1 _ _ _ _
      | exact ih2 _ _ _ _ _
      | exact compassref03_Check.mono _ _ _
      | exact compassref04_Numbered.mono _ _
      | exact LeO.none _
      | refine LeO.ite ?_ ?_
      | refine LeO.bind ?_ (fun _ => ?_)
    · intro y0 y1 y2 y3
      unfold compassref04_Parts.l1
      repeat' first
      | (with_reducible exact ih0 _ _ _ _)
      | (with_reducible exact ih1 _ _ _ _)
      | (with_reducible exact ih2 _ _ _ _ _)
      | (with_reducible exact compassref03_Check.mono _ _ _)
      | (with_reducible exact compassref04_Numbered.mono _ _)
      | (with_reducible exact LeO.refl _)
      | (with_reducible exact LeO.none _)
      | (with_reducible refine LeO.ite ?_ ?_)
      | (with_reducible refine LeO.bind ?_ (fun _ => ?_))
      | exact ih0 _ _ _ _
      | exact ih1 _ _ _ _
      | exact ih2 _ _ _ _ _
      | exact compassref03_Check.mono _ _ _
      | exact compassref04_Numbered.mono _ _
      | exact LeO.none _
      | refine LeO.ite ?_ ?_
      | refine LeO.bind ?_ (fun _ => ?_)
    · intro y0 y1 y2 y3 y4
      unfold compassref04_Parts.l2
      repeat' first
      | (with_reducible exact ih0 _ _ _ _)
      | (with_reducible exact ih1 _ _ _ _)
      | (with_reducible exact ih2 _ _ _ _ _)
      | (with_reducible exact compassref03_Check.mono _ _ _)
      | (with_reducible exact compassref04_Numbered.mono _ _)
      | (with_reducible exact LeO.refl _)
      | (with_reducible exact LeO.none _)
      | (with_reducible refine LeO.ite ?_ ?_)
      | (with_reducible refine LeO.bind ?_ (fun _ => ?_))
      | exact ih0 _ _ _ _
      | exact ih1 _ _ _ _
      | exact ih2 _ _ _ _ _
      | exact compassref03_Check.mono _ _ _
      | exact compassref04_Numbered.mono _ _
      | exact LeO.none _
      | refine LeO.ite ?_ ?_
      | refine LeO.bind ?_ (fun _ => ?_)
theorem compassref04_Parts.mono : ∀ a0 a1 k, LeO (compassref04_Parts.f k a0 a1) (compassref04_Parts.f (k + 1) a0 a1) := by
  intro a0 a1 k
  obtain ⟨ih0, ih1, ih2⟩ := compassref04_Parts.mono_l k
  unfold compassref04_Parts.f
  repeat' first
      | (with_reducible exact ih0 _ _ _ _)
      | (with_reducible exact ih1 _ _ _ _)
      | (with_reducible exact ih2 _ _ _ _ _)
      | (with_reducible exact compassref03_Check.mono _ _ _)
      | (with_reducible exact compassref04_Numbered.mono _ _)
      | (with_reducible exact LeO.refl _)
      | (with_reducible exact LeO.none _)
      | (with_reducible refine LeO.ite ?_ ?_)
      | (with_reducible refine LeO.bind ?_ (fun _ => ?_))
      | exact ih0 _ _ _ _
      | exact ih1 _ _ _ _
      | exact ih2 _ _ _ _ _
      | exact compassref03_Check.mono _ _ _
      | exact compassref04_Numbered.mono _ _
      | exact LeO.none _
      | refine LeO.ite ?_ ?_
      | refine LeO.bind ?_ (fun _ => ?_)

end Go.Proofs.Ytacklfnnpiobgaa.Q
