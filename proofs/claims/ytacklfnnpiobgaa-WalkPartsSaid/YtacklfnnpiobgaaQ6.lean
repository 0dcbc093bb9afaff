-- PRINTED by print.py (a twelfth state) out of the translation. Not trusted: Lean checks it.
import Derived.Test.YtacklfnnpiobgaaQ0
import Derived.Test.YtacklfnnpiobgaaQ3
import Derived.Test.YtacklfnnpiobgaaQ4
import Derived.Test.YtacklfnnpiobgaaQ5
namespace Go.Proofs.Ytacklfnnpiobgaa.Q
open Go.RowKit Go.Proofs.YtacklfnnpiobgaaW.PrintWords Go.Proofs.YtacklfnnpiobgaaW.PrintLast Go.Proofs.YtacklfnnpiobgaaW.PrintMore
attribute [local go_sem] max2_int min2_int max_two min_two max_three min_three max_four min_four   -- for this text's walks alone
set_option linter.unusedVariables false
set_option linter.unusedSimpArgs false

/-! ### walk_Levels: function 13 -/
mutual
def walk_Levels.j0 : Nat → Int → Bool → Int → List (S41) → Option (List Int × Int)
  | 0, _, _, _, _ => none
  | k + 1, x1, x28, x123000, x123001 => if x28 = true then (some (([] : List Int), 30)) else ((walk_outs.f k x123000 x123001).bind fun t126 => ((walk_filled.f k x123000 (-1)).bind fun t129 => (if 0 ≤ x1 then (if x1 < (t129.length : Int) then (walk_Levels.l0 k t126 (t129.set (x1 : Int).toNat 0) (([x1] : List Int)) x123000 x123001) else (none)) else (none))))
def walk_Levels.l0 : Nat → List (List Int) → List Int → List Int → Int → List (S41) → Option (List Int × Int)
  | 0, _, _, _, _, _ => none
  | k + 1, x7, x8, x9, x123000, x123001 => if (x9.length : Int) > 0 then (if 0 < (x9.length : Int) then (if 1 ≤ (x9.length : Int) then (if 0 ≤ (rd x9 0) then (if (rd x9 0) < (x7.length : Int) then (walk_Levels.l1 k x7 x8 (x9.drop (1 : Int).toNat) (rd x9 0) (rd_L2 x7 (rd x9 0)) ((rd_L2 x7 (rd x9 0)).length : Int) 0 x123000 x123001) else (none)) else (none)) else (none)) else (none)) else (some (x8, 0))
def walk_Levels.l1 : Nat → List (List Int) → List Int → List Int → Int → List Int → Int → Int → Int → List (S41) → Option (List Int × Int)
  | 0, _, _, _, _, _, _, _, _, _ => none
  | k + 1, x7, x8, x9, x10, x50, x51, x52, x123000, x123001 => if x52 < x51 then (if 0 ≤ x52 then (if x52 < (x50.length : Int) then (if 0 ≤ (rd x50 x52) then (if (rd x50 x52) < (x123001.length : Int) then (if 0 ≤ ((rd_T41 x123001 (rd x50 x52)).f1) then (if ((rd_T41 x123001 (rd x50 x52)).f1) < (x8.length : Int) then (if (rd x8 ((rd_T41 x123001 (rd x50 x52)).f1)) < 0 then (if 0 ≤ x10 then (if x10 < (x8.length : Int) then (if x9.length < 17592186044416 then (walk_Levels.l1 k x7 (x8.set (((rd_T41 x123001 (rd x50 x52)).f1) : Int).toNat (wrap64 ((rd x8 x10) + 1))) (x9 ++ [(rd_T41 x123001 (rd x50 x52)).f1]) x10 x50 x51 (wrap64 (x52 + 1)) x123000 x123001) else (none)) else (none)) else (none)) else (walk_Levels.l1 k x7 x8 x9 x10 x50 x51 (wrap64 (x52 + 1)) x123000 x123001)) else (none)) else (none)) else (none)) else (none)) else (none)) else (none)) else (walk_Levels.l0 k x7 x8 x9 x123000 x123001)
end
def walk_Levels.f (k : Nat) (a0_0 : Int) (l0_1 : List (S41)) (a1 : Int) : Option (List Int × Int) := (graph_Check.f k a0_0 l0_1).bind fun bt123 => (if bt123.1 = 0 then (if a1 < 0 then (walk_Levels.j0 k a1 true a0_0 l0_1) else (walk_Levels.j0 k a1 (decide (a1 ≥ a0_0)) a0_0 l0_1)) else (some (([] : List Int), bt123.1)))
theorem walk_Levels.mono_l : ∀ k, (∀ y0 y1 y2 y3, LeO (walk_Levels.j0 k y0 y1 y2 y3) (walk_Levels.j0 (k + 1) y0 y1 y2 y3)) ∧ (∀ y0 y1 y2 y3 y4, LeO (walk_Levels.l0 k y0 y1 y2 y3 y4) (walk_Levels.l0 (k + 1) y0 y1 y2 y3 y4)) ∧ (∀ y0 y1 y2 y3 y4 y5 y6 y7 y8, LeO (walk_Levels.l1 k y0 y1 y2 y3 y4 y5 y6 y7 y8) (walk_Levels.l1 (k + 1) y0 y1 y2 y3 y4 y5 y6 y7 y8))
  | 0 => ⟨fun _ _ _ _ r h => by simp [walk_Levels.j0] at h, fun _ _ _ _ _ r h => by simp [walk_Levels.l0] at h, fun _ _ _ _ _ _ _ _ _ r h => by simp [walk_Levels.l1] at h⟩
  | k + 1 => by
    obtain ⟨ih0, ih1, ih2⟩ := walk_Levels.mono_l k
    refine ⟨?_, ?_, ?_⟩
    · intro y0 y1 y2 y3
      unfold walk_Levels.j0
      repeat' first
      | (with_reducible exact ih0 _ _ _ _)
      | (with_reducible exact ih1 _ _ _ _ _)
      | (with_reducible exact ih2 _ _ _ _ _ _ _ _ _)
      | (with_reducible exact graph_Check.mono _ _ _)
      | (with_reducible exact walk_filled.mono _ _ _)
      | (with_reducible exact walk_outs.mono _ _ _)
      | (with_reducible exact LeO.refl _)
      | (with_reducible exact LeO.none _)
      | (with_reducible refine LeO.ite ?_ ?_)
      | (with_reducible refine LeO.bind ?_ (fun _ => ?_))
      | exact ih0 _ _ _ _
      | exact ih1 _ _ _ _ _
      | exact ih2 _ _ _ _ _ _ _ _ _
      | exact graph_Check.mono _ _ _
      | exact walk_filled.mono _ _ _
      | exact walk_outs.mono _ _ _
      | exact LeO.none _
      | refine LeO.ite ?_ ?_
      | refine LeO.bind ?_ (fun _ => ?_)
    · intro y0 y1 y2 y3 y4
      unfold walk_Levels.l0
      repeat' first
      | (with_reducible exact ih0 _ _ _ _)
      | (with_reducible exact ih1 _ _ _ _ _)
      | (with_reducible exact ih2 _ _ _ _ _ _ _ _ _)
      | (with_reducible exact graph_Check.mono _ _ _)
      | (with_reducible exact walk_filled.mono _ _ _)
      | (with_reducible exact walk_outs.mono _ _ _)
      | (with_reducible exact LeO.refl _)
      | (with_reducible exact LeO.none _)
      | (with_reducible refine LeO.ite ?_ ?_)
      | (with_reducible refine LeO.bind ?_ (fun _ => ?_))
      | exact ih0 _ _ _ _
      | exact ih1 _ _ _ _ _
      | exact ih2 _ _ _ _ _ _ _ _ _
      | exact graph_Check.mono _ _ _
      | exact walk_filled.mono _ _ _
      | exact walk_outs.mono _ _ _
      | exact LeO.none _
      | refine LeO.ite ?_ ?_
      | refine LeO.bind ?_ (fun _ => ?_)
    · intro y0 y1 y2 y3 y4 y5 y6 y7 y8
      unfold walk_Levels.l1
      repeat' first
      | (with_reducible exact ih0 _ _ _ _)
      | (with_reducible exact ih1 _ _ _ _ _)
      | (with_reducible exact ih2 _ _ _ _ _ _ _ _ _)
      | (with_reducible exact graph_Check.mono _ _ _)
      | (with_reducible exact walk_filled.mono _ _ _)
      | (with_reducible exact walk_outs.mono _ _ _)
      | (with_reducible exact LeO.refl _)
      | (with_reducible exact LeO.none _)
      | (with_reducible refine LeO.ite ?_ ?_)
      | (with_reducible refine LeO.bind ?_ (fun _ => ?_))
      | exact ih0 _ _ _ _
      | exact ih1 _ _ _ _ _
      | exact ih2 _ _ _ _ _ _ _ _ _
      | exact graph_Check.mono _ _ _
      | exact walk_filled.mono _ _ _
      | exact walk_outs.mono _ _ _
      | exact LeO.none _
      | refine LeO.ite ?_ ?_
      | refine LeO.bind ?_ (fun _ => ?_)
theorem walk_Levels.mono : ∀ a0 a1 a2 k, LeO (walk_Levels.f k a0 a1 a2) (walk_Levels.f (k + 1) a0 a1 a2) := by
  intro a0 a1 a2 k
  obtain ⟨ih0, ih1, ih2⟩ := walk_Levels.mono_l k
  unfold walk_Levels.f
  repeat' first
      | (with_reducible exact ih0 _ _ _ _)
      | (with_reducible exact ih1 _ _ _ _ _)
      | (with_reducible exact ih2 _ _ _ _ _ _ _ _ _)
      | (with_reducible exact graph_Check.mono _ _ _)
      | (with_reducible exact walk_filled.mono _ _ _)
      | (with_reducible exact walk_outs.mono _ _ _)
      | (with_reducible exact LeO.refl _)
      | (with_reducible exact LeO.none _)
      | (with_reducible refine LeO.ite ?_ ?_)
      | (with_reducible refine LeO.bind ?_ (fun _ => ?_))
      | exact ih0 _ _ _ _
      | exact ih1 _ _ _ _ _
      | exact ih2 _ _ _ _ _ _ _ _ _
      | exact graph_Check.mono _ _ _
      | exact walk_filled.mono _ _ _
      | exact walk_outs.mono _ _ _
      | exact LeO.none _
      | refine LeO.ite ?_ ?_
      | refine LeO.bind ?_ (fun _ => ?_)

end Go.Proofs.Ytacklfnnpiobgaa.Q
