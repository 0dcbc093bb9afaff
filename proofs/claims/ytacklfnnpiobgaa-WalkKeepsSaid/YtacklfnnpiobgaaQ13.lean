-- PRINTED by print.py (a twelfth state) out of the translation. Not trusted: Lean checks it.
import Derived.Test.YtacklfnnpiobgaaQ0
import Derived.Test.YtacklfnnpiobgaaQ11
import Derived.Test.YtacklfnnpiobgaaQ12
namespace Go.Proofs.Ytacklfnnpiobgaa.Q
open Go.RowKit Go.Proofs.YtacklfnnpiobgaaW.PrintWords Go.Proofs.YtacklfnnpiobgaaW.PrintLast Go.Proofs.YtacklfnnpiobgaaW.PrintMore
attribute [local go_sem] max2_int min2_int max_two min_two max_three min_three max_four min_four   -- for this text's walks alone
set_option linter.unusedVariables false
set_option linter.unusedSimpArgs false

/-! ### compassref04_Visit: function 20 -/
mutual
def compassref04_Visit.l0 : Nat → Int → Int → List (S41) → List Int → List Int → Int → Option (List Int × List Int × Int)
  | 0, _, _, _, _, _, _ => none
  | k + 1, x8, x255000, x255001, x264000, x264001, x264002 => if x8 < x255000 then (if 0 ≤ x8 then (if x8 < (x264000.length : Int) then (if x8 < (x264001.length : Int) then (compassref04_Visit.l0 k (wrap64 (x8 + 1)) x255000 x255001 (x264000.set (x8 : Int).toNat (-1)) (x264001.set (x8 : Int).toNat (-1)) x264002) else (none)) else (none)) else (none)) else (compassref04_Visit.l1 k 0 x255000 x255001 x264000 x264001 x264002)
def compassref04_Visit.l1 : Nat → Int → Int → List (S41) → List Int → List Int → Int → Option (List Int × List Int × Int)
  | 0, _, _, _, _, _, _ => none
  | k + 1, x9, x255000, x255001, x264000, x264001, x264002 => if x9 < x255000 then (if 0 ≤ x9 then (if x9 < (x264000.length : Int) then (if (rd x264000 x9) < 0 then ((compassref04_visit.f k x255000 x255001 x264000 x264001 x264002 x9).bind fun bt267 => (compassref04_Visit.l1 k (wrap64 (x9 + 1)) x255000 x255001 bt267.1 bt267.2.1 bt267.2.2)) else (compassref04_Visit.l1 k (wrap64 (x9 + 1)) x255000 x255001 x264000 x264001 x264002)) else (none)) else (none)) else (some (x264000, x264001, 0))
end
def compassref04_Visit.f (k : Nat) (a0_0 : Int) (l0_1 : List (S41)) : Option (List Int × List Int × Int) := (compassref03_Check.f k a0_0 l0_1).bind fun bt255 => (if bt255.1 = 0 then (if 0 ≤ a0_0 then (if (a0_0 : Int).toNat ≤ 35184372088832 then (compassref04_Visit.l0 k 0 a0_0 l0_1 (List.replicate (a0_0 : Int).toNat 0) (List.replicate (a0_0 : Int).toNat 0) 0) else (none)) else (none)) else (some (([] : List Int), ([] : List Int), bt255.1)))
theorem compassref04_Visit.mono_l : ∀ k, (∀ y0 y1 y2 y3 y4 y5, LeO (compassref04_Visit.l0 k y0 y1 y2 y3 y4 y5) (compassref04_Visit.l0 (k + 1) y0 y1 y2 y3 y4 y5)) ∧ (∀ y0 y1 y2 y3 y4 y5, LeO (compassref04_Visit.l1 k y0 y1 y2 y3 y4 y5) (compassref04_Visit.l1 (k + 1) y0 y1 y2 y3 y4 y5))
  | 0 => ⟨fun _ _ _ _ _ _ r h => by simp [compassref04_Visit.l0] at h, fun _ _ _ _ _ _ r h => by simp [compassref04_Visit.l1] at h⟩
  | k + 1 => by
    obtain ⟨ih0, ih1⟩ := compassref04_Visit.mono_l k
    refine ⟨?_, ?_⟩
    · intro y0 y1 y2 y3 y4 y5
      unfold compassref04_Visit.l0
      repeat' first
      | (with_reducible exact ih0 _ _ _ _ _ _)
      | (with_reducible exact ih1 _ _ _ _ _ _)
      | (with_reducible exact compassref03_Check.mono _ _ _)
      | (with_reducible exact compassref04_visit.mono _ _ _ _ _ _ _)
      | (with_reducible exact LeO.refl _)
      | (with_reducible exact LeO.none _)
      | (with_reducible refine LeO.ite ?_ ?_)
      | (with_reducible refine LeO.bind ?_ (fun _ => ?_))
      | exact ih0 _ _ _ _ _ _
      | exact ih1 _ _ _ _ _ _
      | exact compassref03_Check.mono _ _ _
      | exact compassref04_visit.mono _ _ _ _ _ _ _
      | exact LeO.none _
      | refine LeO.ite ?_ ?_
      | refine LeO.bind ?_ (fun _ => ?_)
    · intro y0 y1 y2 y3 y4 y5
      unfold compassref04_Visit.l1
      repeat' first
      | (with_reducible exact ih0 _ _ _ _ _ _)
      | (with_reducible exact ih1 _ _ _ _ _ _)
      | (with_reducible exact compassref03_Check.mono _ _ _)
      | (with_reducible exact compassref04_visit.mono _ _ _ _ _ _ _)
      | (with_reducible exact LeO.refl _)
      | (with_reducible exact LeO.none _)
      | (with_reducible refine LeO.ite ?_ ?_)
      | (with_reducible refine LeO.bind ?_ (fun _ => ?_))
      | exact ih0 _ _ _ _ _ _
      | exact ih1 _ _ _ _ _ _
      | exact compassref03_Check.mono _ _ _
      | exact compassref04_visit.mono _ _ _ _ _ _ _
      | exact LeO.none _
      | refine LeO.ite ?_ ?_
      | refine LeO.bind ?_ (fun _ => ?_)
theorem compassref04_Visit.mono : ∀ a0 a1 k, LeO (compassref04_Visit.f k a0 a1) (compassref04_Visit.f (k + 1) a0 a1) := by
  intro a0 a1 k
  obtain ⟨ih0, ih1⟩ := compassref04_Visit.mono_l k
  unfold compassref04_Visit.f
  repeat' first
      | (with_reducible exact ih0 _ _ _ _ _ _)
      | (with_reducible exact ih1 _ _ _ _ _ _)
      | (with_reducible exact compassref03_Check.mono _ _ _)
      | (with_reducible exact compassref04_visit.mono _ _ _ _ _ _ _)
      | (with_reducible exact LeO.refl _)
      | (with_reducible exact LeO.none _)
      | (with_reducible refine LeO.ite ?_ ?_)
      | (with_reducible refine LeO.bind ?_ (fun _ => ?_))
      | exact ih0 _ _ _ _ _ _
      | exact ih1 _ _ _ _ _ _
      | exact compassref03_Check.mono _ _ _
      | exact compassref04_visit.mono _ _ _ _ _ _ _
      | exact LeO.none _
      | refine LeO.ite ?_ ?_
      | refine LeO.bind ?_ (fun _ => ?_)

end Go.Proofs.Ytacklfnnpiobgaa.Q
