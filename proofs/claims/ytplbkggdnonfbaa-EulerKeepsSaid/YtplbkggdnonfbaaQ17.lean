import Derived.Test.YtplbkggdnonfbaaQ0
import Derived.Test.YtplbkggdnonfbaaQ16
namespace Go.Proofs.Ytplbkggdnonfbaa.Q
open Go.RowKit Go.Proofs.YtplbkggdnonfbaaW.PrintWords Go.Proofs.YtplbkggdnonfbaaW.PrintLast Go.Proofs.YtplbkggdnonfbaaW.PrintMore
attribute [local go_sem] max2_int min2_int max_two min_two max_three min_three max_four min_four   -- for this text's walks alone
set_option linter.unusedVariables false
set_option linter.unusedSimpArgs false

/-! ### compassref03_Check: function 17 -/
mutual
def compassref03_Check.j0 : Nat → Bool → Int → List (S45) → Option (Int × Int)
  | 0, _, _, _ => none
  | k + 1, x19, x342000, x342001 => if x19 = true then (some (3, 0)) else (compassref03_Check.l0 k 0 x342000 x342001)
def compassref03_Check.l0 : Nat → Int → Int → List (S45) → Option (Int × Int)
  | 0, _, _, _ => none
  | k + 1, x4, x342000, x342001 => if x4 < (x342001.length : Int) then (if 0 ≤ x4 then ((compassref03_Bad.f k x342000 ((rd_T45 x342001 x4).f0) ((rd_T45 x342001 x4).f1) ((rd_T45 x342001 x4).f2) ((rd_T45 x342001 x4).f3)).bind fun t343 => (if t343 = 0 then (compassref03_Check.l0 k (wrap64 (x4 + 1)) x342000 x342001) else (some (t343, x4)))) else (none)) else (some (0, 0))
end
def compassref03_Check.f (k : Nat) (a0_0 : Int) (l0_1 : List (S45)) : Option (Int × Int) := if a0_0 < 0 then (compassref03_Check.j0 k true a0_0 l0_1) else (if a0_0 > 1024 then (compassref03_Check.j0 k true a0_0 l0_1) else (compassref03_Check.j0 k (decide ((l0_1.length : Int) > 4096)) a0_0 l0_1))
theorem compassref03_Check.mono_l : ∀ k, (∀ y0 y1 y2, LeO (compassref03_Check.j0 k y0 y1 y2) (compassref03_Check.j0 (k + 1) y0 y1 y2)) ∧ (∀ y0 y1 y2, LeO (compassref03_Check.l0 k y0 y1 y2) (compassref03_Check.l0 (k + 1) y0 y1 y2))
  | 0 => ⟨fun _ _ _ r h => by simp [compassref03_Check.j0] at h, fun _ _ _ r h => by simp [compassref03_Check.l0] at h⟩
  | k + 1 => by
    obtain ⟨ih0, ih1⟩ := compassref03_Check.mono_l k
    refine ⟨?_, ?_⟩
    · intro y0 y1 y2
      unfold compassref03_Check.j0
      repeat' first
      | (with_reducible exact ih0 _ _ _)
      | (with_reducible exact ih1 _ _ _)
      | (with_reducible exact compassref03_Bad.mono _ _ _ _ _ _)
      | (with_reducible exact LeO.refl _)
      | (with_reducible exact LeO.none _)
      | (with_reducible refine LeO.ite ?_ ?_)
      | (with_reducible refine LeO.bind ?_ (fun _ => ?_))
      | exact ih0 _ _ _
      | exact ih1 _ _ _
      | exact compassref03_Bad.mono _ _ _ _ _ _
      | exact LeO.none _
      | refine LeO.ite ?_ ?_
      | refine LeO.bind ?_ (fun _ => ?_)
    · intro y0 y1 y2
      unfold compassref03_Check.l0
      repeat' first
      | (with_reducible exact ih0 _ _ _)
      | (with_reducible exact ih1 _ _ _)
      | (with_reducible exact compassref03_Bad.mono _ _ _ _ _ _)
      | (with_reducible exact LeO.refl _)
      | (with_reducible exact LeO.none _)
      | (with_reducible refine LeO.ite ?_ ?_)
      | (with_reducible refine LeO.bind ?_ (fun _ => ?_))
      | exact ih0 _ _ _
      | exact ih1 _ _ _
      | exact compassref03_Bad.mono _ _ _ _ _ _
      | exact LeO.none _
      | refine LeO.ite ?_ ?_
      | refine LeO.bind ?_ (fun _ => ?_)
theorem compassref03_Check.mono : ∀ a0 a1 k, LeO (compassref03_Check.f k a0 a1) (compassref03_Check.f (k + 1) a0 a1) := by
  intro a0 a1 k
  obtain ⟨ih0, ih1⟩ := compassref03_Check.mono_l k
  unfold compassref03_Check.f
  repeat' first
      | (with_reducible exact ih0 _ _ _)
      | (with_reducible exact ih1 _ _ _)
      | (with_reducible exact compassref03_Bad.mono _ _ _ _ _ _)
      | (with_reducible exact LeO.refl _)
      | (with_reducible exact LeO.none _)
      | (with_reducible refine LeO.ite ?_ ?_)
      | (with_reducible refine LeO.bind ?_ (fun _ => ?_))
      | exact ih0 _ _ _
      | exact ih1 _ _ _
      | exact compassref03_Bad.mono _ _ _ _ _ _
      | exact LeO.none _
      | refine LeO.ite ?_ ?_
      | refine LeO.bind ?_ (fun _ => ?_)

end Go.Proofs.Ytplbkggdnonfbaa.Q
