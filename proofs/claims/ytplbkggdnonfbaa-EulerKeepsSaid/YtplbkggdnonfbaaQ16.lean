import Derived.Test.YtplbkggdnonfbaaQ0
namespace Go.Proofs.Ytplbkggdnonfbaa.Q
open Go.RowKit Go.Proofs.YtplbkggdnonfbaaW.PrintWords Go.Proofs.YtplbkggdnonfbaaW.PrintLast Go.Proofs.YtplbkggdnonfbaaW.PrintMore
attribute [local go_sem] max2_int min2_int max_two min_two max_three min_three max_four min_four   -- for this text's walks alone
set_option linter.unusedVariables false
set_option linter.unusedSimpArgs false

/-! ### compassref03_Bad: function 29 -/
def compassref03_Bad.j0 : Nat → Bool → Int → Int → Int → Int → Option (Int)
  | 0, _, _, _, _, _ => none
  | k + 1, x24, x341000, x341001, x341002, x341003 => if x24 = true then (some 30) else (if x341002 < 0 then (some 31) else (if x341002 > 1048576 then (some 31) else (if x341003 < (-1048576) then (some 31) else (if x341003 > 1048576 then (some 31) else (some 0)))))
def compassref03_Bad.f (k : Nat) (a0 : Int) (a1_0 : Int) (a1_1 : Int) (a1_2 : Int) (a1_3 : Int) : Option (Int) := if a1_0 < 0 then (compassref03_Bad.j0 k true a1_0 a1_1 a1_2 a1_3) else (if a1_1 < 0 then (compassref03_Bad.j0 k true a1_0 a1_1 a1_2 a1_3) else (if a1_0 ≥ a0 then (compassref03_Bad.j0 k true a1_0 a1_1 a1_2 a1_3) else (compassref03_Bad.j0 k (decide (a1_1 ≥ a0)) a1_0 a1_1 a1_2 a1_3)))
theorem compassref03_Bad.mono_l : ∀ k, (∀ y0 y1 y2 y3 y4, LeO (compassref03_Bad.j0 k y0 y1 y2 y3 y4) (compassref03_Bad.j0 (k + 1) y0 y1 y2 y3 y4))
  | 0 => fun _ _ _ _ _ r h => by simp [compassref03_Bad.j0] at h
  | k + 1 => by
    have ih0 := compassref03_Bad.mono_l k
    · intro y0 y1 y2 y3 y4
      unfold compassref03_Bad.j0
      repeat' first
      | (with_reducible exact ih0 _ _ _ _ _)
      | (with_reducible exact LeO.refl _)
      | (with_reducible exact LeO.none _)
      | (with_reducible refine LeO.ite ?_ ?_)
      | (with_reducible refine LeO.bind ?_ (fun _ => ?_))
      | exact ih0 _ _ _ _ _
      | exact LeO.none _
      | refine LeO.ite ?_ ?_
      | refine LeO.bind ?_ (fun _ => ?_)
theorem compassref03_Bad.mono : ∀ a0 a1 a2 a3 a4 k, LeO (compassref03_Bad.f k a0 a1 a2 a3 a4) (compassref03_Bad.f (k + 1) a0 a1 a2 a3 a4) := by
  intro a0 a1 a2 a3 a4 k
  have ih0 := compassref03_Bad.mono_l k
  unfold compassref03_Bad.f
  repeat' first
      | (with_reducible exact ih0 _ _ _ _ _)
      | (with_reducible exact LeO.refl _)
      | (with_reducible exact LeO.none _)
      | (with_reducible refine LeO.ite ?_ ?_)
      | (with_reducible refine LeO.bind ?_ (fun _ => ?_))
      | exact ih0 _ _ _ _ _
      | exact LeO.none _
      | refine LeO.ite ?_ ?_
      | refine LeO.bind ?_ (fun _ => ?_)

end Go.Proofs.Ytplbkggdnonfbaa.Q
