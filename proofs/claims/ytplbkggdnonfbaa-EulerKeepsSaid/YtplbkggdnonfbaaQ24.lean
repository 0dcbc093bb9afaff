import Derived.Test.YtplbkggdnonfbaaQ0
namespace Go.Proofs.Ytplbkggdnonfbaa.Q
open Go.RowKit Go.Proofs.YtplbkggdnonfbaaW.PrintWords Go.Proofs.YtplbkggdnonfbaaW.PrintLast Go.Proofs.YtplbkggdnonfbaaW.PrintMore
attribute [local go_sem] max2_int min2_int max_two min_two max_three min_three max_four min_four   -- for this text's walks alone
set_option linter.unusedVariables false
set_option linter.unusedSimpArgs false

/-! ### compasslaw09_plain: function 12 -/
def compasslaw09_plain.l0 : Nat → List (S65) → List (S51) → Int → Int → Option ((List (S65)))
  | 0, _, _, _, _ => none
  | k + 1, x3, x7, x8, x9 => if x9 < x8 then (if 0 ≤ x9 then (if x9 < (x7.length : Int) then (if x3.length < 8796093022208 then (compasslaw09_plain.l0 k (x3 ++ [(⟨(rd_T51 x7 x9).f0, (rd_T51 x7 x9).f1⟩ : S65)]) x7 x8 (wrap64 (x9 + 1))) else (none)) else (none)) else (none)) else (some x3)
def compasslaw09_plain.f (k : Nat) (a0_0 : Int) (l0_1 : List (S51)) : Option ((List (S65))) := compasslaw09_plain.l0 k ([] : List (S65)) l0_1 (l0_1.length : Int) 0
theorem compasslaw09_plain.mono_l : ∀ k, (∀ y0 y1 y2 y3, LeO (compasslaw09_plain.l0 k y0 y1 y2 y3) (compasslaw09_plain.l0 (k + 1) y0 y1 y2 y3))
  | 0 => fun _ _ _ _ r h => by simp [compasslaw09_plain.l0] at h
  | k + 1 => by
    have ih0 := compasslaw09_plain.mono_l k
    · intro y0 y1 y2 y3
      unfold compasslaw09_plain.l0
      repeat' first
      | (with_reducible exact ih0 _ _ _ _)
      | (with_reducible exact LeO.refl _)
      | (with_reducible exact LeO.none _)
      | (with_reducible refine LeO.ite ?_ ?_)
      | (with_reducible refine LeO.bind ?_ (fun _ => ?_))
      | exact ih0 _ _ _ _
      | exact LeO.none _
      | refine LeO.ite ?_ ?_
      | refine LeO.bind ?_ (fun _ => ?_)
theorem compasslaw09_plain.mono : ∀ a0 a1 k, LeO (compasslaw09_plain.f k a0 a1) (compasslaw09_plain.f (k + 1) a0 a1) := by
  intro a0 a1 k
  have ih0 := compasslaw09_plain.mono_l k
  unfold compasslaw09_plain.f
  repeat' first
      | (with_reducible exact ih0 _ _ _ _)
      | (with_reducible exact LeO.refl _)
      | (with_reducible exact LeO.none _)
      | (with_reducible refine LeO.ite ?_ ?_)
      | (with_reducible refine LeO.bind ?_ (fun _ => ?_))
      | exact ih0 _ _ _ _
      | exact LeO.none _
      | refine LeO.ite ?_ ?_
      | refine LeO.bind ?_ (fun _ => ?_)

end Go.Proofs.Ytplbkggdnonfbaa.Q
