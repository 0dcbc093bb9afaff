import Derived.Test.YtplbkggdnonfbaaQ0
import Derived.Test.YtplbkggdnonfbaaQ17
namespace Go.Proofs.Ytplbkggdnonfbaa.Q
open Go.RowKit Go.Proofs.YtplbkggdnonfbaaW.PrintWords Go.Proofs.YtplbkggdnonfbaaW.PrintLast Go.Proofs.YtplbkggdnonfbaaW.PrintMore
attribute [local go_sem] max2_int min2_int max_two min_two max_three min_three max_four min_four   -- for this text's walks alone
set_option linter.unusedVariables false
set_option linter.unusedSimpArgs false

/-! ### compassref04_Wrong: function 26 -/
def compassref04_Wrong.f (k : Nat) (a0_0 : Int) (l0_1 : List (S45)) (a1 : Int) : Option (Int) := (compassref03_Check.f k a0_0 l0_1).bind fun bt388 => (if bt388.1 = 0 then (if a1 < 0 then (some 30) else (if a1 ≥ a0_0 then (some 30) else (some bt388.1))) else (some bt388.1))
theorem compassref04_Wrong.mono : ∀ a0 a1 a2 k, LeO (compassref04_Wrong.f k a0 a1 a2) (compassref04_Wrong.f (k + 1) a0 a1 a2) := by
  intro a0 a1 a2 k
  unfold compassref04_Wrong.f
  repeat' first
      | (with_reducible exact compassref03_Check.mono _ _ _)
      | (with_reducible exact LeO.refl _)
      | (with_reducible exact LeO.none _)
      | (with_reducible refine LeO.ite ?_ ?_)
      | (with_reducible refine LeO.bind ?_ (fun _ => ?_))
      | exact compassref03_Check.mono _ _ _
      | exact LeO.none _
      | refine LeO.ite ?_ ?_
      | refine LeO.bind ?_ (fun _ => ?_)

end Go.Proofs.Ytplbkggdnonfbaa.Q
