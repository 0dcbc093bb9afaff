import Derived.Test.YtkdoihcjhccliaaQ0
import Derived.Test.YtkdoihcjhccliaaQ25
import Derived.Test.YtkdoihcjhccliaaQ27
namespace Go.Proofs.Ytkdoihcjhccliaa.Q
open Go.RowKit Go.Proofs.YtkdoihcjhccliaaW.PrintWords Go.Proofs.YtkdoihcjhccliaaW.PrintLast Go.Proofs.YtkdoihcjhccliaaW.PrintMore
attribute [local go_sem] max2_int min2_int max_two min_two max_three min_three max_four min_four   -- for this text's walks alone
set_option linter.unusedVariables false
set_option linter.unusedSimpArgs false

/-! ### compassref11_NoPlan: function 25 -/
def compassref11_NoPlan.l0 : Nat → List Int → List Bool → Int → Int → Int → List (S98) → Option (Int)
  | 0, _, _, _, _, _, _ => none
  | k + 1, x1, x2, x8, x9, x397000, x397001 => if x9 < x397000 then (if 0 ≤ x9 then (if x9 < (x2.length : Int) then (if rdOf false x2 x9 = true then (if x9 < (x1.length : Int) then (compassref11_NoPlan.l0 k x1 x2 (wrap64 (x8 + (rd x1 x9))) (wrap64 (x9 + 1)) x397000 x397001) else (none)) else (compassref11_NoPlan.l0 k x1 x2 x8 (wrap64 (x9 + 1)) x397000 x397001)) else (none)) else (none)) else ((compassref11_Cut.f k x397000 x397001 x2).bind fun t400 => (if x8 ≤ t400 then (some 221) else (some 0)))
def compassref11_NoPlan.f (k : Nat) (a0_0 : Int) (l0_1 : List (S98)) (l1 : List Int) (l2 : List Bool) : Option (Int) := (compassref11_Supplies.f k a0_0 l0_1 l1).bind fun t397 => (if t397 = 0 then (if (l2.length : Int) = a0_0 then (compassref11_NoPlan.l0 k l1 l2 0 0 a0_0 l0_1) else (some 221)) else (some t397))
end Go.Proofs.Ytkdoihcjhccliaa.Q
