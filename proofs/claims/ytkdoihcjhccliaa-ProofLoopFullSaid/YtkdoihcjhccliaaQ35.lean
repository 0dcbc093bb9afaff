-- PRINTED by print.py (a twelfth state) out of the translation. Not trusted: Lean checks it.
import Derived.Test.YtkdoihcjhccliaaQ0
import Derived.Test.YtkdoihcjhccliaaQ23
import Derived.Test.YtkdoihcjhccliaaQ28
import Derived.Test.YtkdoihcjhccliaaQ32
import Derived.Test.YtkdoihcjhccliaaQ33
import Derived.Test.YtkdoihcjhccliaaQ34
namespace Go.Proofs.Ytkdoihcjhccliaa.Q
open Go.RowKit Go.Proofs.YtkdoihcjhccliaaW.PrintWords Go.Proofs.YtkdoihcjhccliaaW.PrintLast Go.Proofs.YtkdoihcjhccliaaW.PrintMore
attribute [local go_sem] max2_int min2_int max_two min_two max_three min_three max_four min_four   -- for this text's walks alone
set_option linter.unusedVariables false
set_option linter.unusedSimpArgs false

/-! ### compassref11_Mean: function 38 -/
mutual
def compassref11_Mean.j0 : Nat → List Int → List Int → Bool → Int → List (S98) → Option (Int × Int × Int)
  | 0, _, _, _, _, _ => none
  | k + 1, x1, x2, x32, x430000, x430001 => if x32 = true then (some (0, 0, 221)) else ((compassref08_Cost.f k x430000 x430001 x1).bind fun t434 => (compassref11_Mean.l0 k x2 t434 (x1.length : Int) 0 x430000 x430001))
def compassref11_Mean.l0 : Nat → List Int → Int → Int → Int → Int → List (S98) → Option (Int × Int × Int)
  | 0, _, _, _, _, _, _ => none
  | k + 1, x2, x11, x12, x13, x430000, x430001 => if x13 < (x430001.length : Int) then (if 0 ≤ x13 then (if 0 ≤ ((rd_T98 x430001 x13).f0) then (if ((rd_T98 x430001 x13).f0) < (x2.length : Int) then (if 0 ≤ ((rd_T98 x430001 x13).f1) then (if ((rd_T98 x430001 x13).f1) < (x2.length : Int) then (if (wrap64 ((wrap64 ((wrap64 (x12 * ((rd_T98 x430001 x13).f3))) - x11)) + (rd x2 ((rd_T98 x430001 x13).f0)))) < (rd x2 ((rd_T98 x430001 x13).f1)) then (some (0, 0, 221)) else (compassref11_Mean.l0 k x2 x11 x12 (wrap64 (x13 + 1)) x430000 x430001)) else (none)) else (none)) else (none)) else (none)) else (none)) else (some (x11, x12, 0))
end
def compassref11_Mean.f (k : Nat) (a0_0 : Int) (l0_1 : List (S98)) (l1 : List Int) (l2 : List Int) : Option (Int × Int × Int) := (compassref03_Check.f k a0_0 l0_1).bind fun bt430 => (if bt430.1 = 0 then ((compassref04_Circle.f k a0_0 l0_1 l1).bind fun t432 => (if t432 = true then ((compassref11_Pots.f k a0_0 l0_1 l2).bind fun t433 => (compassref11_Mean.j0 k l1 l2 (!t433) a0_0 l0_1)) else (compassref11_Mean.j0 k l1 l2 true a0_0 l0_1))) else (some (0, 0, bt430.1)))
end Go.Proofs.Ytkdoihcjhccliaa.Q
