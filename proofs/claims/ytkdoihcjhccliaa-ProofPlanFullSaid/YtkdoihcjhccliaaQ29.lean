import Derived.Test.YtkdoihcjhccliaaQ0
import Derived.Test.YtkdoihcjhccliaaQ21
import Derived.Test.YtkdoihcjhccliaaQ27
import Derived.Test.YtkdoihcjhccliaaQ28
namespace Go.Proofs.Ytkdoihcjhccliaa.Q
open Go.RowKit Go.Proofs.YtkdoihcjhccliaaW.PrintWords Go.Proofs.YtkdoihcjhccliaaW.PrintLast Go.Proofs.YtkdoihcjhccliaaW.PrintMore
attribute [local go_sem] max2_int min2_int max_two min_two max_three min_three max_four min_four   -- for this text's walks alone
set_option linter.unusedVariables false
set_option linter.unusedSimpArgs false

/-! ### compassref11_Cheapest: function 23 -/
mutual
def compassref11_Cheapest.j0 : Nat → List Int → List Int → Bool → Int → List (S98) → Option (Int × Int)
  | 0, _, _, _, _, _ => none
  | k + 1, x2, x3, x29, x376000, x376001 => if x29 = true then (some (0, 221)) else (compassref11_Cheapest.l0 k x2 x3 0 x376000 x376001)
def compassref11_Cheapest.l0 : Nat → List Int → List Int → Int → Int → List (S98) → Option (Int × Int)
  | 0, _, _, _, _, _ => none
  | k + 1, x2, x3, x11, x376000, x376001 => if x11 < (x2.length : Int) then (if 0 ≤ x11 then (if x11 < (x376001.length : Int) then ((compassref11_Reduced.f ((rd_T98 x376001 x11).f0) ((rd_T98 x376001 x11).f1) ((rd_T98 x376001 x11).f2) ((rd_T98 x376001 x11).f3) x3).bind fun t380 => (if t380 > 0 then (if (rd x2 x11) > 0 then (some (0, 221)) else (if t380 < 0 then (if (rd x2 x11) < ((rd_T98 x376001 x11).f2) then (some (0, 221)) else (compassref11_Cheapest.l0 k x2 x3 (wrap64 (x11 + 1)) x376000 x376001)) else (compassref11_Cheapest.l0 k x2 x3 (wrap64 (x11 + 1)) x376000 x376001))) else (if t380 < 0 then (if (rd x2 x11) < ((rd_T98 x376001 x11).f2) then (some (0, 221)) else (compassref11_Cheapest.l0 k x2 x3 (wrap64 (x11 + 1)) x376000 x376001)) else (compassref11_Cheapest.l0 k x2 x3 (wrap64 (x11 + 1)) x376000 x376001)))) else (none)) else (none)) else ((compassref11_Total.f k x376000 x376001 x2).bind fun t386 => (some (t386, 0)))
end
def compassref11_Cheapest.f (k : Nat) (a0_0 : Int) (l0_1 : List (S98)) (l1 : List Int) (l2 : List Int) (l3 : List Int) : Option (Int × Int) := (compassref11_Supplies.f k a0_0 l0_1 l1).bind fun t376 => (if t376 = 0 then ((compassref11_Fits.f k a0_0 l0_1 l2 l1).bind fun t377 => (if t377 = true then ((compassref11_Pots.f k a0_0 l0_1 l3).bind fun t378 => (compassref11_Cheapest.j0 k l2 l3 (!t378) a0_0 l0_1)) else (compassref11_Cheapest.j0 k l2 l3 true a0_0 l0_1))) else (some (0, t376)))
end Go.Proofs.Ytkdoihcjhccliaa.Q
