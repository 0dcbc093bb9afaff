import Derived.Test.YtkdoihcjhccliaaQ0
namespace Go.Proofs.Ytkdoihcjhccliaa.Q
open Go.RowKit Go.Proofs.YtkdoihcjhccliaaW.PrintWords Go.Proofs.YtkdoihcjhccliaaW.PrintLast Go.Proofs.YtkdoihcjhccliaaW.PrintMore
attribute [local go_sem] max2_int min2_int max_two min_two max_three min_three max_four min_four   -- for this text's walks alone
set_option linter.unusedVariables false
set_option linter.unusedSimpArgs false

/-! ### compassref11_Out: function 18 -/
def compassref11_Out.l0 : Nat → List Int → Int → Int → Int → Int → List (S98) → Option (Int)
  | 0, _, _, _, _, _, _ => none
  | k + 1, x1, x2, x7, x8, x312000, x312001 => if x8 < (x1.length : Int) then (if 0 ≤ x8 then (if x8 < (x312001.length : Int) then (if ((rd_T98 x312001 x8).f0) = x2 then (if ((rd_T98 x312001 x8).f1) = x2 then (compassref11_Out.l0 k x1 x2 (wrap64 ((wrap64 (x7 + (rd x1 x8))) - (rd x1 x8))) (wrap64 (x8 + 1)) x312000 x312001) else (compassref11_Out.l0 k x1 x2 (wrap64 (x7 + (rd x1 x8))) (wrap64 (x8 + 1)) x312000 x312001)) else (if ((rd_T98 x312001 x8).f1) = x2 then (compassref11_Out.l0 k x1 x2 (wrap64 (x7 - (rd x1 x8))) (wrap64 (x8 + 1)) x312000 x312001) else (compassref11_Out.l0 k x1 x2 x7 (wrap64 (x8 + 1)) x312000 x312001))) else (none)) else (none)) else (some x7)
def compassref11_Out.f (k : Nat) (a0_0 : Int) (l0_1 : List (S98)) (l1 : List Int) (a2 : Int) : Option (Int) := compassref11_Out.l0 k l1 a2 0 0 a0_0 l0_1
end Go.Proofs.Ytkdoihcjhccliaa.Q
