import Derived.Test.YtkdoihcjhccliaaQ0
namespace Go.Proofs.Ytkdoihcjhccliaa.Q
open Go.RowKit Go.Proofs.YtkdoihcjhccliaaW.PrintWords Go.Proofs.YtkdoihcjhccliaaW.PrintLast Go.Proofs.YtkdoihcjhccliaaW.PrintMore
attribute [local go_sem] max2_int min2_int max_two min_two max_three min_three max_four min_four   -- for this text's walks alone
set_option linter.unusedVariables false
set_option linter.unusedSimpArgs false

/-! ### compassref11_Cut: function 54 -/
def compassref11_Cut.l0 : Nat → List Bool → Int → Int → Int → List (S98) → Option (Int)
  | 0, _, _, _, _, _ => none
  | k + 1, x1, x5, x6, x342000, x342001 => if x6 < (x342001.length : Int) then (if 0 ≤ x6 then (if 0 ≤ ((rd_T98 x342001 x6).f0) then (if ((rd_T98 x342001 x6).f0) < (x1.length : Int) then (if rdOf false x1 ((rd_T98 x342001 x6).f0) = true then (if 0 ≤ ((rd_T98 x342001 x6).f1) then (if ((rd_T98 x342001 x6).f1) < (x1.length : Int) then (if (rdOf false x1 ((rd_T98 x342001 x6).f1) = true) then (compassref11_Cut.l0 k x1 x5 (wrap64 (x6 + 1)) x342000 x342001) else (compassref11_Cut.l0 k x1 (wrap64 (x5 + ((rd_T98 x342001 x6).f2))) (wrap64 (x6 + 1)) x342000 x342001)) else (none)) else (none)) else (compassref11_Cut.l0 k x1 x5 (wrap64 (x6 + 1)) x342000 x342001)) else (none)) else (none)) else (none)) else (some x5)
def compassref11_Cut.f (k : Nat) (a0_0 : Int) (l0_1 : List (S98)) (l1 : List Bool) : Option (Int) := compassref11_Cut.l0 k l1 0 0 a0_0 l0_1
end Go.Proofs.Ytkdoihcjhccliaa.Q
