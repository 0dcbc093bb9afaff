import Derived.Test.YtkdoihcjhccliaaQ0
import Derived.Test.YtkdoihcjhccliaaQ20
namespace Go.Proofs.Ytkdoihcjhccliaa.Q
open Go.RowKit Go.Proofs.YtkdoihcjhccliaaW.PrintWords Go.Proofs.YtkdoihcjhccliaaW.PrintLast Go.Proofs.YtkdoihcjhccliaaW.PrintMore
attribute [local go_sem] max2_int min2_int max_two min_two max_three min_three max_four min_four   -- for this text's walks alone
set_option linter.unusedVariables false
set_option linter.unusedSimpArgs false

/-! ### compassref11_Fits: function 30 -/
mutual
def compassref11_Fits.l0 : Nat → List Int → List Int → Int → Int → List (S98) → Option (Bool)
  | 0, _, _, _, _, _ => none
  | k + 1, x1, x2, x7, x319000, x319001 => if x7 < (x1.length : Int) then (if 0 ≤ x7 then (if (rd x1 x7) < 0 then (some false) else (if x7 < (x319001.length : Int) then (if (rd x1 x7) > ((rd_T98 x319001 x7).f2) then (some false) else (compassref11_Fits.l0 k x1 x2 (wrap64 (x7 + 1)) x319000 x319001)) else (none))) else (none)) else (compassref11_Fits.l1 k x1 x2 0 x319000 x319001)
def compassref11_Fits.l1 : Nat → List Int → List Int → Int → Int → List (S98) → Option (Bool)
  | 0, _, _, _, _, _ => none
  | k + 1, x1, x2, x8, x319000, x319001 => if x8 < x319000 then ((compassref11_Out.f k x319000 x319001 x1 x8).bind fun t322 => (if 0 ≤ x8 then (if x8 < (x2.length : Int) then (if t322 = (rd x2 x8) then (compassref11_Fits.l1 k x1 x2 (wrap64 (x8 + 1)) x319000 x319001) else (some false)) else (none)) else (none))) else (some true)
end
def compassref11_Fits.f (k : Nat) (a0_0 : Int) (l0_1 : List (S98)) (l1 : List Int) (l2 : List Int) : Option (Bool) := if (l1.length : Int) = (l0_1.length : Int) then (compassref11_Fits.l0 k l1 l2 0 a0_0 l0_1) else (some false)
end Go.Proofs.Ytkdoihcjhccliaa.Q
