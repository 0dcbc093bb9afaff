import Derived.Test.YtkdoihcjhccliaaQ0
import Derived.Test.YtkdoihcjhccliaaQ23
namespace Go.Proofs.Ytkdoihcjhccliaa.Q
open Go.RowKit Go.Proofs.YtkdoihcjhccliaaW.PrintWords Go.Proofs.YtkdoihcjhccliaaW.PrintLast Go.Proofs.YtkdoihcjhccliaaW.PrintMore
attribute [local go_sem] max2_int min2_int max_two min_two max_three min_three max_four min_four   -- for this text's walks alone
set_option linter.unusedVariables false
set_option linter.unusedSimpArgs false

/-! ### compassref11_Total: function 31 -/
def compassref11_Total.l0 : Nat → List Int → Int → Int → Int → List (S98) → Option (Int)
  | 0, _, _, _, _, _ => none
  | k + 1, x1, x5, x6, x361000, x361001 => if x6 < (x1.length : Int) then (if 0 ≤ x6 then (if x6 < (x361001.length : Int) then (compassref11_Total.l0 k x1 (wrap64 (x5 + (wrap64 (((rd_T98 x361001 x6).f3) * (rd x1 x6))))) (wrap64 (x6 + 1)) x361000 x361001) else (none)) else (none)) else (some x5)
def compassref11_Total.f (k : Nat) (a0_0 : Int) (l0_1 : List (S98)) (l1 : List Int) : Option (Int) := compassref11_Total.l0 k l1 0 0 a0_0 l0_1
/-! ### compassref11_Supplies: function 33 -/
def compassref11_Supplies.l0 : Nat → List Int → Int → Int → Int → List (S98) → Option (Int)
  | 0, _, _, _, _, _ => none
  | k + 1, x1, x7, x8, x364000, x364001 => if x8 < x364000 then (if 0 ≤ x8 then (if x8 < (x1.length : Int) then (if (rd x1 x8) < (-1048576) then (some 130) else (if (rd x1 x8) > 1048576 then (some 130) else (compassref11_Supplies.l0 k x1 (wrap64 (x7 + (rd x1 x8))) (wrap64 (x8 + 1)) x364000 x364001))) else (none)) else (none)) else (if x7 = 0 then (some 0) else (some 130))
def compassref11_Supplies.f (k : Nat) (a0_0 : Int) (l0_1 : List (S98)) (l1 : List Int) : Option (Int) := (compassref03_Check.f k a0_0 l0_1).bind fun bt364 => (if bt364.1 = 0 then (if (l1.length : Int) = a0_0 then (compassref11_Supplies.l0 k l1 0 0 a0_0 l0_1) else (some 130)) else (some bt364.1))
end Go.Proofs.Ytkdoihcjhccliaa.Q
