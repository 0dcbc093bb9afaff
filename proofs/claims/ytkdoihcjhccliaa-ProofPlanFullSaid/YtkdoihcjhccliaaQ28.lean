import Derived.Test.YtkdoihcjhccliaaQ0
namespace Go.Proofs.Ytkdoihcjhccliaa.Q
open Go.RowKit Go.Proofs.YtkdoihcjhccliaaW.PrintWords Go.Proofs.YtkdoihcjhccliaaW.PrintLast Go.Proofs.YtkdoihcjhccliaaW.PrintMore
attribute [local go_sem] max2_int min2_int max_two min_two max_three min_three max_four min_four   -- for this text's walks alone
set_option linter.unusedVariables false
set_option linter.unusedSimpArgs false

/-! ### compassref11_Pots: function 63 -/
def compassref11_Pots.l0 : Nat → List Int → Int → Int → List (S98) → Option (Bool)
  | 0, _, _, _, _ => none
  | k + 1, x1, x5, x370000, x370001 => if x5 < x370000 then (if 0 ≤ x5 then (if x5 < (x1.length : Int) then (if (rd x1 x5) < (-4398046511104) then (some false) else (if (rd x1 x5) > 4398046511104 then (some false) else (compassref11_Pots.l0 k x1 (wrap64 (x5 + 1)) x370000 x370001))) else (none)) else (none)) else (some true)
def compassref11_Pots.f (k : Nat) (a0_0 : Int) (l0_1 : List (S98)) (l1 : List Int) : Option (Bool) := if (l1.length : Int) = a0_0 then (compassref11_Pots.l0 k l1 0 a0_0 l0_1) else (some false)
/-! ### compassref11_Reduced: function 64 -/
def compassref11_Reduced.f (a0_0 : Int) (a0_1 : Int) (a0_2 : Int) (a0_3 : Int) (l1 : List Int) : Option (Int) := if 0 ≤ a0_0 then (if a0_0 < (l1.length : Int) then (if 0 ≤ a0_1 then (if a0_1 < (l1.length : Int) then (some (wrap64 ((wrap64 (a0_3 + (rd l1 a0_0))) - (rd l1 a0_1)))) else (none)) else (none)) else (none)) else (none)
end Go.Proofs.Ytkdoihcjhccliaa.Q
