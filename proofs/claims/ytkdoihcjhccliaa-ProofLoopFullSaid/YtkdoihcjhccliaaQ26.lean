import Derived.Test.YtkdoihcjhccliaaQ0
import Derived.Test.YtkdoihcjhccliaaQ9
import Derived.Test.YtkdoihcjhccliaaQ19
import Derived.Test.YtkdoihcjhccliaaQ22
import Derived.Test.YtkdoihcjhccliaaQ24
import Derived.Test.YtkdoihcjhccliaaQ25
namespace Go.Proofs.Ytkdoihcjhccliaa.Q
open Go.RowKit Go.Proofs.YtkdoihcjhccliaaW.PrintWords Go.Proofs.YtkdoihcjhccliaaW.PrintLast Go.Proofs.YtkdoihcjhccliaaW.PrintMore
attribute [local go_sem] max2_int min2_int max_two min_two max_three min_three max_four min_four   -- for this text's walks alone
set_option linter.unusedVariables false
set_option linter.unusedSimpArgs false

/-! ### compassref11_Max: function 17 -/
def compassref11_Max.j0 : Nat → Int → Int → List Int → List Bool → Bool → Int → List (S98) → Option (Int × Int)
  | 0, _, _, _, _, _, _, _ => none
  | k + 1, x1, x2, x3, x4, x38, x348000, x348001 => if x38 = true then (some (0, 221)) else ((compassref11_Cut.f k x348000 x348001 x4).bind fun t351 => ((compassref11_Flows.f k x348000 x348001 x1 x2 x3 t351).bind fun t352 => (if t352 = true then (some (t351, 0)) else (some (0, 221)))))
def compassref11_Max.f (k : Nat) (a0_0 : Int) (l0_1 : List (S98)) (a1 : Int) (a2 : Int) (l3 : List Int) (l4 : List Bool) : Option (Int × Int) := (compassref11_Ends.f k a0_0 l0_1 a1 a2).bind fun t348 => (if t348 = 0 then (if (l4.length : Int) = a0_0 then (if 0 ≤ a1 then (if a1 < (l4.length : Int) then (if rdOf false l4 a1 = true then (if 0 ≤ a2 then (if a2 < (l4.length : Int) then (compassref11_Max.j0 k a1 a2 l3 l4 (rdOf false l4 a2) a0_0 l0_1) else (none)) else (none)) else (compassref11_Max.j0 k a1 a2 l3 l4 true a0_0 l0_1)) else (none)) else (none)) else (compassref11_Max.j0 k a1 a2 l3 l4 true a0_0 l0_1)) else (some (0, t348)))
/-! ### compasslaw11_ProofFlows: function 3 -/
def compasslaw11_ProofFlows.f (k : Nat) (a0_0 : Int) (l0_1 : List (S98)) (a1_0 : Int) (a1_1 : Int) (l1_2 : List Int) (l1_3 : List Bool) : Option (Bool) := (compasslaw11_awake.f k).bind fun t355 => (if t355 = true then ((proof_Max.f k a0_0 l0_1 a1_0 a1_1 l1_2 l1_3).bind fun bt356 => ((compassref11_Max.f k a0_0 l0_1 a1_0 a1_1 l1_2 l1_3).bind fun bt358 => (if bt356.1 = bt358.1 then (some (bt356.2 == bt358.2)) else (some false)))) else (some false))
end Go.Proofs.Ytkdoihcjhccliaa.Q
