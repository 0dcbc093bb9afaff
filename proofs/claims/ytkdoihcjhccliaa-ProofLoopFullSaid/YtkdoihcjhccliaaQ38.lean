-- PRINTED by print.py (a twelfth state) out of the translation. Not trusted: Lean checks it.
import Derived.Test.YtkdoihcjhccliaaQ0
import Derived.Test.YtkdoihcjhccliaaQ23
import Derived.Test.YtkdoihcjhccliaaQ37
namespace Go.Proofs.Ytkdoihcjhccliaa.Q
open Go.RowKit Go.Proofs.YtkdoihcjhccliaaW.PrintWords Go.Proofs.YtkdoihcjhccliaaW.PrintLast Go.Proofs.YtkdoihcjhccliaaW.PrintMore
attribute [local go_sem] max2_int min2_int max_two min_two max_three min_three max_four min_four   -- for this text's walks alone
set_option linter.unusedVariables false
set_option linter.unusedSimpArgs false

/-! ### compassref11_Acyclic: function 40 -/
mutual
def compassref11_Acyclic.l0 : Nat → List Int → Int → Int → List (S98) → Option (Int)
  | 0, _, _, _, _ => none
  | k + 1, x1, x7, x454000, x454001 => if x7 < x454000 then ((compassref11_Place.f k x1 x7).bind fun t456 => (if t456 < 0 then (some 221) else (compassref11_Acyclic.l0 k x1 (wrap64 (x7 + 1)) x454000 x454001))) else (compassref11_Acyclic.l1 k x1 0 x454000 x454001)
def compassref11_Acyclic.l1 : Nat → List Int → Int → Int → List (S98) → Option (Int)
  | 0, _, _, _, _ => none
  | k + 1, x1, x8, x454000, x454001 => if x8 < (x454001.length : Int) then (if 0 ≤ x8 then ((compassref11_Place.f k x1 ((rd_T98 x454001 x8).f0)).bind fun t458 => ((compassref11_Place.f k x1 ((rd_T98 x454001 x8).f1)).bind fun t460 => (if t458 ≥ t460 then (some 221) else (compassref11_Acyclic.l1 k x1 (wrap64 (x8 + 1)) x454000 x454001)))) else (none)) else (some 0)
end
def compassref11_Acyclic.f (k : Nat) (a0_0 : Int) (l0_1 : List (S98)) (l1 : List Int) : Option (Int) := (compassref03_Check.f k a0_0 l0_1).bind fun bt454 => (if bt454.1 = 0 then (if (l1.length : Int) = a0_0 then (compassref11_Acyclic.l0 k l1 0 a0_0 l0_1) else (some 221)) else (some bt454.1))
end Go.Proofs.Ytkdoihcjhccliaa.Q
