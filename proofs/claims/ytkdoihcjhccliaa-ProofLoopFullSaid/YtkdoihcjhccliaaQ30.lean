import Derived.Test.YtkdoihcjhccliaaQ0
import Derived.Test.YtkdoihcjhccliaaQ3
import Derived.Test.YtkdoihcjhccliaaQ5
import Derived.Test.YtkdoihcjhccliaaQ7
import Derived.Test.YtkdoihcjhccliaaQ9
namespace Go.Proofs.Ytkdoihcjhccliaa.Q
open Go.RowKit Go.Proofs.YtkdoihcjhccliaaW.PrintWords Go.Proofs.YtkdoihcjhccliaaW.PrintLast Go.Proofs.YtkdoihcjhccliaaW.PrintMore
attribute [local go_sem] max2_int min2_int max_two min_two max_three min_three max_four min_four   -- for this text's walks alone
set_option linter.unusedVariables false
set_option linter.unusedSimpArgs false

/-! ### proof_NoPlan_1: function 65 -/
def proof_NoPlan_1.l0 : Nat → Int → List Bool → Int → Int → List Int → Option (Int)
  | 0, _, _, _, _, _ => none
  | k + 1, x3, x14, x15, x16, x389000 => if x16 < x15 then (if 0 ≤ x16 then (if x16 < (x14.length : Int) then (if rdOf false x14 x16 = true then (if x16 < (x389000.length : Int) then (proof_NoPlan_1.l0 k (wrap64 (x3 - (rd x389000 x16))) x14 x15 (wrap64 (x16 + 1)) x389000) else (none)) else (proof_NoPlan_1.l0 k x3 x14 x15 (wrap64 (x16 + 1)) x389000)) else (none)) else (none)) else (if x3 < 0 then (some 0) else (some 221))
def proof_NoPlan_1.f (k : Nat) (a0_0 : Int) (l0_1 : List (S98)) (l1 : List Int) (l2 : List Bool) : Option (Int) := (proof_right.f k a0_0 l0_1).bind fun t390 => (if t390 = 0 then ((proof_supplied.f k a0_0 l0_1 l1).bind fun t391 => (if t391 = 0 then ((proof_across.f k a0_0 l0_1 l2).bind fun bt392 => (if bt392.1 = 0 then (proof_NoPlan_1.l0 k bt392.2 l2 (l2.length : Int) 0 l1) else (some bt392.1))) else (some t391))) else (some t390))
/-! ### GIVEN: proof_NoPlan: function 24 -/
def proof_NoPlan.f (k : Nat) (a0_0 : Int) (l0_1 : List S98) (l1 : List Int) (l2 : List Bool) : Option (Int) := proof_NoPlan_1.f k a0_0 l0_1 l1 l2

end Go.Proofs.Ytkdoihcjhccliaa.Q
