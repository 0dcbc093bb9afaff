-- PRINTED by print.py (a twelfth state) out of the translation. Not trusted: Lean checks it.
import Derived.Test.YtkdoihcjhccliaaQ0
import Derived.Test.YtkdoihcjhccliaaQ13
import Derived.Test.YtkdoihcjhccliaaQ19
import Derived.Test.YtkdoihcjhccliaaQ29
import Derived.Test.YtkdoihcjhccliaaQ30
import Derived.Test.YtkdoihcjhccliaaQ31
namespace Go.Proofs.Ytkdoihcjhccliaa.Q
open Go.RowKit Go.Proofs.YtkdoihcjhccliaaW.PrintWords Go.Proofs.YtkdoihcjhccliaaW.PrintLast Go.Proofs.YtkdoihcjhccliaaW.PrintMore
attribute [local go_sem] max2_int min2_int max_two min_two max_three min_three max_four min_four   -- for this text's walks alone
set_option linter.unusedVariables false
set_option linter.unusedSimpArgs false

/-! ### compasslaw11_ProofPlans: function 6 -/
def compasslaw11_ProofPlans.f (k : Nat) (a0_0 : Int) (l0_1 : List (S98)) (l1_0 : List Int) (l1_1 : List Int) (l1_2 : List Int) (l2 : List Bool) : Option (Bool) := (compasslaw11_awake.f k).bind fun t403 => (if t403 = true then ((proof_Cheapest.f k a0_0 l0_1 l1_0 l1_1 l1_2).bind fun bt404 => ((compassref11_Cheapest.f k a0_0 l0_1 l1_0 l1_1 l1_2).bind fun bt406 => (if bt404.1 = bt406.1 then (if bt404.2 = bt406.2 then ((proof_NoPlan.f k a0_0 l0_1 l1_0 l2).bind fun t408 => ((compassref11_NoPlan.f k a0_0 l0_1 l1_0 l2).bind fun t409 => (some (t408 == t409)))) else (some false)) else (some false)))) else (some false))
/-! ### compassref04_Circle: function 45 -/
mutual
def compassref04_Circle.j0 : Nat → List Int → Bool → Int → List (S98) → Option (Bool)
  | 0, _, _, _, _ => none
  | k + 1, x1, x18, x411000, x411001 => if x18 = true then (some false) else (if 0 ≤ x411000 then (if (x411000 : Int).toNat ≤ 281474976710656 then (compassref04_Circle.l0 k x1 (List.replicate (x411000 : Int).toNat false) 0 x411000 x411001) else (none)) else (none))
def compassref04_Circle.l0 : Nat → List Int → List Bool → Int → Int → List (S98) → Option (Bool)
  | 0, _, _, _, _, _ => none
  | k + 1, x1, x5, x6, x411000, x411001 => if x6 < (x1.length : Int) then (if 0 ≤ x6 then (if (rd x1 x6) < 0 then (compassref04_Circle.j2 k x1 x5 x6 true x411000 x411001) else (compassref04_Circle.j2 k x1 x5 x6 (decide ((rd x1 x6) ≥ (x411001.length : Int))) x411000 x411001)) else (none)) else (some true)
def compassref04_Circle.j2 : Nat → List Int → List Bool → Int → Bool → Int → List (S98) → Option (Bool)
  | 0, _, _, _, _, _, _ => none
  | k + 1, x1, x5, x6, x42, x411000, x411001 => if x42 = true then (some false) else (if (x1.length : Int) = 0 then (none) else (if 0 ≤ (Int.tmod (wrap64 (x6 + 1)) (x1.length : Int)) then (if (Int.tmod (wrap64 (x6 + 1)) (x1.length : Int)) < (x1.length : Int) then (if (rd x1 (Int.tmod (wrap64 (x6 + 1)) (x1.length : Int))) < 0 then (some false) else (if (rd x1 (Int.tmod (wrap64 (x6 + 1)) (x1.length : Int))) ≥ (x411001.length : Int) then (some false) else (if 0 ≤ x6 then (if x6 < (x1.length : Int) then (if 0 ≤ (rd x1 x6) then (if (rd x1 x6) < (x411001.length : Int) then (if 0 ≤ (rd x1 (Int.tmod (wrap64 (x6 + 1)) (x1.length : Int))) then (if (rd x1 (Int.tmod (wrap64 (x6 + 1)) (x1.length : Int))) < (x411001.length : Int) then (if ((rd_T98 x411001 (rd x1 x6)).f1) = ((rd_T98 x411001 (rd x1 (Int.tmod (wrap64 (x6 + 1)) (x1.length : Int)))).f0) then (if 0 ≤ ((rd_T98 x411001 (rd x1 x6)).f1) then (if ((rd_T98 x411001 (rd x1 x6)).f1) < (x5.length : Int) then (if rdOf false x5 ((rd_T98 x411001 (rd x1 x6)).f1) = true then (some false) else (compassref04_Circle.l0 k x1 (x5.set (((rd_T98 x411001 (rd x1 x6)).f1) : Int).toNat true) (wrap64 (x6 + 1)) x411000 x411001)) else (none)) else (none)) else (some false)) else (none)) else (none)) else (none)) else (none)) else (none)) else (none)))) else (none)) else (none)))
end
def compassref04_Circle.f (k : Nat) (a0_0 : Int) (l0_1 : List (S98)) (l1 : List Int) : Option (Bool) := if (l1.length : Int) = 0 then (compassref04_Circle.j0 k l1 true a0_0 l0_1) else (compassref04_Circle.j0 k l1 (decide ((l1.length : Int) > (l0_1.length : Int))) a0_0 l0_1)

end Go.Proofs.Ytkdoihcjhccliaa.Q
