-- PRINTED by print.py (a twelfth state) out of the translation. Not trusted: Lean checks it.
import Derived.Test.YtkdoihcjhccliaaQ0
import Derived.Test.YtkdoihcjhccliaaQ5
import Derived.Test.YtkdoihcjhccliaaQ6
import Derived.Test.YtkdoihcjhccliaaQ9
import Derived.Test.YtkdoihcjhccliaaQ10
namespace Go.Proofs.Ytkdoihcjhccliaa.Q
open Go.RowKit Go.Proofs.YtkdoihcjhccliaaW.PrintWords Go.Proofs.YtkdoihcjhccliaaW.PrintLast Go.Proofs.YtkdoihcjhccliaaW.PrintMore
attribute [local go_sem] max2_int min2_int max_two min_two max_three min_three max_four min_four   -- for this text's walks alone
set_option linter.unusedVariables false
set_option linter.unusedSimpArgs false

/-! ### proof_Cheapest_1: function 60 -/
mutual
def proof_Cheapest_1.l0 : Nat → List Int → Int → Int → Int → List (S98) → List Int → List Int → List Int → Int → Option (Int × Int)
  | 0, _, _, _, _, _, _, _, _, _ => none
  | k + 1, x18, x19, x20, x160000, x160001, x161000, x161001, x161002, x162000 => if x20 < x19 then (if 0 ≤ x20 then (if x20 < (x18.length : Int) then (if x20 < (x161000.length : Int) then (if (rd x18 x20) = (rd x161000 x20) then (proof_Cheapest_1.l0 k x18 x19 (wrap64 (x20 + 1)) x160000 x160001 x161000 x161001 x161002 x162000) else (some (221, x162000))) else (none)) else (none)) else (none)) else ((proof_reduced.f k x160000 x160001 x161002 1).bind fun bt170 => (if bt170.1 = 0 then (proof_Cheapest_1.l1 k bt170.2 (bt170.2.length : Int) 0 x160000 x160001 x161000 x161001 x161002 x162000) else (some (bt170.1, x162000))))
def proof_Cheapest_1.l1 : Nat → List Int → Int → Int → Int → List (S98) → List Int → List Int → List Int → Int → Option (Int × Int)
  | 0, _, _, _, _, _, _, _, _, _ => none
  | k + 1, x37, x38, x39, x160000, x160001, x161000, x161001, x161002, x162000 => if x39 < x38 then (if 0 ≤ x39 then (if x39 < (x37.length : Int) then (if (rd x37 x39) ≤ 0 then (if (rd x37 x39) ≥ 0 then (proof_Cheapest_1.l1 k x37 x38 (wrap64 (x39 + 1)) x160000 x160001 x161000 x161001 x161002 x162000) else (if x39 < (x161001.length : Int) then (if x39 < (x160001.length : Int) then (if (rd x161001 x39) = ((rd_T98 x160001 x39).f2) then (proof_Cheapest_1.l1 k x37 x38 (wrap64 (x39 + 1)) x160000 x160001 x161000 x161001 x161002 x162000) else (some (221, x162000))) else (none)) else (none))) else (if x39 < (x161001.length : Int) then (if (rd x161001 x39) = 0 then (if (rd x37 x39) ≥ 0 then (proof_Cheapest_1.l1 k x37 x38 (wrap64 (x39 + 1)) x160000 x160001 x161000 x161001 x161002 x162000) else (if x39 < (x160001.length : Int) then (if (rd x161001 x39) = ((rd_T98 x160001 x39).f2) then (proof_Cheapest_1.l1 k x37 x38 (wrap64 (x39 + 1)) x160000 x160001 x161000 x161001 x161002 x162000) else (some (221, x162000))) else (none))) else (some (221, x162000))) else (none))) else (none)) else (none)) else (proof_Cheapest_1.l2 k x160001 (x160001.length : Int) 0 x161000 x161001 x161002 x162000)
def proof_Cheapest_1.l2 : Nat → List (S98) → Int → Int → List Int → List Int → List Int → Int → Option (Int × Int)
  | 0, _, _, _, _, _, _, _ => none
  | k + 1, x75, x76, x77, x161000, x161001, x161002, x162000 => if x77 < x76 then (if 0 ≤ x77 then (if x77 < (x75.length : Int) then (if x77 < (x161001.length : Int) then (proof_Cheapest_1.l2 k x75 x76 (wrap64 (x77 + 1)) x161000 x161001 x161002 (wrap64 (x162000 + (wrap64 (((rd_T98 x75 x77).f3) * (rd x161001 x77)))))) else (none)) else (none)) else (none)) else (some (0, x162000))
end
def proof_Cheapest_1.f (k : Nat) (a0_0 : Int) (l0_1 : List (S98)) (l1_0 : List Int) (l1_1 : List Int) (l1_2 : List Int) (a2 : Int) : Option (Int × Int) := (proof_right.f k a0_0 l0_1).bind fun t162 => (if t162 = 0 then ((proof_supplied.f k a0_0 l0_1 l1_0).bind fun t163 => (if t163 = 0 then ((proof_carried.f k a0_0 l0_1 l1_1).bind fun bt164 => (if bt164.1 = 0 then (proof_Cheapest_1.l0 k bt164.2 (bt164.2.length : Int) 0 a0_0 l0_1 l1_0 l1_1 l1_2 a2) else (some (bt164.1, a2)))) else (some (t163, a2)))) else (some (t162, a2)))
def proof_Cheapest_1.T10 : Bool × List (List Nat × List Nat) := (true, [([], []), ([0], [0]), ([1], [1]), ([2], [2]), ([3, 2], [2, 3]), ([2], [2]), ([4, 5, 2], [2, 4, 5]), ([6, 2], [2, 6]), ([7, 2], [2, 7]), ([2, 8], [2, 8]), ([9, 2], [9]), ([10], [10]), ([11, 10], [10, 11]), ([12, 10, 10], [10, 12]), ([13], [13]), ([14, 13], [13, 14]), ([13], [13]), ([15, 16, 13], [13, 15, 16]), ([17, 13], [13, 17]), ([13], [13]), ([19, 13], [13, 19]), ([13], [13]), ([20, 21, 13], [13, 20, 21]), ([22, 13], [13, 22]), ([23, 13], [13, 23]), ([18, 24, 13], [13, 18, 24]), ([13, 25, 10], [10, 13, 25]), ([10, 26], [10, 26]), ([27, 13], [27])])
def proof_Cheapest_1.B10 : List Nat := [0, 1, 3, 7, 15, 7, 63, 127, 255, 511, 1023, 2047, 4095, 8191, 16383, 32767, 16383, 131071, 262143, 16383, 540671, 16383, 3686399, 7880703, 16269311, 33554431, 67108863, 134217727, 268435455]
theorem proof_Cheapest_1.tab10 : rtab .any (opsOf Try.f60 10) = proof_Cheapest_1.T10 := by kernel_rfl
theorem proof_Cheapest_1.bits10 : waitsOk proof_Cheapest_1.T10.2 proof_Cheapest_1.B10 = true := by kernel_rfl
def proof_Cheapest_1.T15 : Bool × List (List Nat × List Nat) := (true, [([], []), ([], []), ([1], [1]), ([], []), ([3], [3]), ([], []), ([4, 5], [4, 5]), ([6], [6]), ([2, 7], [2, 7]), ([0, 8], [0, 8]), ([9, 0, 1, 2, 3, 4, 5, 6, 7, 8, 9], [9])])
def proof_Cheapest_1.B15 : List Nat := [0, 0, 2, 0, 8, 0, 56, 120, 254, 511, 1023]
theorem proof_Cheapest_1.tab15 : rtab .any (opsOf Try.f60 15) = proof_Cheapest_1.T15 := by kernel_rfl
theorem proof_Cheapest_1.bits15 : waitsOk proof_Cheapest_1.T15.2 proof_Cheapest_1.B15 = true := by kernel_rfl

end Go.Proofs.Ytkdoihcjhccliaa.Q
