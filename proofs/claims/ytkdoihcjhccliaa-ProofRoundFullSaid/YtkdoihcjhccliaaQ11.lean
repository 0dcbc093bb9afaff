-- PRINTED by print.py (a twelfth state) out of the translation. Not trusted: Lean checks it.
import Derived.Test.YtkdoihcjhccliaaQ0
import Derived.Test.YtkdoihcjhccliaaQ5
import Derived.Test.YtkdoihcjhccliaaQ6
import Derived.Test.YtkdoihcjhccliaaQ9
import Derived.Test.YtkdoihcjhccliaaQ10
namespace Go.Proofs.Ytkdoihcjhccliaa.Q
open Go.RowKit Go.Proofs.YtkdoihcjhccliaaW.PrintWords Go.Proofs.YtkdoihcjhccliaaW.PrintLast Go.Proofs.YtkdoihcjhccliaaW.PrintMore
attribute [local go_sem] dF dG eG eH cz cB dH dI   -- for this text's walks alone
set_option linter.unusedVariables false
set_option linter.unusedSimpArgs false

/-! ### aV: function 60 -/
mutual
def aV.l0 : Nat → List Int → Int → Int → Int → List (S98) → List Int → List Int → List Int → Int → Option (Int × Int)
  | 0, _, _, _, _, _, _, _, _, _ => none
  | k + 1, x18, x19, x20, u7, nR, pI, lS, qo, mq => if x20 < x19 then (if 0 ≤ x20 then (if x20 < (x18.length : Int) then (if x20 < (pI.length : Int) then (if (rd x18 x20) = (rd pI x20) then (aV.l0 k x18 x19 (wrap64 (x20 + 1)) u7 nR pI lS qo mq) else (some (221, mq))) else (none)) else (none)) else (none)) else ((bv.f k u7 nR qo 1).bind fun Te => (if Te.1 = 0 then (aV.l1 k Te.2 (Te.2.length : Int) 0 u7 nR pI lS qo mq) else (some (Te.1, mq))))
def aV.l1 : Nat → List Int → Int → Int → Int → List (S98) → List Int → List Int → List Int → Int → Option (Int × Int)
  | 0, _, _, _, _, _, _, _, _, _ => none
  | k + 1, x37, x38, x39, u7, nR, pI, lS, qo, mq => if x39 < x38 then (if 0 ≤ x39 then (if x39 < (x37.length : Int) then (if (rd x37 x39) ≤ 0 then (if (rd x37 x39) ≥ 0 then (aV.l1 k x37 x38 (wrap64 (x39 + 1)) u7 nR pI lS qo mq) else (if x39 < (lS.length : Int) then (if x39 < (nR.length : Int) then (if (rd lS x39) = ((aa nR x39).f2) then (aV.l1 k x37 x38 (wrap64 (x39 + 1)) u7 nR pI lS qo mq) else (some (221, mq))) else (none)) else (none))) else (if x39 < (lS.length : Int) then (if (rd lS x39) = 0 then (if (rd x37 x39) ≥ 0 then (aV.l1 k x37 x38 (wrap64 (x39 + 1)) u7 nR pI lS qo mq) else (if x39 < (nR.length : Int) then (if (rd lS x39) = ((aa nR x39).f2) then (aV.l1 k x37 x38 (wrap64 (x39 + 1)) u7 nR pI lS qo mq) else (some (221, mq))) else (none))) else (some (221, mq))) else (none))) else (none)) else (none)) else (aV.l2 k nR (nR.length : Int) 0 pI lS qo mq)
def aV.l2 : Nat → List (S98) → Int → Int → List Int → List Int → List Int → Int → Option (Int × Int)
  | 0, _, _, _, _, _, _, _ => none
  | k + 1, x75, x76, x77, pI, lS, qo, mq => if x77 < x76 then (if 0 ≤ x77 then (if x77 < (x75.length : Int) then (if x77 < (lS.length : Int) then (aV.l2 k x75 x76 (wrap64 (x77 + 1)) pI lS qo (wrap64 (mq + (wrap64 (((aa x75 x77).f3) * (rd lS x77)))))) else (none)) else (none)) else (none)) else (some (0, mq))
end
def aV.f (k : Nat) (ay : Int) (ae : List (S98)) (dV : List Int) (iB : List Int) (lQ : List Int) (a2 : Int) : Option (Int × Int) := (dM.f k ay ae).bind fun t162 => (if t162 = 0 then ((fe.f k ay ae dV).bind fun WM => (if WM = 0 then ((aY.f k ay ae iB).bind fun EN => (if EN.1 = 0 then (aV.l0 k EN.2 (EN.2.length : Int) 0 ay ae dV iB lQ a2) else (some (EN.1, a2)))) else (some (WM, a2)))) else (some (t162, a2)))
def aV.T10 : Bool × List (List Nat × List Nat) := (true, [([], []), ([0], [0]), ([1], [1]), ([2], [2]), ([3, 2], [2, 3]), ([2], [2]), ([4, 5, 2], [2, 4, 5]), ([6, 2], [2, 6]), ([7, 2], [2, 7]), ([2, 8], [2, 8]), ([9, 2], [9]), ([10], [10]), ([11, 10], [10, 11]), ([12, 10, 10], [10, 12]), ([13], [13]), ([14, 13], [13, 14]), ([13], [13]), ([15, 16, 13], [13, 15, 16]), ([17, 13], [13, 17]), ([13], [13]), ([19, 13], [13, 19]), ([13], [13]), ([20, 21, 13], [13, 20, 21]), ([22, 13], [13, 22]), ([23, 13], [13, 23]), ([18, 24, 13], [13, 18, 24]), ([13, 25, 10], [10, 13, 25]), ([10, 26], [10, 26]), ([27, 13], [27])])
def aV.B10 : List Nat := [0, 1, 3, 7, 15, 7, 63, 127, 255, 511, 1023, 2047, 4095, 8191, 16383, 32767, 16383, 131071, 262143, 16383, 540671, 16383, 3686399, 7880703, 16269311, 33554431, 67108863, 134217727, 268435455]
theorem aV.KL : oO .any (opsOf Try.f60 10) = aV.T10 := by kernel_rfl
theorem aV.Ee : gM aV.T10.2 aV.B10 = true := by kernel_rfl
def aV.T15 : Bool × List (List Nat × List Nat) := (true, [([], []), ([], []), ([1], [1]), ([], []), ([3], [3]), ([], []), ([4, 5], [4, 5]), ([6], [6]), ([2, 7], [2, 7]), ([0, 8], [0, 8]), ([9, 0, 1, 2, 3, 4, 5, 6, 7, 8, 9], [9])])
def aV.B15 : List Nat := [0, 0, 2, 0, 8, 0, 56, 120, 254, 511, 1023]
theorem aV.tab15 : oO .any (opsOf Try.f60 15) = aV.T15 := by kernel_rfl
theorem aV.acd : gM aV.T15.2 aV.B15 = true := by kernel_rfl

end Go.Proofs.Ytkdoihcjhccliaa.Q
