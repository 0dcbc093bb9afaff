import Derived.Test.YtkdoihcjhccliaaQ0
import Derived.Test.YtkdoihcjhccliaaQ23
namespace Go.Proofs.Ytkdoihcjhccliaa.Q
open Go.RowKit Go.Proofs.YtkdoihcjhccliaaW.PrintWords Go.Proofs.YtkdoihcjhccliaaW.PrintLast Go.Proofs.YtkdoihcjhccliaaW.PrintMore
attribute [local go_sem] max2_int min2_int max_two min_two max_three min_three max_four min_four   -- for this text's walks alone
set_option linter.unusedVariables false
set_option linter.unusedSimpArgs false

/-! ### compassref04_Wrong: function 55 -/
def compassref04_Wrong.f (k : Nat) (a0_0 : Int) (l0_1 : List (S98)) (a1 : Int) : Option (Int) := (compassref03_Check.f k a0_0 l0_1).bind fun bt336 => (if bt336.1 = 0 then (if a1 < 0 then (some 30) else (if a1 ≥ a0_0 then (some 30) else (some bt336.1))) else (some bt336.1))
/-! ### compassref11_Ends: function 20 -/
def compassref11_Ends.f (k : Nat) (a0_0 : Int) (l0_1 : List (S98)) (a1 : Int) (a2 : Int) : Option (Int) := (compassref04_Wrong.f k a0_0 l0_1 a1).bind fun t339 => (if t339 = 0 then ((compassref04_Wrong.f k a0_0 l0_1 a2).bind fun t340 => (if t340 = 0 then (if a1 = a2 then (some 120) else (some t340)) else (some t340))) else (some t339))
end Go.Proofs.Ytkdoihcjhccliaa.Q
