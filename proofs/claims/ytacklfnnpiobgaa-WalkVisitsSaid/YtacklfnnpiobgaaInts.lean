/- The same numbers are told to be the same. -/
import Derived.Test.YtacklfnnpiobgaaQ9
import Derived.Test.YtacklfnnpiobgaaG
namespace Go.Proofs.Ytacklfnnpiobgaa.G
open Go.RowKit Go.Proofs.Ytacklfnnpiobgaa.Q Go.Proofs.YtacklfnnpiobgaaW.PrintWords Go.Proofs.YtacklfnnpiobgaaW.PrintLast
set_option linter.unusedVariables false
/-- The same numbers are told to be the same. -/
theorem ints_same (l : List Int) (hl : (l.length : Int) ≤ 1000000000000) : Evl (fun k => compasslaw04_ints.f k l l) true := by
  have loop : ∀ (d : Nat) (i : Int), 0 ≤ i → i + d = (l.length : Int) → Evl (fun k => compasslaw04_ints.l0 k l l (l.length : Int) i) true := by
    intro d
    induction d with
    | zero => intro i h0 hi; exact Evl.here fun k => by rw [compasslaw04_ints.l0, if_neg (by omega)]
    | succ d ih =>
      intro i h0 hi
      refine (ih (i + 1) (by omega) (by omega)).step fun k => ?_
      rw [compasslaw04_ints.l0, if_pos (by omega), if_pos h0, if_pos (by omega), if_pos (by omega), if_pos rfl, w1 (by omega) (by omega)]
  exact (loop l.length 0 (by omega) (by omega)).congr fun k => by rw [compasslaw04_ints.f, if_pos rfl]

end Go.Proofs.Ytacklfnnpiobgaa.G
