/- The law ProofFlows. -/
import Derived.Test.YtkdoihcjhccliaaQ26
import Derived.Test.YtkdoihcjhccliaaFlows
import Derived.Test.YtkdoihcjhccliaaAwake
namespace Go.Proofs.Ytkdoihcjhccliaa.Pure
open Go.Proofs.Ytkdoihcjhccliaa.G Go.Proofs.Ytkdoihcjhccliaa.Q
theorem ProofFlows (n : Int) (E : List S98) (s t : Int) (A : List Int) (B : List Bool) : ∃ K, compasslaw11_ProofFlows.f K n E s t A B = some true := by
  obtain ⟨v, e, h1, h2, -⟩ := max_f n E s t A B
  refine Evl.at (r := true) ?_
  refine (Evl.bind (h := fun k t355 => if t355 = true then ((proof_Max.f k n E s t A B).bind fun bt356 => ((compassref11_Max.f k n E s t A B).bind fun bt358 => (if bt356.1 = bt358.1 then (some (bt356.2 == bt358.2)) else (some false)))) else (some false)) awake_f ?_).congr fun k => rfl
  refine (Evl.bind (h := fun k bt356 => (compassref11_Max.f k n E s t A B).bind fun bt358 => (if bt356.1 = bt358.1 then (some (bt356.2 == bt358.2)) else (some false))) h1 ?_).congr fun k => by rw [if_pos rfl]
  exact Evl.bind (h := fun k bt358 => if v = bt358.1 then (some (e == bt358.2)) else (some false)) h2 (Evl.pure.congr fun k => by rw [if_pos rfl, beq_self_eq_true])
end Go.Proofs.Ytkdoihcjhccliaa.Pure
