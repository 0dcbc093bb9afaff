/- The law ProofPlans. -/
import Derived.Test.YtkdoihcjhccliaaQ32
import Derived.Test.YtkdoihcjhccliaaCheap
import Derived.Test.YtkdoihcjhccliaaAwake
namespace Go.Proofs.Ytkdoihcjhccliaa.Pure
open Go.Proofs.Ytkdoihcjhccliaa.G Go.Proofs.Ytkdoihcjhccliaa.Q
theorem ProofPlans (n : Int) (E : List S98) (S A P : List Int) (B : List Bool) : ∃ K, compasslaw11_ProofPlans.f K n E S A P B = some true := by
  obtain ⟨v, e, h1, h2, -⟩ := cheap_f n E S A P
  obtain ⟨x, h3, h4, -⟩ := noplan_f n E S B
  refine Evl.at (r := true) ?_
  refine (Evl.bind (h := fun k t403 => if t403 = true then ((proof_Cheapest.f k n E S A P).bind fun bt404 => ((compassref11_Cheapest.f k n E S A P).bind fun bt406 => (if bt404.1 = bt406.1 then (if bt404.2 = bt406.2 then ((proof_NoPlan.f k n E S B).bind fun t408 => ((compassref11_NoPlan.f k n E S B).bind fun t409 => (some (t408 == t409)))) else (some false)) else (some false)))) else (some false)) awake_f ?_).congr fun k => rfl
  refine (Evl.bind (h := fun k bt404 => (compassref11_Cheapest.f k n E S A P).bind fun bt406 => (if bt404.1 = bt406.1 then (if bt404.2 = bt406.2 then ((proof_NoPlan.f k n E S B).bind fun t408 => ((compassref11_NoPlan.f k n E S B).bind fun t409 => (some (t408 == t409)))) else (some false)) else (some false))) h1 ?_).congr fun k => by rw [if_pos rfl]
  refine Evl.bind (h := fun k bt406 => if v = bt406.1 then (if e = bt406.2 then ((proof_NoPlan.f k n E S B).bind fun t408 => ((compassref11_NoPlan.f k n E S B).bind fun t409 => (some (t408 == t409)))) else (some false)) else (some false)) h2 ?_
  refine (Evl.bind (h := fun k t408 => (compassref11_NoPlan.f k n E S B).bind fun t409 => (some (t408 == t409))) h3 ?_).congr fun k => by rw [if_pos rfl, if_pos rfl]
  exact Evl.bind (h := fun k t409 => some (x == t409)) h4 (Evl.pure.congr fun k => by rw [beq_self_eq_true])
end Go.Proofs.Ytkdoihcjhccliaa.Pure
