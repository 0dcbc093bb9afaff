/- The law ProofLoops. -/
import Derived.Test.YtkdoihcjhccliaaQ39
import Derived.Test.YtkdoihcjhccliaaAcyc
import Derived.Test.YtkdoihcjhccliaaAwake
namespace Go.Proofs.Ytkdoihcjhccliaa.Pure
open Go.Proofs.Ytkdoihcjhccliaa.G Go.Proofs.Ytkdoihcjhccliaa.Q Go.RowKit
theorem ProofLoops (n : Int) (E : List S98) (l P O : List Int) : ∃ K, compasslaw11_ProofLoops.f K n E l P O = some true := by
  obtain ⟨p, q, e, s, c, h1, h2, z1, z2, -⟩ := mean_f n E l P
  obtain ⟨x, h3, h4, -⟩ := acyclic_f n E O
  refine Evl.at (r := true) ?_
  refine (Evl.bind (h := fun k t463 => if t463 = true then ((proof_Mean.f k n E l P).bind fun bt464 => ((compassref11_Mean.f k n E l P).bind fun bt468 => (if bt464.2.2 = bt468.2.2 then ((proof_Acyclic.f k n E O).bind fun t471 => ((compassref11_Acyclic.f k n E O).bind fun t472 => (compasslaw11_ProofLoops.j0 k bt468.1 bt468.2.1 bt468.2.2 (t471 != t472) bt464.1 bt464.2.1))) else (compasslaw11_ProofLoops.j0 k bt468.1 bt468.2.1 bt468.2.2 true bt464.1 bt464.2.1)))) else (some false)) awake_f ?_).congr fun k => rfl
  refine (Evl.bind (h := fun k bt464 => (compassref11_Mean.f k n E l P).bind fun bt468 => (if bt464.2.2 = bt468.2.2 then ((proof_Acyclic.f k n E O).bind fun t471 => ((compassref11_Acyclic.f k n E O).bind fun t472 => (compasslaw11_ProofLoops.j0 k bt468.1 bt468.2.1 bt468.2.2 (t471 != t472) bt464.1 bt464.2.1))) else (compasslaw11_ProofLoops.j0 k bt468.1 bt468.2.1 bt468.2.2 true bt464.1 bt464.2.1))) h1 ?_).congr fun k => by rw [if_pos rfl]
  refine Evl.bind (h := fun k bt468 => if e = bt468.2.2 then ((proof_Acyclic.f k n E O).bind fun t471 => ((compassref11_Acyclic.f k n E O).bind fun t472 => (compasslaw11_ProofLoops.j0 k bt468.1 bt468.2.1 bt468.2.2 (t471 != t472) p q))) else (compasslaw11_ProofLoops.j0 k bt468.1 bt468.2.1 bt468.2.2 true p q)) h2 ?_
  refine (Evl.bind (h := fun k t471 => (compassref11_Acyclic.f k n E O).bind fun t472 => (compasslaw11_ProofLoops.j0 k s c e (t471 != t472) p q)) h3 ?_).congr fun k => by rw [if_pos rfl]
  refine Evl.bind (h := fun k t472 => compasslaw11_ProofLoops.j0 k s c e (x != t472) p q) h4 ?_
  by_cases he : e = 0
  · obtain ⟨-, -, -, -, -, -, q0, -, pq, -, -, gc⟩ := z2 he
    refine (Evl.bind (h := fun k t473 => some (t473 == (1 : Int))) gc (Evl.pure.congr fun k => rfl)).step fun k => ?_
    rw [compasslaw11_ProofLoops.j0, if_neg (by simp), if_pos he, if_pos q0, if_pos (by rw [pq])]
  · obtain ⟨p0, q0⟩ := z1 he
    exact Evl.here fun k => by rw [compasslaw11_ProofLoops.j0, if_neg (by simp), if_neg he, p0, q0]; rfl
end Go.Proofs.Ytkdoihcjhccliaa.Pure
