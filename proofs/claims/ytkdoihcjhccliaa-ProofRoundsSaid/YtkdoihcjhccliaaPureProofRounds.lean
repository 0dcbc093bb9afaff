/- The law ProofRounds. -/
import Derived.Test.YtkdoihcjhccliaaQ49
import Derived.Test.YtkdoihcjhccliaaApart
import Derived.Test.YtkdoihcjhccliaaAwake
namespace Go.Proofs.Ytkdoihcjhccliaa.Pure
open Go.Proofs.Ytkdoihcjhccliaa.G Go.Proofs.Ytkdoihcjhccliaa.Q
theorem ProofRounds (n : Int) (E : List S98) (A P : List Int) (B : List Bool) : ∃ K, compasslaw11_ProofRounds.f K n E A P B = some true := by
  obtain ⟨v, e, h1, h2, -⟩ := post_f n E A P
  obtain ⟨x, h3, h4, -⟩ := apart_f n E B
  refine Evl.at (r := true) ?_
  refine (Evl.bind (h := fun k t548 => if t548 = true then ((proof_Postman.f k n E A P).bind fun bt549 => ((compassref11_Postman.f k n E A P).bind fun bt551 => (if bt549.1 = bt551.1 then (if bt549.2 = bt551.2 then ((proof_Apart.f k n E B).bind fun t553 => ((compassref11_Apart.f k n E B).bind fun t554 => (some (t553 == t554)))) else (some false)) else (some false)))) else (some false)) awake_f ?_).congr fun k => rfl
  refine (Evl.bind (h := fun k bt549 => (compassref11_Postman.f k n E A P).bind fun bt551 => (if bt549.1 = bt551.1 then (if bt549.2 = bt551.2 then ((proof_Apart.f k n E B).bind fun t553 => ((compassref11_Apart.f k n E B).bind fun t554 => (some (t553 == t554)))) else (some false)) else (some false))) h1 ?_).congr fun k => by rw [if_pos rfl]
  refine Evl.bind (h := fun k bt551 => if v = bt551.1 then (if e = bt551.2 then ((proof_Apart.f k n E B).bind fun t553 => ((compassref11_Apart.f k n E B).bind fun t554 => (some (t553 == t554)))) else (some false)) else (some false)) h2 ?_
  refine (Evl.bind (h := fun k t553 => (compassref11_Apart.f k n E B).bind fun t554 => (some (t553 == t554))) h3 ?_).congr fun k => by rw [if_pos rfl, if_pos rfl]
  exact Evl.bind (h := fun k t554 => some (x == t554)) h4 (Evl.pure.congr fun k => by rw [beq_self_eq_true])
end Go.Proofs.Ytkdoihcjhccliaa.Pure
