/- The law's own look at the program. -/
import Derived.Test.YtkdoihcjhccliaaQ19
import Derived.Test.YtkdoihcjhccliaaG
namespace Go.Proofs.Ytkdoihcjhccliaa.G
open Go.RowKit Go.Proofs.Ytkdoihcjhccliaa.Q Go.Proofs.YtkdoihcjhccliaaW.PrintWords Go.Proofs.YtkdoihcjhccliaaW.PrintLast
theorem awake_now (k : Nat) : compasslaw11_awake.f (k + 40) = some true := by kernel_rfl
theorem awake_f : Evl (fun k => compasslaw11_awake.f k) true := ⟨40, fun k hk => by
  obtain ⟨d, rfl⟩ : ∃ d, k = d + 40 := ⟨k - 40, by omega⟩
  exact awake_now d⟩
end Go.Proofs.Ytkdoihcjhccliaa.G
