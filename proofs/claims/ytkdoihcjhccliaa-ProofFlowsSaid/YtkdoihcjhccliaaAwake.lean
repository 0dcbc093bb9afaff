/- The law's own look at the program. -/
import Derived.Test.YtkdoihcjhccliaaQ19
import Derived.Test.YtkdoihcjhccliaaG
namespace Go.Proofs.Ytkdoihcjhccliaa.G
open Go.RowKit Go.Proofs.Ytkdoihcjhccliaa.Q Go.Proofs.YtkdoihcjhccliaaW.PrintWords Go.Proofs.YtkdoihcjhccliaaW.PrintLast
theorem awake_now : compasslaw11_awake.f 40 = some true := by kernel_rfl
theorem awake_f : Evl (fun k => compasslaw11_awake.f k) true := Evl.mono (k0 := 40) awake_now compasslaw11_awake.mono
end Go.Proofs.Ytkdoihcjhccliaa.G
