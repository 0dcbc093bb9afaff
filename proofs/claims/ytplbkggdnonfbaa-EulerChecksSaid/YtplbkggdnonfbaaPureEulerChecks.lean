/- Raw walks are followed to where they end, and told to take each edge once or not, as the document says: at every graph, every walk (its steps fit into memory), directed or not. -/
import Derived.Test.YtplbkggdnonfbaaQ14
import Derived.Test.YtplbkggdnonfbaaQ26
import Derived.KernelRfl
import Derived.Test.YtplbkggdnonfbaaWalks
namespace Go.Proofs.Ytplbkggdnonfbaa.Pure
open Go.RowKit Go.Proofs.Ytplbkggdnonfbaa.Q Go.Proofs.Ytplbkggdnonfbaa.G Go.Proofs.YtplbkggdnonfbaaW.PrintWords Go.Proofs.YtplbkggdnonfbaaW.PrintLast
set_option linter.unusedVariables false

theorem awake_f : Evl (fun k => compasslaw09_awake.f k) true := Evl.mono (k0 := 100) (by kernel_rfl) (fun k => compasslaw09_awake.mono k)

theorem EulerChecks (n : Int) (E : List S45) (s : Int) (l : List S51) (d : Bool) (hl : (l.length : Int) ≤ 8796093022208) : ∃ k, compasslaw09_EulerChecks.f k n E s l d = some true := by
  obtain ⟨r, A, B, -⟩ := end_f n E s l hl
  obtain ⟨b, C, D⟩ := covers_f n E s l hl d
  have P := plain_f s l hl
  refine Evl.at (r := true) (g := fun k => compasslaw09_EulerChecks.f k n E s l d) ?_
  refine (Evl.bind awake_f (h := fun k t432 => (if t432 = true then ((euler_End.f k n E s l).bind fun bt433 => ((compasslaw09_plain.f k s l).bind fun t435 => ((compassref09_End.f k n E s t435).bind fun bt438 => (if bt433.1 = bt438.1 then (if bt433.2 = bt438.2 then ((euler_Covers.f k n E s l d).bind fun t440 => ((compasslaw09_plain.f k s l).bind fun t441 => ((compassref09_Covers.f k n E s t441 d).bind fun t444 => (some (t440 == t444))))) else (some false)) else (some false))))) else (some false))) ?_).congr fun k => rfl
  refine Evl.congr (Evl.bind A (Evl.bind P (Evl.bind B (h := fun k bt438 => (if r.1 = bt438.1 then (if r.2 = bt438.2 then ((euler_Covers.f k n E s l d).bind fun t440 => ((compasslaw09_plain.f k s l).bind fun t441 => ((compassref09_Covers.f k n E s t441 d).bind fun t444 => (some (t440 == t444))))) else (some false)) else (some false))) ?_))) (fun k => by rw [if_pos rfl])
  refine Evl.congr (Evl.bind C (Evl.bind P (Evl.bind D (h := fun k t444 => some (b == t444)) (r := true) (Evl.pure.congr fun k => by simp)))) (fun k => by rw [if_pos rfl, if_pos rfl])
end Go.Proofs.Ytplbkggdnonfbaa.Pure
