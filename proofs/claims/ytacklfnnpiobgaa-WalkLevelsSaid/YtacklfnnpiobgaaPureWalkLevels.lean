/- The shortest ways by edges are those of the document: at every graph and node. -/
import Derived.Test.YtacklfnnpiobgaaQ13
import Derived.Test.YtacklfnnpiobgaaQ8
import Derived.KernelRfl
import Derived.Test.YtacklfnnpiobgaaDist
namespace Go.Proofs.Ytacklfnnpiobgaa.Pure
open Go.RowKit Go.Proofs.Ytacklfnnpiobgaa.Q Go.Proofs.Ytacklfnnpiobgaa.G Go.Proofs.YtacklfnnpiobgaaW.PrintWords Go.Proofs.YtacklfnnpiobgaaW.PrintLast
set_option linter.unusedVariables false

theorem awake_f : Evl (fun k => compasslaw04_awake.f k) true := Evl.mono (k0 := 60) (by kernel_rfl) (fun k => compasslaw04_awake.mono k)

theorem WalkLevels (n : Int) (E : List S41) (s : Int) : ∃ k, compasslaw04_WalkLevels.f k n E s = some true := by
  obtain ⟨L, c, H1, H2, hz, hn⟩ := levels_f n E s
  have hl : (L.length : Int) ≤ 1000000000000 := by
    by_cases e : c = 0
    · obtain ⟨hR, -, -, D⟩ := hz e
      have := D.g.len; have := hR.n1; omega
    · rw [hn e]; simp
  refine Evl.at (r := true) (g := fun k => compasslaw04_WalkLevels.f k n E s) ?_
  refine (Evl.bind awake_f (h := fun k t254 => (if t254 = true then ((walk_Levels.f k n E s).bind fun bt255 => ((compassref04_Levels.f k n E s).bind fun bt259 => ((compasslaw04_ints.f k bt255.1 bt259.1).bind fun t263 => (if t263 = true then (some (bt255.2 == bt259.2)) else (some false))))) else (some false))) ?_).congr fun k => rfl
  refine Evl.congr (Evl.bind H1 (Evl.bind H2 (Evl.bind (ints_same L hl) (h := fun k t => if t = true then some (c == c) else some false) ?_))) (fun k => by rw [if_pos rfl])
  exact Evl.pure.congr fun k => by rw [if_pos rfl]; simp
end Go.Proofs.Ytacklfnnpiobgaa.Pure
