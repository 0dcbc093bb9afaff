/- Going into the depth, nodes are come to and left just when the document says: at every graph. -/
import Derived.Test.YtacklfnnpiobgaaQ14
import Derived.Test.YtacklfnnpiobgaaQ9
import Derived.KernelRfl
import Derived.Test.YtacklfnnpiobgaaDfsG
import Derived.Test.YtacklfnnpiobgaaInts
namespace Go.Proofs.Ytacklfnnpiobgaa.Pure
open Go.RowKit Go.Proofs.Ytacklfnnpiobgaa.Q Go.Proofs.Ytacklfnnpiobgaa.G Go.Proofs.YtacklfnnpiobgaaW.PrintWords Go.Proofs.YtacklfnnpiobgaaW.PrintLast
set_option linter.unusedVariables false

theorem awake_f : Evl (fun k => compasslaw04_awake.f k) true := Evl.mono (k0 := 60) (by kernel_rfl) (fun k => compasslaw04_awake.mono k)

theorem WalkVisits (n : Int) (E : List S41) : ∃ k, compasslaw04_WalkVisits.f k n E = some true := by
  obtain ⟨P, Q, c, H1, H2, hz, hn⟩ := visits_f n E
  have hl : (P.length : Int) ≤ 1000000000000 ∧ (Q.length : Int) ≤ 1000000000000 := by
    by_cases e : c = 0
    · obtain ⟨R, ⟨t, I⟩, -⟩ := hz e
      have := I.pl; have := I.ql; have := R.n1; omega
    · obtain ⟨rfl, rfl⟩ := hn e; simp
  refine Evl.at (r := true) (g := fun k => compasslaw04_WalkVisits.f k n E) ?_
  refine Evl.congr (Evl.bind awake_f (h := fun k t => (if t = true then ((walk_Visit.f k n E).bind fun bt276 => ((compassref04_Visit.f k n E).bind fun bt283 => ((compasslaw04_ints.f k bt276.1 bt283.1).bind fun t290 => (if t290 = true then ((compasslaw04_ints.f k bt276.2.1 bt283.2.1).bind fun t291 => (if t291 = true then (some (bt276.2.2 == bt283.2.2)) else (some false))) else (some false))))) else (some false))) ?_) fun k => rfl
  refine Evl.congr (Evl.bind H1 (h := fun k (bt276 : List Int × List Int × Int) => ((compassref04_Visit.f k n E).bind fun bt283 => ((compasslaw04_ints.f k bt276.1 bt283.1).bind fun t290 => (if t290 = true then ((compasslaw04_ints.f k bt276.2.1 bt283.2.1).bind fun t291 => (if t291 = true then (some (bt276.2.2 == bt283.2.2)) else (some false))) else (some false))))) ?_) fun k => by rw [if_pos rfl]
  refine Evl.bind H2 (h := fun k (bt283 : List Int × List Int × Int) => ((compasslaw04_ints.f k P bt283.1).bind fun t290 => (if t290 = true then ((compasslaw04_ints.f k Q bt283.2.1).bind fun t291 => (if t291 = true then (some (c == bt283.2.2)) else (some false))) else (some false)))) ?_
  refine Evl.bind (ints_same P hl.1) (h := fun k t290 => (if t290 = true then ((compasslaw04_ints.f k Q Q).bind fun t291 => (if t291 = true then (some (c == c)) else (some false))) else (some false))) ?_
  refine Evl.congr (Evl.bind (ints_same Q hl.2) (h := fun k t291 => if t291 = true then some (c == c) else some false) ?_) fun k => by rw [if_pos rfl]
  exact Evl.pure.congr fun k => by rw [if_pos rfl, beq_self_eq_true]
end Go.Proofs.Ytacklfnnpiobgaa.Pure
