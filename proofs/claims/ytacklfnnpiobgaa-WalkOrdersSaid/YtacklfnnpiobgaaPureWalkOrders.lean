/- The order in which all edges go on is the document's; where there is none, the edges that are told make a circle: at every graph. -/
import Derived.Test.YtacklfnnpiobgaaQ13
import Derived.Test.YtacklfnnpiobgaaQ18
import Derived.Test.YtacklfnnpiobgaaQ8
import Derived.KernelRfl
import Derived.Test.YtacklfnnpiobgaaOrd
import Derived.Test.YtacklfnnpiobgaaInts
namespace Go.Proofs.Ytacklfnnpiobgaa.Pure
open Go.RowKit Go.Proofs.Ytacklfnnpiobgaa.Q Go.Proofs.Ytacklfnnpiobgaa.G Go.Proofs.YtacklfnnpiobgaaW.PrintWords Go.Proofs.YtacklfnnpiobgaaW.PrintLast
set_option linter.unusedVariables false

theorem awake_f : Evl (fun k => compasslaw04_awake.f k) true := Evl.mono (k0 := 60) (by kernel_rfl) (fun k => compasslaw04_awake.mono k)

theorem WalkOrders (n : Int) (E : List S41) : ∃ k, compasslaw04_WalkOrders.f k n E = some true := by
  obtain ⟨O, C, c, H1, H2, hl, h⟩ := order_f n E
  refine Evl.at (r := true) (g := fun k => compasslaw04_WalkOrders.f k n E) ?_
  refine (Evl.bind awake_f (h := fun k t297 => (if t297 = true then ((walk_Order.f k n E).bind fun bt298 => ((compassref04_Order.f k n E).bind fun bt305 => ((compasslaw04_ints.f k bt298.1 bt305.1).bind fun t309 => (if t309 = true then (compasslaw04_WalkOrders.j0 k bt298.2.1 bt305.2 (bt298.2.2 != bt305.2) n E) else (compasslaw04_WalkOrders.j0 k bt298.2.1 bt305.2 true n E))))) else (some false))) ?_).congr fun k => rfl
  refine Evl.congr (Evl.bind H1 (Evl.bind H2 (Evl.bind (ints_same O (by omega)) (h := fun k t => if t = true then compasslaw04_WalkOrders.j0 k C c (c != c) n E else compasslaw04_WalkOrders.j0 k C c true n E) ?_))) (fun k => by rw [if_pos rfl])
  have hcc : (c != c) = false := by simp
  refine Evl.congr (h := fun k => compasslaw04_WalkOrders.j0 k C c false n E) ?_ (fun k => by rw [if_pos rfl, hcc])
  rcases h with ⟨rfl, -, hR, cc⟩ | ⟨rfl, rfl, -⟩ | ⟨-, h71, -, rfl⟩
  · refine (Evl.bind (circle_f n E hR C cc) (h := fun k t => some t) Evl.pure).step fun k => ?_
    rw [compasslaw04_WalkOrders.j0, if_neg (by simp), if_pos rfl]
  · refine Evl.here fun k => ?_
    rw [compasslaw04_WalkOrders.j0, if_neg (by simp), if_neg (by decide)]; rfl
  · refine Evl.here fun k => ?_
    rw [compasslaw04_WalkOrders.j0, if_neg (by simp), if_neg h71]; rfl
end Go.Proofs.Ytacklfnnpiobgaa.Pure
