/- What the condition on the table gives a walk: each of its cells; a world that meets it. -/
import Derived.Test.YtdkhaibibpekoaaDoorRows
import Derived.Test.YtdkhaibibpekoaaDoorK
import Derived.ProofKit
import Derived.LaidMore
import Derived.OpenShut
import Derived.Stop.Joined
namespace Go.Proofs.YtdkhaibibpekoaaDoor.Lay
open Go.ChangeShapes Go.WideShapes Go.ChangeAt Go.RowKit Go.Proofs.YtdkhaibibpekoaaDoor.Q
set_option linter.unusedVariables false
def laidL : List (String × DataW Unit) := [("math/bits.deBruijn64tab", Rows.laid_math_bits_deBruijn64tab)]
theorem own : ownKnob Tryd.prog.godebug = none := by kernel_rfl
theorem gTab : Tryd.prog.globalNamed "math/bits.deBruijn64tab" = some 3 := by kernel_rfl
theorem tTab : (Tryd.prog.globals[3]?).map (·.type) = some 70 := by kernel_rfl
theorem door_met (os : Os) (args : Array Value) : laidMetH Tryd.prog laidL ((World.doorLaid Tryd.prog 400 os).forCall (fun _ _ => 0) ⟨#[], args, []⟩).memory :=
  laidMetH_of_parts3 (fuel := 8) (laidMet_of_run' 8 (by kernel_rfl) (by kernel_rfl)) (by kernel_rfl) (by kernel_rfl)
theorem datum : (Rows.laid_math_bits_deBruijn64tab : DataW Unit) = .agg (dbTab.map fun n => .lit (.int .u8 n)) := rfl
theorem of_laid {W : World} (h : laidMetH Tryd.prog laidL W) : Laid W := by
  rw [MakeChecks.laidMetH_plain _ _ _ (by kernel_rfl)] at h
  obtain ⟨ps, ⟨g0, t0, cs0, f0, p0, q0, hg0, ht0, hv0, hd0, _⟩, _, _⟩ := h
  obtain rfl := Option.some.inj (gTab.symm.trans hg0)
  obtain rfl := Option.some.inj (tTab.symm.trans ht0)
  obtain ⟨xs, m1, rfl, hx1, hlen, hn3, hel⟩ := DataW.trod_array Tryd.underlying70 hd0
  have c5 : Tryd.prog.cellsOf 5 = 1 := by kernel_rfl
  simp only [Prod.mk.injEq] at hx1
  have hx := hx1.1
  rw [datum] at hx
  have hxs := DataW.agg.inj hx
  intro j hj
  have e := hel j hj
  rw [c5, Nat.mul_one] at e
  obtain ⟨x, ex⟩ : ∃ x, xs[j]? = some x := ⟨xs[j]'(by omega), List.getElem?_eq_getElem (by omega)⟩
  rw [ex] at e
  obtain ⟨k, e1, e2, _⟩ := DataW.trod_int Tryd.underlying5 e
  have m : (xs.map (·.1))[j]? = some x.1 := by rw [List.getElem?_map, ex]; rfl
  rw [← hxs, List.getElem?_map, e2] at m
  have k1 : dbTab[j]? = some k := by
    cases q : dbTab[j]? with
    | none => rw [q] at m; cases m
    | some v =>
      rw [q] at m
      simp only [Option.map_some, Option.some.injEq, DataW.lit.injEq, Lit.int.injEq, true_and] at m
      rw [m]
  have cell := World.var?_cell hg0 hv0 j
  rw [cell, List.getD_eq_getElem?_getD, k1]
  have : cs0.toList[j]? = some (.int .u8 k) := by
    have z := congrArg (fun l => l[0]?) e1
    simpa using z
  simpa using this
end Go.Proofs.YtdkhaibibpekoaaDoor.Lay
