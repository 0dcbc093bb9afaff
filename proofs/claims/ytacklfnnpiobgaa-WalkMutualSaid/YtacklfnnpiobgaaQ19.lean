-- PRINTED by print.py (a twelfth state) out of the translation. Not trusted: Lean checks it.
import Derived.Test.YtacklfnnpiobgaaQ0
namespace Go.Proofs.Ytacklfnnpiobgaa.Q
open Go.RowKit Go.Proofs.YtacklfnnpiobgaaW.PrintWords Go.Proofs.YtacklfnnpiobgaaW.PrintLast Go.Proofs.YtacklfnnpiobgaaW.PrintMore
attribute [local go_sem] max2_int min2_int max_two min_two max_three min_three max_four min_four   -- for this text's walks alone
set_option linter.unusedVariables false
set_option linter.unusedSimpArgs false

/-! ### compassref04_Numbered: function 40 -/
def compassref04_Numbered.l0 : Nat → List Int → List Int → Int → Int → Option (List Int)
  | 0, _, _, _, _ => none
  | k + 1, x0, x3, x4, x5 => if x5 < (x0.length : Int) then (if 0 ≤ x5 then (if (rd x0 x5) = x5 then (if x5 < (x3.length : Int) then (compassref04_Numbered.l0 k x0 (x3.set (x5 : Int).toNat x4) (wrap64 (x4 + 1)) (wrap64 (x5 + 1))) else (none)) else (if 0 ≤ (rd x0 x5) then (if (rd x0 x5) < (x3.length : Int) then (if x5 < (x3.length : Int) then (compassref04_Numbered.l0 k x0 (x3.set (x5 : Int).toNat (rd x3 (rd x0 x5))) x4 (wrap64 (x5 + 1))) else (none)) else (none)) else (none))) else (none)) else (some x3)
def compassref04_Numbered.f (k : Nat) (l0 : List Int) : Option (List Int) := if 0 ≤ (l0.length : Int) then (if ((l0.length : Int) : Int).toNat ≤ 35184372088832 then (compassref04_Numbered.l0 k l0 (List.replicate ((l0.length : Int) : Int).toNat 0) 0 0) else (none)) else (none)
theorem compassref04_Numbered.mono_l : ∀ k, (∀ y0 y1 y2 y3, LeO (compassref04_Numbered.l0 k y0 y1 y2 y3) (compassref04_Numbered.l0 (k + 1) y0 y1 y2 y3))
  | 0 => fun _ _ _ _ r h => by simp [compassref04_Numbered.l0] at h
  | k + 1 => by
    have ih0 := compassref04_Numbered.mono_l k
    · intro y0 y1 y2 y3
      unfold compassref04_Numbered.l0
      repeat' first
      | (with_reducible exact ih0 _ _ _ _)
      | (with_reducible exact LeO.refl _)
      | (with_reducible exact LeO.none _)
      | (with_reducible refine LeO.ite ?_ ?_)
      | (with_reducible refine LeO.bind ?_ (fun _ => ?_))
      | exact ih0 _ _ _ _
      | exact LeO.none _
      | refine LeO.ite ?_ ?_
      | refine LeO.bind ?_ (fun _ => ?_)
theorem compassref04_Numbered.mono : ∀ a0 k, LeO (compassref04_Numbered.f k a0) (compassref04_Numbered.f (k + 1) a0) := by
  intro a0 k
  have ih0 := compassref04_Numbered.mono_l k
  unfold compassref04_Numbered.f
  repeat' first
      | (with_reducible exact ih0 _ _ _ _)
      | (with_reducible exact LeO.refl _)
      | (with_reducible exact LeO.none _)
      | (with_reducible refine LeO.ite ?_ ?_)
      | (with_reducible refine LeO.bind ?_ (fun _ => ?_))
      | exact ih0 _ _ _ _
      | exact LeO.none _
      | refine LeO.ite ?_ ?_
      | refine LeO.bind ?_ (fun _ => ?_)
end Go.Proofs.Ytacklfnnpiobgaa.Q
