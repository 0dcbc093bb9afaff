-- PRINTED by print.py (a twelfth state) out of the translation. Not trusted: Lean checks it.
import Derived.Test.YtacklfnnpiobgaaQ0
import Derived.Test.YtacklfnnpiobgaaQ5
namespace Go.Proofs.Ytacklfnnpiobgaa.Q
open Go.RowKit Go.Proofs.YtacklfnnpiobgaaW.PrintWords Go.Proofs.YtacklfnnpiobgaaW.PrintLast Go.Proofs.YtacklfnnpiobgaaW.PrintMore
attribute [local go_sem] max2_int min2_int max_two min_two max_three min_three max_four min_four   -- for this text's walks alone
set_option linter.unusedVariables false
set_option linter.unusedSimpArgs false

/-! ### walk_round: function 33 -/
mutual
def walk_round.l0 : Nat → List Bool → List Int → Int → List (S41) → Int → Int → Int → List (S41) → Option (List Int)
  | 0, _, _, _, _, _, _, _, _ => none
  | k + 1, x1, x5, x6, x18, x19, x20, x150000, x150001 => if x20 < x19 then (if 0 ≤ x20 then (if x20 < (x18.length : Int) then (if 0 ≤ ((rd_T41 x18 x20).f0) then (if ((rd_T41 x18 x20).f0) < (x1.length : Int) then (if (rdOf false x1 ((rd_T41 x18 x20).f0) = true) then (walk_round.l0 k x1 x5 x6 x18 x19 (wrap64 (x20 + 1)) x150000 x150001) else (if 0 ≤ ((rd_T41 x18 x20).f1) then (if ((rd_T41 x18 x20).f1) < (x1.length : Int) then (if (rdOf false x1 ((rd_T41 x18 x20).f1) = true) then (walk_round.l0 k x1 x5 x6 x18 x19 (wrap64 (x20 + 1)) x150000 x150001) else (if ((rd_T41 x18 x20).f1) < (x5.length : Int) then (walk_round.l0 k x1 (x5.set (((rd_T41 x18 x20).f1) : Int).toNat x20) x6 x18 x19 (wrap64 (x20 + 1)) x150000 x150001) else (none))) else (none)) else (none))) else (none)) else (none)) else (none)) else (none)) else (walk_round.l1 k x1 x5 x6 x150000 0 x150000 x150001)
def walk_round.l1 : Nat → List Bool → List Int → Int → Int → Int → Int → List (S41) → Option (List Int)
  | 0, _, _, _, _, _, _, _ => none
  | k + 1, x1, x5, x6, x46, x47, x150000, x150001 => if x47 < x46 then (if 0 ≤ x47 then (if x47 < (x1.length : Int) then (if rdOf false x1 x47 = true then (walk_round.l1 k x1 x5 x6 x46 (wrap64 (x47 + 1)) x150000 x150001) else (walk_round.l1 k x1 x5 x47 x46 (wrap64 (x47 + 1)) x150000 x150001)) else (none)) else (none)) else ((walk_filled.f k x150000 (-1)).bind fun t159 => (walk_round.l2 k x5 x6 t159 ([] : List Int) x150000 x150001))
def walk_round.l2 : Nat → List Int → Int → List Int → List Int → Int → List (S41) → Option (List Int)
  | 0, _, _, _, _, _, _ => none
  | k + 1, x5, x6, x10, x11, x150000, x150001 => if 0 ≤ x6 then (if x6 < (x10.length : Int) then (if (rd x10 x6) < 0 then (if x6 < (x5.length : Int) then (if x11.length < 17592186044416 then (if 0 ≤ (rd x5 x6) then (if (rd x5 x6) < (x150001.length : Int) then (walk_round.l2 k x5 ((rd_T41 x150001 (rd x5 x6)).f0) (x10.set (x6 : Int).toNat (x11.length : Int)) (x11 ++ [rd x5 x6]) x150000 x150001) else (none)) else (none)) else (none)) else (none)) else (walk_round.l3 k x6 x10 x11 ([] : List Int) (wrap64 ((x11.length : Int) - 1)))) else (none)) else (none)
def walk_round.l3 : Nat → Int → List Int → List Int → List Int → Int → Option (List Int)
  | 0, _, _, _, _, _ => none
  | k + 1, x6, x10, x11, x12, x13 => if 0 ≤ x6 then (if x6 < (x10.length : Int) then (if x13 ≥ (rd x10 x6) then (if 0 ≤ x13 then (if x13 < (x11.length : Int) then (if x12.length < 17592186044416 then (walk_round.l3 k x6 x10 x11 (x12 ++ [rd x11 x13]) (wrap64 (x13 - 1))) else (none)) else (none)) else (none)) else (some x12)) else (none)) else (none)
end
def walk_round.f (k : Nat) (a0_0 : Int) (l0_1 : List (S41)) (l1 : List Bool) : Option (List Int) := (walk_filled.f k a0_0 (-1)).bind fun t150 => (walk_round.l0 k l1 t150 (-1) l0_1 (l0_1.length : Int) 0 a0_0 l0_1)
theorem walk_round.mono_l : ∀ k, (∀ y0 y1 y2 y3 y4 y5 y6 y7, LeO (walk_round.l0 k y0 y1 y2 y3 y4 y5 y6 y7) (walk_round.l0 (k + 1) y0 y1 y2 y3 y4 y5 y6 y7)) ∧ (∀ y0 y1 y2 y3 y4 y5 y6, LeO (walk_round.l1 k y0 y1 y2 y3 y4 y5 y6) (walk_round.l1 (k + 1) y0 y1 y2 y3 y4 y5 y6)) ∧ (∀ y0 y1 y2 y3 y4 y5, LeO (walk_round.l2 k y0 y1 y2 y3 y4 y5) (walk_round.l2 (k + 1) y0 y1 y2 y3 y4 y5)) ∧ (∀ y0 y1 y2 y3 y4, LeO (walk_round.l3 k y0 y1 y2 y3 y4) (walk_round.l3 (k + 1) y0 y1 y2 y3 y4))
  | 0 => ⟨fun _ _ _ _ _ _ _ _ r h => by simp [walk_round.l0] at h, fun _ _ _ _ _ _ _ r h => by simp [walk_round.l1] at h, fun _ _ _ _ _ _ r h => by simp [walk_round.l2] at h, fun _ _ _ _ _ r h => by simp [walk_round.l3] at h⟩
  | k + 1 => by
    obtain ⟨ih0, ih1, ih2, ih3⟩ := walk_round.mono_l k
    refine ⟨?_, ?_, ?_, ?_⟩
    · intro y0 y1 y2 y3 y4 y5 y6 y7
      unfold walk_round.l0
      repeat' first
      | (with_reducible exact ih0 _ _ _ _ _ _ _ _)
      | (with_reducible exact ih1 _ _ _ _ _ _ _)
      | (with_reducible exact ih2 _ _ _ _ _ _)
      | (with_reducible exact ih3 _ _ _ _ _)
      | (with_reducible exact walk_filled.mono _ _ _)
      | (with_reducible exact LeO.refl _)
      | (with_reducible exact LeO.none _)
      | (with_reducible refine LeO.ite ?_ ?_)
      | (with_reducible refine LeO.bind ?_ (fun _ => ?_))
      | exact ih0 _ _ _ _ _ _ _ _
      | exact ih1 _ _ _ _ _ _ _
      | exact ih2 _ _ _ _ _ _
      | exact ih3 _ _ _ _ _
      | exact walk_filled.mono _ _ _
      | exact LeO.none _
      | refine LeO.ite ?_ ?_
      | refine LeO.bind ?_ (fun _ => ?_)
    · intro y0 y1 y2 y3 y4 y5 y6
      unfold walk_round.l1
      repeat' first
      | (with_reducible exact ih0 _ _ _ _ _ _ _ _)
      | (with_reducible exact ih1 _ _ _ _ _ _ _)
      | (with_reducible exact ih2 _ _ _ _ _ _)
      | (with_reducible exact ih3 _ _ _ _ _)
      | (with_reducible exact walk_filled.mono _ _ _)
      | (with_reducible exact LeO.refl _)
      | (with_reducible exact LeO.none _)
      | (with_reducible refine LeO.ite ?_ ?_)
      | (with_reducible refine LeO.bind ?_ (fun _ => ?_))
      | exact ih0 _ _ _ _ _ _ _ _
      | exact ih1 _ _ _ _ _ _ _
      | exact ih2 _ _ _ _ _ _
      | exact ih3 _ _ _ _ _
      | exact walk_filled.mono _ _ _
      | exact LeO.none _
      | refine LeO.ite ?_ ?_
      | refine LeO.bind ?_ (fun _ => ?_)
    · intro y0 y1 y2 y3 y4 y5
      unfold walk_round.l2
      repeat' first
      | (with_reducible exact ih0 _ _ _ _ _ _ _ _)
      | (with_reducible exact ih1 _ _ _ _ _ _ _)
      | (with_reducible exact ih2 _ _ _ _ _ _)
      | (with_reducible exact ih3 _ _ _ _ _)
      | (with_reducible exact walk_filled.mono _ _ _)
      | (with_reducible exact LeO.refl _)
      | (with_reducible exact LeO.none _)
      | (with_reducible refine LeO.ite ?_ ?_)
      | (with_reducible refine LeO.bind ?_ (fun _ => ?_))
      | exact ih0 _ _ _ _ _ _ _ _
      | exact ih1 _ _ _ _ _ _ _
      | exact ih2 _ _ _ _ _ _
      | exact ih3 _ _ _ _ _
      | exact walk_filled.mono _ _ _
      | exact LeO.none _
      | refine LeO.ite ?_ ?_
      | refine LeO.bind ?_ (fun _ => ?_)
    · intro y0 y1 y2 y3 y4
      unfold walk_round.l3
      repeat' first
      | (with_reducible exact ih0 _ _ _ _ _ _ _ _)
      | (with_reducible exact ih1 _ _ _ _ _ _ _)
      | (with_reducible exact ih2 _ _ _ _ _ _)
      | (with_reducible exact ih3 _ _ _ _ _)
      | (with_reducible exact walk_filled.mono _ _ _)
      | (with_reducible exact LeO.refl _)
      | (with_reducible exact LeO.none _)
      | (with_reducible refine LeO.ite ?_ ?_)
      | (with_reducible refine LeO.bind ?_ (fun _ => ?_))
      | exact ih0 _ _ _ _ _ _ _ _
      | exact ih1 _ _ _ _ _ _ _
      | exact ih2 _ _ _ _ _ _
      | exact ih3 _ _ _ _ _
      | exact walk_filled.mono _ _ _
      | exact LeO.none _
      | refine LeO.ite ?_ ?_
      | refine LeO.bind ?_ (fun _ => ?_)
theorem walk_round.mono : ∀ a0 a1 a2 k, LeO (walk_round.f k a0 a1 a2) (walk_round.f (k + 1) a0 a1 a2) := by
  intro a0 a1 a2 k
  obtain ⟨ih0, ih1, ih2, ih3⟩ := walk_round.mono_l k
  unfold walk_round.f
  repeat' first
      | (with_reducible exact ih0 _ _ _ _ _ _ _ _)
      | (with_reducible exact ih1 _ _ _ _ _ _ _)
      | (with_reducible exact ih2 _ _ _ _ _ _)
      | (with_reducible exact ih3 _ _ _ _ _)
      | (with_reducible exact walk_filled.mono _ _ _)
      | (with_reducible exact LeO.refl _)
      | (with_reducible exact LeO.none _)
      | (with_reducible refine LeO.ite ?_ ?_)
      | (with_reducible refine LeO.bind ?_ (fun _ => ?_))
      | exact ih0 _ _ _ _ _ _ _ _
      | exact ih1 _ _ _ _ _ _ _
      | exact ih2 _ _ _ _ _ _
      | exact ih3 _ _ _ _ _
      | exact walk_filled.mono _ _ _
      | exact LeO.none _
      | refine LeO.ite ?_ ?_
      | refine LeO.bind ?_ (fun _ => ?_)
end Go.Proofs.Ytacklfnnpiobgaa.Q
