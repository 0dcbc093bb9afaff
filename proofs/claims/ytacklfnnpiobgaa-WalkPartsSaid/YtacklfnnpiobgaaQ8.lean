-- PRINTED by print.py (a twelfth state) out of the translation. Not trusted: Lean checks it.
import Derived.Test.YtacklfnnpiobgaaQ0
import Derived.Test.YtacklfnnpiobgaaQ3
import Derived.Test.YtacklfnnpiobgaaQ4
import Derived.Test.YtacklfnnpiobgaaQ7
namespace Go.Proofs.Ytacklfnnpiobgaa.Q
open Go.RowKit Go.Proofs.YtacklfnnpiobgaaW.PrintWords Go.Proofs.YtacklfnnpiobgaaW.PrintLast Go.Proofs.YtacklfnnpiobgaaW.PrintMore
attribute [local go_sem] max2_int min2_int max_two min_two max_three min_three max_four min_four   -- for this text's walks alone
set_option linter.unusedVariables false
set_option linter.unusedSimpArgs false

/-! ### walk_Order: function 16 -/
mutual
def walk_Order.l0 : Nat → List Int → List (S41) → Int → Int → Int → List (S41) → Option (List Int × List Int × Int)
  | 0, _, _, _, _, _, _ => none
  | k + 1, x6, x25, x26, x27, x176000, x176001 => if x27 < x26 then (if 0 ≤ x27 then (if x27 < (x25.length : Int) then (if 0 ≤ ((rd_T41 x25 x27).f1) then (if ((rd_T41 x25 x27).f1) < (x6.length : Int) then (walk_Order.l0 k (x6.set (((rd_T41 x25 x27).f1) : Int).toNat (wrap64 ((rd x6 ((rd_T41 x25 x27).f1)) + 1))) x25 x26 (wrap64 (x27 + 1)) x176000 x176001) else (none)) else (none)) else (none)) else (none)) else (if 0 ≤ x176000 then (if (x176000 : Int).toNat ≤ 281474976710656 then ((walk_outs.f k x176000 x176001).bind fun t189 => (walk_Order.l1 k ([] : List Int) x6 (List.replicate (x176000 : Int).toNat false) t189 x176000 0 x176000 x176001)) else (none)) else (none))
def walk_Order.l1 : Nat → List Int → List Int → List Bool → List (List Int) → Int → Int → Int → List (S41) → Option (List Int × List Int × Int)
  | 0, _, _, _, _, _, _, _, _ => none
  | k + 1, x2, x6, x9, x10, x45, x46, x176000, x176001 => if x46 < x45 then (walk_Order.l2 k x2 x6 x9 x10 x45 x46 x176000 0 x176000 x176001) else (some (x2, ([] : List Int), 0))
def walk_Order.l2 : Nat → List Int → List Int → List Bool → List (List Int) → Int → Int → Int → Int → Int → List (S41) → Option (List Int × List Int × Int)
  | 0, _, _, _, _, _, _, _, _, _, _ => none
  | k + 1, x2, x6, x9, x10, x45, x46, x49, x50, x176000, x176001 => if x50 < x49 then (if 0 ≤ x50 then (if x50 < (x9.length : Int) then (if rdOf false x9 x50 = true then (walk_Order.j3 k x2 x6 x9 x10 x50 x45 x46 x49 x50 false x176000 x176001) else (if x50 < (x6.length : Int) then (walk_Order.j3 k x2 x6 x9 x10 x50 x45 x46 x49 x50 ((rd x6 x50) == 0) x176000 x176001) else (none))) else (none)) else (none)) else ((walk_round.f k x176000 x176001 x9).bind fun t192 => (some (([] : List Int), t192, 71)))
def walk_Order.j3 : Nat → List Int → List Int → List Bool → List (List Int) → Int → Int → Int → Int → Int → Bool → Int → List (S41) → Option (List Int × List Int × Int)
  | 0, _, _, _, _, _, _, _, _, _, _, _, _ => none
  | k + 1, x2, x6, x9, x10, x11, x45, x46, x49, x50, x64, x176000, x176001 => if x64 = true then (if 0 ≤ x11 then (if x11 < (x9.length : Int) then (if x2.length < 17592186044416 then (if x11 < (x10.length : Int) then (walk_Order.l3 k (x2 ++ [x11]) x6 (x9.set (x11 : Int).toNat true) x10 x45 x46 (rd_L2 x10 x11) ((rd_L2 x10 x11).length : Int) 0 x176000 x176001) else (none)) else (none)) else (none)) else (none)) else (walk_Order.l2 k x2 x6 x9 x10 x45 x46 x49 (wrap64 (x50 + 1)) x176000 x176001)
def walk_Order.l3 : Nat → List Int → List Int → List Bool → List (List Int) → Int → Int → List Int → Int → Int → Int → List (S41) → Option (List Int × List Int × Int)
  | 0, _, _, _, _, _, _, _, _, _, _, _ => none
  | k + 1, x2, x6, x9, x10, x45, x46, x75, x76, x77, x176000, x176001 => if x77 < x76 then (if 0 ≤ x77 then (if x77 < (x75.length : Int) then (if 0 ≤ (rd x75 x77) then (if (rd x75 x77) < (x176001.length : Int) then (if 0 ≤ ((rd_T41 x176001 (rd x75 x77)).f1) then (if ((rd_T41 x176001 (rd x75 x77)).f1) < (x6.length : Int) then (walk_Order.l3 k x2 (x6.set (((rd_T41 x176001 (rd x75 x77)).f1) : Int).toNat (wrap64 ((rd x6 ((rd_T41 x176001 (rd x75 x77)).f1)) - 1))) x9 x10 x45 x46 x75 x76 (wrap64 (x77 + 1)) x176000 x176001) else (none)) else (none)) else (none)) else (none)) else (none)) else (none)) else (walk_Order.l1 k x2 x6 x9 x10 x45 (wrap64 (x46 + 1)) x176000 x176001)
end
def walk_Order.f (k : Nat) (a0_0 : Int) (l0_1 : List (S41)) : Option (List Int × List Int × Int) := (graph_Check.f k a0_0 l0_1).bind fun bt176 => (if bt176.1 = 0 then (if 0 ≤ a0_0 then (if (a0_0 : Int).toNat ≤ 35184372088832 then (walk_Order.l0 k (List.replicate (a0_0 : Int).toNat 0) l0_1 (l0_1.length : Int) 0 a0_0 l0_1) else (none)) else (none)) else (some (([] : List Int), ([] : List Int), bt176.1)))
theorem walk_Order.mono_l : ∀ k, (∀ y0 y1 y2 y3 y4 y5, LeO (walk_Order.l0 k y0 y1 y2 y3 y4 y5) (walk_Order.l0 (k + 1) y0 y1 y2 y3 y4 y5)) ∧ (∀ y0 y1 y2 y3 y4 y5 y6 y7, LeO (walk_Order.l1 k y0 y1 y2 y3 y4 y5 y6 y7) (walk_Order.l1 (k + 1) y0 y1 y2 y3 y4 y5 y6 y7)) ∧ (∀ y0 y1 y2 y3 y4 y5 y6 y7 y8 y9, LeO (walk_Order.l2 k y0 y1 y2 y3 y4 y5 y6 y7 y8 y9) (walk_Order.l2 (k + 1) y0 y1 y2 y3 y4 y5 y6 y7 y8 y9)) ∧ (∀ y0 y1 y2 y3 y4 y5 y6 y7 y8 y9 y10 y11, LeO (walk_Order.j3 k y0 y1 y2 y3 y4 y5 y6 y7 y8 y9 y10 y11) (walk_Order.j3 (k + 1) y0 y1 y2 y3 y4 y5 y6 y7 y8 y9 y10 y11)) ∧ (∀ y0 y1 y2 y3 y4 y5 y6 y7 y8 y9 y10, LeO (walk_Order.l3 k y0 y1 y2 y3 y4 y5 y6 y7 y8 y9 y10) (walk_Order.l3 (k + 1) y0 y1 y2 y3 y4 y5 y6 y7 y8 y9 y10))
  | 0 => ⟨fun _ _ _ _ _ _ r h => by simp [walk_Order.l0] at h, fun _ _ _ _ _ _ _ _ r h => by simp [walk_Order.l1] at h, fun _ _ _ _ _ _ _ _ _ _ r h => by simp [walk_Order.l2] at h, fun _ _ _ _ _ _ _ _ _ _ _ _ r h => by simp [walk_Order.j3] at h, fun _ _ _ _ _ _ _ _ _ _ _ r h => by simp [walk_Order.l3] at h⟩
  | k + 1 => by
    obtain ⟨ih0, ih1, ih2, ih3, ih4⟩ := walk_Order.mono_l k
    refine ⟨?_, ?_, ?_, ?_, ?_⟩
    · intro y0 y1 y2 y3 y4 y5
      unfold walk_Order.l0
      repeat' first
      | (with_reducible exact ih0 _ _ _ _ _ _)
      | (with_reducible exact ih1 _ _ _ _ _ _ _ _)
      | (with_reducible exact ih2 _ _ _ _ _ _ _ _ _ _)
      | (with_reducible exact ih3 _ _ _ _ _ _ _ _ _ _ _ _)
      | (with_reducible exact ih4 _ _ _ _ _ _ _ _ _ _ _)
      | (with_reducible exact graph_Check.mono _ _ _)
      | (with_reducible exact walk_outs.mono _ _ _)
      | (with_reducible exact walk_round.mono _ _ _ _)
      | (with_reducible exact LeO.refl _)
      | (with_reducible exact LeO.none _)
      | (with_reducible refine LeO.ite ?_ ?_)
      | (with_reducible refine LeO.bind ?_ (fun _ => ?_))
      | exact ih0 _ _ _ _ _ _
      | exact ih1 _ _ _ _ _ _ _ _
      | exact ih2 _ _ _ _ _ _ _ _ _ _
      | exact ih3 _ _ _ _ _ _ _ _ _ _ _ _
      | exact ih4 _ _ _ _ _ _ _ _ _ _ _
      | exact graph_Check.mono _ _ _
      | exact walk_outs.mono _ _ _
      | exact walk_round.mono _ _ _ _
      | exact LeO.none _
      | refine LeO.ite ?_ ?_
      | refine LeO.bind ?_ (fun _ => ?_)
    · intro y0 y1 y2 y3 y4 y5 y6 y7
      unfold walk_Order.l1
      repeat' first
      | (with_reducible exact ih0 _ _ _ _ _ _)
      | (with_reducible exact ih1 _ _ _ _ _ _ _ _)
      | (with_reducible exact ih2 _ _ _ _ _ _ _ _ _ _)
      | (with_reducible exact ih3 _ _ _ _ _ _ _ _ _ _ _ _)
      | (with_reducible exact ih4 _ _ _ _ _ _ _ _ _ _ _)
      | (with_reducible exact graph_Check.mono _ _ _)
      | (with_reducible exact walk_outs.mono _ _ _)
      | (with_reducible exact walk_round.mono _ _ _ _)
      | (with_reducible exact LeO.refl _)
      | (with_reducible exact LeO.none _)
      | (with_reducible refine LeO.ite ?_ ?_)
      | (with_reducible refine LeO.bind ?_ (fun _ => ?_))
      | exact ih0 _ _ _ _ _ _
      | exact ih1 _ _ _ _ _ _ _ _
      | exact ih2 _ _ _ _ _ _ _ _ _ _
      | exact ih3 _ _ _ _ _ _ _ _ _ _ _ _
      | exact ih4 _ _ _ _ _ _ _ _ _ _ _
      | exact graph_Check.mono _ _ _
      | exact walk_outs.mono _ _ _
      | exact walk_round.mono _ _ _ _
      | exact LeO.none _
      | refine LeO.ite ?_ ?_
      | refine LeO.bind ?_ (fun _ => ?_)
    · intro y0 y1 y2 y3 y4 y5 y6 y7 y8 y9
      unfold walk_Order.l2
      repeat' first
      | (with_reducible exact ih0 _ _ _ _ _ _)
      | (with_reducible exact ih1 _ _ _ _ _ _ _ _)
      | (with_reducible exact ih2 _ _ _ _ _ _ _ _ _ _)
      | (with_reducible exact ih3 _ _ _ _ _ _ _ _ _ _ _ _)
      | (with_reducible exact ih4 _ _ _ _ _ _ _ _ _ _ _)
      | (with_reducible exact graph_Check.mono _ _ _)
      | (with_reducible exact walk_outs.mono _ _ _)
      | (with_reducible exact walk_round.mono _ _ _ _)
      | (with_reducible exact LeO.refl _)
      | (with_reducible exact LeO.none _)
      | (with_reducible refine LeO.ite ?_ ?_)
      | (with_reducible refine LeO.bind ?_ (fun _ => ?_))
      | exact ih0 _ _ _ _ _ _
      | exact ih1 _ _ _ _ _ _ _ _
      | exact ih2 _ _ _ _ _ _ _ _ _ _
      | exact ih3 _ _ _ _ _ _ _ _ _ _ _ _
      | exact ih4 _ _ _ _ _ _ _ _ _ _ _
      | exact graph_Check.mono _ _ _
      | exact walk_outs.mono _ _ _
      | exact walk_round.mono _ _ _ _
      | exact LeO.none _
      | refine LeO.ite ?_ ?_
      | refine LeO.bind ?_ (fun _ => ?_)
    · intro y0 y1 y2 y3 y4 y5 y6 y7 y8 y9 y10 y11
      unfold walk_Order.j3
      repeat' first
      | (with_reducible exact ih0 _ _ _ _ _ _)
      | (with_reducible exact ih1 _ _ _ _ _ _ _ _)
      | (with_reducible exact ih2 _ _ _ _ _ _ _ _ _ _)
      | (with_reducible exact ih3 _ _ _ _ _ _ _ _ _ _ _ _)
      | (with_reducible exact ih4 _ _ _ _ _ _ _ _ _ _ _)
      | (with_reducible exact graph_Check.mono _ _ _)
      | (with_reducible exact walk_outs.mono _ _ _)
      | (with_reducible exact walk_round.mono _ _ _ _)
      | (with_reducible exact LeO.refl _)
      | (with_reducible exact LeO.none _)
      | (with_reducible refine LeO.ite ?_ ?_)
      | (with_reducible refine LeO.bind ?_ (fun _ => ?_))
      | exact ih0 _ _ _ _ _ _
      | exact ih1 _ _ _ _ _ _ _ _
      | exact ih2 _ _ _ _ _ _ _ _ _ _
      | exact ih3 _ _ _ _ _ _ _ _ _ _ _ _
      | exact ih4 _ _ _ _ _ _ _ _ _ _ _
      | exact graph_Check.mono _ _ _
      | exact walk_outs.mono _ _ _
      | exact walk_round.mono _ _ _ _
      | exact LeO.none _
      | refine LeO.ite ?_ ?_
      | refine LeO.bind ?_ (fun _ => ?_)
    · intro y0 y1 y2 y3 y4 y5 y6 y7 y8 y9 y10
      unfold walk_Order.l3
      repeat' first
      | (with_reducible exact ih0 _ _ _ _ _ _)
      | (with_reducible exact ih1 _ _ _ _ _ _ _ _)
      | (with_reducible exact ih2 _ _ _ _ _ _ _ _ _ _)
      | (with_reducible exact ih3 _ _ _ _ _ _ _ _ _ _ _ _)
      | (with_reducible exact ih4 _ _ _ _ _ _ _ _ _ _ _)
      | (with_reducible exact graph_Check.mono _ _ _)
      | (with_reducible exact walk_outs.mono _ _ _)
      | (with_reducible exact walk_round.mono _ _ _ _)
      | (with_reducible exact LeO.refl _)
      | (with_reducible exact LeO.none _)
      | (with_reducible refine LeO.ite ?_ ?_)
      | (with_reducible refine LeO.bind ?_ (fun _ => ?_))
      | exact ih0 _ _ _ _ _ _
      | exact ih1 _ _ _ _ _ _ _ _
      | exact ih2 _ _ _ _ _ _ _ _ _ _
      | exact ih3 _ _ _ _ _ _ _ _ _ _ _ _
      | exact ih4 _ _ _ _ _ _ _ _ _ _ _
      | exact graph_Check.mono _ _ _
      | exact walk_outs.mono _ _ _
      | exact walk_round.mono _ _ _ _
      | exact LeO.none _
      | refine LeO.ite ?_ ?_
      | refine LeO.bind ?_ (fun _ => ?_)
theorem walk_Order.mono : ∀ a0 a1 k, LeO (walk_Order.f k a0 a1) (walk_Order.f (k + 1) a0 a1) := by
  intro a0 a1 k
  obtain ⟨ih0, ih1, ih2, ih3, ih4⟩ := walk_Order.mono_l k
  unfold walk_Order.f
  repeat' first
      | (with_reducible exact ih0 _ _ _ _ _ _)
      | (with_reducible exact ih1 _ _ _ _ _ _ _ _)
      | (with_reducible exact ih2 _ _ _ _ _ _ _ _ _ _)
      | (with_reducible exact ih3 _ _ _ _ _ _ _ _ _ _ _ _)
      | (with_reducible exact ih4 _ _ _ _ _ _ _ _ _ _ _)
      | (with_reducible exact graph_Check.mono _ _ _)
      | (with_reducible exact walk_outs.mono _ _ _)
      | (with_reducible exact walk_round.mono _ _ _ _)
      | (with_reducible exact LeO.refl _)
      | (with_reducible exact LeO.none _)
      | (with_reducible refine LeO.ite ?_ ?_)
      | (with_reducible refine LeO.bind ?_ (fun _ => ?_))
      | exact ih0 _ _ _ _ _ _
      | exact ih1 _ _ _ _ _ _ _ _
      | exact ih2 _ _ _ _ _ _ _ _ _ _
      | exact ih3 _ _ _ _ _ _ _ _ _ _ _ _
      | exact ih4 _ _ _ _ _ _ _ _ _ _ _
      | exact graph_Check.mono _ _ _
      | exact walk_outs.mono _ _ _
      | exact walk_round.mono _ _ _ _
      | exact LeO.none _
      | refine LeO.ite ?_ ?_
      | refine LeO.bind ?_ (fun _ => ?_)

end Go.Proofs.Ytacklfnnpiobgaa.Q
