import Derived.Test.YtplbkggdnonfbaaQ0
import Derived.Test.YtplbkggdnonfbaaQ21
namespace Go.Proofs.Ytplbkggdnonfbaa.Q
open Go.RowKit Go.Proofs.YtplbkggdnonfbaaW.PrintWords Go.Proofs.YtplbkggdnonfbaaW.PrintLast Go.Proofs.YtplbkggdnonfbaaW.PrintMore
attribute [local go_sem] max2_int min2_int max_two min_two max_three min_three max_four min_four   -- for this text's walks alone
set_option linter.unusedVariables false
set_option linter.unusedSimpArgs false

/-! ### compassref09_End: function 14 -/
mutual
def compassref09_End.l0 : Nat → List (S65) → Int → Int → Int → List (S45) → Option (Int × Int)
  | 0, _, _, _, _, _ => none
  | k + 1, x2, x9, x10, x391000, x391001 => if x10 < (x2.length : Int) then (if 0 ≤ x10 then (if ((rd_T65 x2 x10).f0) < 0 then (compassref09_End.j1 k x2 x9 x10 ((rd_T65 x2 x10).f0) true x391000 x391001) else (compassref09_End.j1 k x2 x9 x10 ((rd_T65 x2 x10).f0) (decide (((rd_T65 x2 x10).f0) ≥ (x391001.length : Int))) x391000 x391001)) else (none)) else (some (x9, 0))
def compassref09_End.j1 : Nat → List (S65) → Int → Int → Int → Bool → Int → List (S45) → Option (Int × Int)
  | 0, _, _, _, _, _, _, _ => none
  | k + 1, x2, x9, x10, x11, x38, x391000, x391001 => if x38 = true then (some (0, 32)) else (if 0 ≤ x10 then (if x10 < (x2.length : Int) then (if (rd_T65 x2 x10).f1 = true then (if 0 ≤ x11 then (if x11 < (x391001.length : Int) then (if ((rd_T45 x391001 x11).f1) = x9 then (compassref09_End.l0 k x2 ((rd_T45 x391001 x11).f0) (wrap64 (x10 + 1)) x391000 x391001) else (some (0, 91))) else (none)) else (none)) else (if 0 ≤ x11 then (if x11 < (x391001.length : Int) then (if ((rd_T45 x391001 x11).f0) = x9 then (compassref09_End.l0 k x2 ((rd_T45 x391001 x11).f1) (wrap64 (x10 + 1)) x391000 x391001) else (some (0, 91))) else (none)) else (none))) else (none)) else (none))
end
def compassref09_End.f (k : Nat) (a0_0 : Int) (l0_1 : List (S45)) (a1 : Int) (l2 : List (S65)) : Option (Int × Int) := (compassref04_Wrong.f k a0_0 l0_1 a1).bind fun t391 => (if t391 = 0 then (compassref09_End.l0 k l2 a1 0 a0_0 l0_1) else (some (0, t391)))
theorem compassref09_End.mono_l : ∀ k, (∀ y0 y1 y2 y3 y4, LeO (compassref09_End.l0 k y0 y1 y2 y3 y4) (compassref09_End.l0 (k + 1) y0 y1 y2 y3 y4)) ∧ (∀ y0 y1 y2 y3 y4 y5 y6, LeO (compassref09_End.j1 k y0 y1 y2 y3 y4 y5 y6) (compassref09_End.j1 (k + 1) y0 y1 y2 y3 y4 y5 y6))
  | 0 => ⟨fun _ _ _ _ _ r h => by simp [compassref09_End.l0] at h, fun _ _ _ _ _ _ _ r h => by simp [compassref09_End.j1] at h⟩
  | k + 1 => by
    obtain ⟨ih0, ih1⟩ := compassref09_End.mono_l k
    refine ⟨?_, ?_⟩
    · intro y0 y1 y2 y3 y4
      unfold compassref09_End.l0
      repeat' first
      | (with_reducible exact ih0 _ _ _ _ _)
      | (with_reducible exact ih1 _ _ _ _ _ _ _)
      | (with_reducible exact compassref04_Wrong.mono _ _ _ _)
      | (with_reducible exact LeO.refl _)
      | (with_reducible exact LeO.none _)
      | (with_reducible refine LeO.ite ?_ ?_)
      | (with_reducible refine LeO.bind ?_ (fun _ => ?_))
      | exact ih0 _ _ _ _ _
      | exact ih1 _ _ _ _ _ _ _
      | exact compassref04_Wrong.mono _ _ _ _
      | exact LeO.none _
      | refine LeO.ite ?_ ?_
      | refine LeO.bind ?_ (fun _ => ?_)
    · intro y0 y1 y2 y3 y4 y5 y6
      unfold compassref09_End.j1
      repeat' first
      | (with_reducible exact ih0 _ _ _ _ _)
      | (with_reducible exact ih1 _ _ _ _ _ _ _)
      | (with_reducible exact compassref04_Wrong.mono _ _ _ _)
      | (with_reducible exact LeO.refl _)
      | (with_reducible exact LeO.none _)
      | (with_reducible refine LeO.ite ?_ ?_)
      | (with_reducible refine LeO.bind ?_ (fun _ => ?_))
      | exact ih0 _ _ _ _ _
      | exact ih1 _ _ _ _ _ _ _
      | exact compassref04_Wrong.mono _ _ _ _
      | exact LeO.none _
      | refine LeO.ite ?_ ?_
      | refine LeO.bind ?_ (fun _ => ?_)
theorem compassref09_End.mono : ∀ a0 a1 a2 a3 k, LeO (compassref09_End.f k a0 a1 a2 a3) (compassref09_End.f (k + 1) a0 a1 a2 a3) := by
  intro a0 a1 a2 a3 k
  obtain ⟨ih0, ih1⟩ := compassref09_End.mono_l k
  unfold compassref09_End.f
  repeat' first
      | (with_reducible exact ih0 _ _ _ _ _)
      | (with_reducible exact ih1 _ _ _ _ _ _ _)
      | (with_reducible exact compassref04_Wrong.mono _ _ _ _)
      | (with_reducible exact LeO.refl _)
      | (with_reducible exact LeO.none _)
      | (with_reducible refine LeO.ite ?_ ?_)
      | (with_reducible refine LeO.bind ?_ (fun _ => ?_))
      | exact ih0 _ _ _ _ _
      | exact ih1 _ _ _ _ _ _ _
      | exact compassref04_Wrong.mono _ _ _ _
      | exact LeO.none _
      | refine LeO.ite ?_ ?_
      | refine LeO.bind ?_ (fun _ => ?_)

end Go.Proofs.Ytplbkggdnonfbaa.Q
