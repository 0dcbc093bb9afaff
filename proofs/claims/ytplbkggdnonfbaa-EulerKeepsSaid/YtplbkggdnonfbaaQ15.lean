import Derived.Test.YtplbkggdnonfbaaQ0
import Derived.Test.YtplbkggdnonfbaaQ14
namespace Go.Proofs.Ytplbkggdnonfbaa.Q
open Go.RowKit Go.Proofs.YtplbkggdnonfbaaW.PrintWords Go.Proofs.YtplbkggdnonfbaaW.PrintLast Go.Proofs.YtplbkggdnonfbaaW.PrintMore
attribute [local go_sem] max2_int min2_int max_two min_two max_three min_three max_four min_four   -- for this text's walks alone
set_option linter.unusedVariables false
set_option linter.unusedSimpArgs false

/-! ### compassref03_Reverse: function 35 -/
def compassref03_Reverse.l0 : Nat → Int → Int → List (S45) → Int → List (S45) → Option (Int × (List (S45)))
  | 0, _, _, _, _, _ => none
  | k + 1, x4, x318000, x318001, x320000, x320001 => if x4 < (x318001.length : Int) then (if 0 ≤ x4 then (if x320001.length < 4398046511104 then (compassref03_Reverse.l0 k (wrap64 (x4 + 1)) x318000 x318001 x320000 (x320001 ++ [(⟨(rd_T45 x318001 x4).f1, (rd_T45 x318001 x4).f0, (rd_T45 x318001 x4).f2, (rd_T45 x318001 x4).f3⟩ : S45)])) else (none)) else (none)) else (some (x320000, x320001))
def compassref03_Reverse.f (k : Nat) (a0_0 : Int) (l0_1 : List (S45)) : Option (Int × (List (S45))) := compassref03_Reverse.l0 k 0 a0_0 l0_1 a0_0 ([] : List (S45))
theorem compassref03_Reverse.mono_l : ∀ k, (∀ y0 y1 y2 y3 y4, LeO (compassref03_Reverse.l0 k y0 y1 y2 y3 y4) (compassref03_Reverse.l0 (k + 1) y0 y1 y2 y3 y4))
  | 0 => fun _ _ _ _ _ r h => by simp [compassref03_Reverse.l0] at h
  | k + 1 => by
    have ih0 := compassref03_Reverse.mono_l k
    · intro y0 y1 y2 y3 y4
      unfold compassref03_Reverse.l0
      repeat' first
      | (with_reducible exact ih0 _ _ _ _ _)
      | (with_reducible exact LeO.refl _)
      | (with_reducible exact LeO.none _)
      | (with_reducible refine LeO.ite ?_ ?_)
      | (with_reducible refine LeO.bind ?_ (fun _ => ?_))
      | exact ih0 _ _ _ _ _
      | exact LeO.none _
      | refine LeO.ite ?_ ?_
      | refine LeO.bind ?_ (fun _ => ?_)
theorem compassref03_Reverse.mono : ∀ a0 a1 k, LeO (compassref03_Reverse.f k a0 a1) (compassref03_Reverse.f (k + 1) a0 a1) := by
  intro a0 a1 k
  have ih0 := compassref03_Reverse.mono_l k
  unfold compassref03_Reverse.f
  repeat' first
      | (with_reducible exact ih0 _ _ _ _ _)
      | (with_reducible exact LeO.refl _)
      | (with_reducible exact LeO.none _)
      | (with_reducible refine LeO.ite ?_ ?_)
      | (with_reducible refine LeO.bind ?_ (fun _ => ?_))
      | exact ih0 _ _ _ _ _
      | exact LeO.none _
      | refine LeO.ite ?_ ?_
      | refine LeO.bind ?_ (fun _ => ?_)

/-! ### compassref03_In: function 28 -/
def compassref03_In.f (k : Nat) (a0_0 : Int) (l0_1 : List (S45)) (a1 : Int) : Option (List Int) := (compassref03_Reverse.f k a0_0 l0_1).bind fun bt326 => ((compassref03_Out.f k bt326.1 bt326.2 a1).bind fun t330 => (some t330))
theorem compassref03_In.mono : ∀ a0 a1 a2 k, LeO (compassref03_In.f k a0 a1 a2) (compassref03_In.f (k + 1) a0 a1 a2) := by
  intro a0 a1 a2 k
  unfold compassref03_In.f
  repeat' first
      | (with_reducible exact compassref03_Out.mono _ _ _ _)
      | (with_reducible exact compassref03_Reverse.mono _ _ _)
      | (with_reducible exact LeO.refl _)
      | (with_reducible exact LeO.none _)
      | (with_reducible refine LeO.ite ?_ ?_)
      | (with_reducible refine LeO.bind ?_ (fun _ => ?_))
      | exact compassref03_Out.mono _ _ _ _
      | exact compassref03_Reverse.mono _ _ _
      | exact LeO.none _
      | refine LeO.ite ?_ ?_
      | refine LeO.bind ?_ (fun _ => ?_)

/-! ### compassref09_Degrees: function 16 -/
def compassref09_Degrees.f (k : Nat) (a0_0 : Int) (l0_1 : List (S45)) (a1 : Int) : Option (Int × Int) := (compassref03_Out.f k a0_0 l0_1 a1).bind fun t334 => ((compassref03_In.f k a0_0 l0_1 a1).bind fun t337 => (some ((t334.length : Int), (t337.length : Int))))
theorem compassref09_Degrees.mono : ∀ a0 a1 a2 k, LeO (compassref09_Degrees.f k a0 a1 a2) (compassref09_Degrees.f (k + 1) a0 a1 a2) := by
  intro a0 a1 a2 k
  unfold compassref09_Degrees.f
  repeat' first
      | (with_reducible exact compassref03_In.mono _ _ _ _)
      | (with_reducible exact compassref03_Out.mono _ _ _ _)
      | (with_reducible exact LeO.refl _)
      | (with_reducible exact LeO.none _)
      | (with_reducible refine LeO.ite ?_ ?_)
      | (with_reducible refine LeO.bind ?_ (fun _ => ?_))
      | exact compassref03_In.mono _ _ _ _
      | exact compassref03_Out.mono _ _ _ _
      | exact LeO.none _
      | refine LeO.ite ?_ ?_
      | refine LeO.bind ?_ (fun _ => ?_)

end Go.Proofs.Ytplbkggdnonfbaa.Q
