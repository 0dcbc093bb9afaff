import Derived.Test.YtplbkggdnonfbaaQ0
import Derived.Test.YtplbkggdnonfbaaQ22
namespace Go.Proofs.Ytplbkggdnonfbaa.Q
open Go.RowKit Go.Proofs.YtplbkggdnonfbaaW.PrintWords Go.Proofs.YtplbkggdnonfbaaW.PrintLast Go.Proofs.YtplbkggdnonfbaaW.PrintMore
attribute [local go_sem] max2_int min2_int max_two min_two max_three min_three max_four min_four   -- for this text's walks alone
set_option linter.unusedVariables false
set_option linter.unusedSimpArgs false

/-! ### compassref09_Covers: function 11 -/
mutual
def compassref09_Covers.j0 : Nat → List (S65) → Bool → Bool → Int → List (S45) → Option (Bool)
  | 0, _, _, _, _, _ => none
  | k + 1, x2, x3, x35, x399000, x399001 => if x35 = true then (some false) else (compassref09_Covers.l0 k x2 x3 0 x399000 x399001)
def compassref09_Covers.l0 : Nat → List (S65) → Bool → Int → Int → List (S45) → Option (Bool)
  | 0, _, _, _, _, _ => none
  | k + 1, x2, x3, x11, x399000, x399001 => if x11 < (x399001.length : Int) then (compassref09_Covers.l1 k x2 x3 x11 0 0 x399000 x399001) else (some true)
def compassref09_Covers.l1 : Nat → List (S65) → Bool → Int → Int → Int → Int → List (S45) → Option (Bool)
  | 0, _, _, _, _, _, _, _ => none
  | k + 1, x2, x3, x11, x12, x13, x399000, x399001 => if x13 < (x2.length : Int) then (if 0 ≤ x13 then (if ((rd_T65 x2 x13).f0) = x11 then (if x3 = true then (if (rd_T65 x2 x13).f1 = true then (some false) else (compassref09_Covers.l1 k x2 x3 x11 (wrap64 (x12 + 1)) (wrap64 (x13 + 1)) x399000 x399001)) else (compassref09_Covers.l1 k x2 x3 x11 (wrap64 (x12 + 1)) (wrap64 (x13 + 1)) x399000 x399001)) else (if x3 = true then (if (rd_T65 x2 x13).f1 = true then (some false) else (compassref09_Covers.l1 k x2 x3 x11 x12 (wrap64 (x13 + 1)) x399000 x399001)) else (compassref09_Covers.l1 k x2 x3 x11 x12 (wrap64 (x13 + 1)) x399000 x399001))) else (none)) else (if x12 = 1 then (compassref09_Covers.l0 k x2 x3 (wrap64 (x11 + 1)) x399000 x399001) else (some false))
end
def compassref09_Covers.f (k : Nat) (a0_0 : Int) (l0_1 : List (S45)) (a1 : Int) (l2 : List (S65)) (a3 : Bool) : Option (Bool) := (compassref09_End.f k a0_0 l0_1 a1 l2).bind fun bt399 => (if bt399.2 = 0 then (if bt399.1 = a1 then (compassref09_Covers.j0 k l2 a3 ((l2.length : Int) != (l0_1.length : Int)) a0_0 l0_1) else (compassref09_Covers.j0 k l2 a3 true a0_0 l0_1)) else (compassref09_Covers.j0 k l2 a3 true a0_0 l0_1))
theorem compassref09_Covers.mono_l : ∀ k, (∀ y0 y1 y2 y3 y4, LeO (compassref09_Covers.j0 k y0 y1 y2 y3 y4) (compassref09_Covers.j0 (k + 1) y0 y1 y2 y3 y4)) ∧ (∀ y0 y1 y2 y3 y4, LeO (compassref09_Covers.l0 k y0 y1 y2 y3 y4) (compassref09_Covers.l0 (k + 1) y0 y1 y2 y3 y4)) ∧ (∀ y0 y1 y2 y3 y4 y5 y6, LeO (compassref09_Covers.l1 k y0 y1 y2 y3 y4 y5 y6) (compassref09_Covers.l1 (k + 1) y0 y1 y2 y3 y4 y5 y6))
  | 0 => ⟨fun _ _ _ _ _ r h => by simp [compassref09_Covers.j0] at h, fun _ _ _ _ _ r h => by simp [compassref09_Covers.l0] at h, fun _ _ _ _ _ _ _ r h => by simp [compassref09_Covers.l1] at h⟩
  | k + 1 => by
    obtain ⟨ih0, ih1, ih2⟩ := compassref09_Covers.mono_l k
    refine ⟨?_, ?_, ?_⟩
    · intro y0 y1 y2 y3 y4
      unfold compassref09_Covers.j0
      repeat' first
      | (with_reducible exact ih0 _ _ _ _ _)
      | (with_reducible exact ih1 _ _ _ _ _)
      | (with_reducible exact ih2 _ _ _ _ _ _ _)
      | (with_reducible exact compassref09_End.mono _ _ _ _ _)
      | (with_reducible exact LeO.refl _)
      | (with_reducible exact LeO.none _)
      | (with_reducible refine LeO.ite ?_ ?_)
      | (with_reducible refine LeO.bind ?_ (fun _ => ?_))
      | exact ih0 _ _ _ _ _
      | exact ih1 _ _ _ _ _
      | exact ih2 _ _ _ _ _ _ _
      | exact compassref09_End.mono _ _ _ _ _
      | exact LeO.none _
      | refine LeO.ite ?_ ?_
      | refine LeO.bind ?_ (fun _ => ?_)
    · intro y0 y1 y2 y3 y4
      unfold compassref09_Covers.l0
      repeat' first
      | (with_reducible exact ih0 _ _ _ _ _)
      | (with_reducible exact ih1 _ _ _ _ _)
      | (with_reducible exact ih2 _ _ _ _ _ _ _)
      | (with_reducible exact compassref09_End.mono _ _ _ _ _)
      | (with_reducible exact LeO.refl _)
      | (with_reducible exact LeO.none _)
      | (with_reducible refine LeO.ite ?_ ?_)
      | (with_reducible refine LeO.bind ?_ (fun _ => ?_))
      | exact ih0 _ _ _ _ _
      | exact ih1 _ _ _ _ _
      | exact ih2 _ _ _ _ _ _ _
      | exact compassref09_End.mono _ _ _ _ _
      | exact LeO.none _
      | refine LeO.ite ?_ ?_
      | refine LeO.bind ?_ (fun _ => ?_)
    · intro y0 y1 y2 y3 y4 y5 y6
      unfold compassref09_Covers.l1
      repeat' first
      | (with_reducible exact ih0 _ _ _ _ _)
      | (with_reducible exact ih1 _ _ _ _ _)
      | (with_reducible exact ih2 _ _ _ _ _ _ _)
      | (with_reducible exact compassref09_End.mono _ _ _ _ _)
      | (with_reducible exact LeO.refl _)
      | (with_reducible exact LeO.none _)
      | (with_reducible refine LeO.ite ?_ ?_)
      | (with_reducible refine LeO.bind ?_ (fun _ => ?_))
      | exact ih0 _ _ _ _ _
      | exact ih1 _ _ _ _ _
      | exact ih2 _ _ _ _ _ _ _
      | exact compassref09_End.mono _ _ _ _ _
      | exact LeO.none _
      | refine LeO.ite ?_ ?_
      | refine LeO.bind ?_ (fun _ => ?_)
theorem compassref09_Covers.mono : ∀ a0 a1 a2 a3 a4 k, LeO (compassref09_Covers.f k a0 a1 a2 a3 a4) (compassref09_Covers.f (k + 1) a0 a1 a2 a3 a4) := by
  intro a0 a1 a2 a3 a4 k
  obtain ⟨ih0, ih1, ih2⟩ := compassref09_Covers.mono_l k
  unfold compassref09_Covers.f
  repeat' first
      | (with_reducible exact ih0 _ _ _ _ _)
      | (with_reducible exact ih1 _ _ _ _ _)
      | (with_reducible exact ih2 _ _ _ _ _ _ _)
      | (with_reducible exact compassref09_End.mono _ _ _ _ _)
      | (with_reducible exact LeO.refl _)
      | (with_reducible exact LeO.none _)
      | (with_reducible refine LeO.ite ?_ ?_)
      | (with_reducible refine LeO.bind ?_ (fun _ => ?_))
      | exact ih0 _ _ _ _ _
      | exact ih1 _ _ _ _ _
      | exact ih2 _ _ _ _ _ _ _
      | exact compassref09_End.mono _ _ _ _ _
      | exact LeO.none _
      | refine LeO.ite ?_ ?_
      | refine LeO.bind ?_ (fun _ => ?_)

end Go.Proofs.Ytplbkggdnonfbaa.Q
