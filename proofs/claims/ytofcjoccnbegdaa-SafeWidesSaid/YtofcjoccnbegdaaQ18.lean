-- PRINTED by print.py (a twelfth state) out of the translation. Not trusted: Lean checks it.
import Derived.Test.YtofcjoccnbegdaaQ0
import Derived.Test.YtofcjoccnbegdaaQ2
import Derived.Test.YtofcjoccnbegdaaQ7
import Derived.Test.YtofcjoccnbegdaaQ8
import Derived.Test.YtofcjoccnbegdaaQ9
import Derived.Test.YtofcjoccnbegdaaQ13
import Derived.Test.YtofcjoccnbegdaaQ14
import Derived.Test.YtofcjoccnbegdaaQ16
import Derived.Test.YtofcjoccnbegdaaQ17
namespace Go.Proofs.Ytofcjoccnbegdaa.Q
open Go.RowKit Go.Proofs.YtofcjoccnbegdaaW.PrintWords Go.Proofs.YtofcjoccnbegdaaW.PrintLast Go.Proofs.YtofcjoccnbegdaaW.PrintMore
attribute [local go_sem] max2_int min2_int max_two min_two max_three min_three max_four min_four   -- for this text's walks alone
set_option linter.unusedVariables false
set_option linter.unusedSimpArgs false

attribute [local go_sem high] eqA50
/-! ### compasslaw01_SafeWides: function 7 -/
mutual
def compasslaw01_SafeWides.j0 : Nat → Int → Bool → Int → Int → Int → Int → Option (Bool)
  | 0, _, _, _, _, _, _ => none
  | k + 1, x2, x21, x390000, x390001, x391000, x391001 => if x21 = true then (some false) else ((safeint_Product.f x2 x390000).bind fun bt394 => ((compasslaw01_wide.f k bt394.1 bt394.2).bind fun bt397 => ((compassref01_Of.f k x2).bind fun bt401 => ((compassref01_Of.f k x390000).bind fun bt405 => ((compassref01_Times.f k bt401.1 bt401.2 bt405.1 bt405.2).bind fun bt409 => ((compassref01_Compare.f k bt397.1 bt397.2 bt409.1 bt409.2).bind fun t413 => (if t413 = 0 then ((safeint_Compare.f k x390000 x390001 x391000 x391001).bind fun t414 => ((compasslaw01_wide.f k x390000 x390001).bind fun bt415 => ((compasslaw01_wide.f k x391000 x391001).bind fun bt419 => ((compassref01_Compare.f k bt415.1 bt415.2 bt419.1 bt419.2).bind fun t423 => (if t414 = t423 then ((safeint_Compare.f k x390000 x390001 x390000 x390001).bind fun t424 => (compasslaw01_SafeWides.j1 k x2 (t424 != 0) x390000 x390001 x391000 x391001)) else (compasslaw01_SafeWides.j1 k x2 true x390000 x390001 x391000 x391001)))))) else (some false))))))))
def compasslaw01_SafeWides.j1 : Nat → Int → Bool → Int → Int → Int → Int → Option (Bool)
  | 0, _, _, _, _, _, _ => none
  | k + 1, x2, x50, x390000, x390001, x391000, x391001 => if x50 = true then (some false) else ((safeint_Narrow.f x390000 x390001).bind fun bt425 => ((compasslaw01_wide.f k x390000 x390001).bind fun bt427 => ((compassref01_Narrow.f k bt427.1 bt427.2).bind fun bt431 => (if bt425.1 = bt431.1 then (if bt425.2 = bt431.2 then ((safeint_Widen.f x2).bind fun bt433 => ((compasslaw01_wide.f k bt433.1 bt433.2).bind fun bt435 => ((compassref01_Of.f k x2).bind fun bt439 => ((compassref01_Compare.f k bt435.1 bt435.2 bt439.1 bt439.2).bind fun t443 => (compasslaw01_SafeWides.j2 k (t443 != 0) x390000 x390001 x391000 x391001))))) else (compasslaw01_SafeWides.j2 k true x390000 x390001 x391000 x391001)) else (compasslaw01_SafeWides.j2 k true x390000 x390001 x391000 x391001)))))
def compasslaw01_SafeWides.j2 : Nat → Bool → Int → Int → Int → Int → Option (Bool)
  | 0, _, _, _, _, _ => none
  | k + 1, x78, x390000, x390001, x391000, x391001 => if x78 = true then (some false) else ((safeint_Plus.f x390000 x390001 x391000 x391001).bind fun bt444 => ((compasslaw01_wide.f k x390000 x390001).bind fun bt448 => ((compasslaw01_wide.f k x391000 x391001).bind fun bt452 => ((compassref01_Plus.f k bt448.1 bt448.2 bt452.1 bt452.2).bind fun bt456 => ((compassref01_Fits.f k bt456.1 bt456.2).bind fun t461 => (if t461 = true then (if bt444.2.2 = 0 then ((compasslaw01_wide.f k bt444.1 bt444.2.1).bind fun bt462 => ((compassref01_Compare.f k bt462.1 bt462.2 bt456.1 bt456.2).bind fun t466 => (some (t466 == 0)))) else (some false)) else (if bt444.2.2 = 10 then (some (bt444.1 == 0 && (bt444.2.1 == 0))) else (some false))))))))
end
def compasslaw01_SafeWides.f (k : Nat) (a0_0 : Int) (a0_1 : Int) (a1_0 : Int) (a1_1 : Int) (a2 : Int) : Option (Bool) := (compasslaw01_awake.f).bind fun t391 => (if t391 = true then ((safeint_Product.f (-1) 1).bind fun bt392 => (compasslaw01_SafeWides.j0 k a2 (!(bt392.1 == (-1)) || (!(bt392.2 == 18446744073709551615))) a0_0 a0_1 a1_0 a1_1)) else (compasslaw01_SafeWides.j0 k a2 true a0_0 a0_1 a1_0 a1_1))
theorem compasslaw01_SafeWides.mono_l : ∀ k, (∀ y0 y1 y2 y3 y4 y5, LeO (compasslaw01_SafeWides.j0 k y0 y1 y2 y3 y4 y5) (compasslaw01_SafeWides.j0 (k + 1) y0 y1 y2 y3 y4 y5)) ∧ (∀ y0 y1 y2 y3 y4 y5, LeO (compasslaw01_SafeWides.j1 k y0 y1 y2 y3 y4 y5) (compasslaw01_SafeWides.j1 (k + 1) y0 y1 y2 y3 y4 y5)) ∧ (∀ y0 y1 y2 y3 y4, LeO (compasslaw01_SafeWides.j2 k y0 y1 y2 y3 y4) (compasslaw01_SafeWides.j2 (k + 1) y0 y1 y2 y3 y4))
  | 0 => ⟨fun _ _ _ _ _ _ r h => by simp [compasslaw01_SafeWides.j0] at h, fun _ _ _ _ _ _ r h => by simp [compasslaw01_SafeWides.j1] at h, fun _ _ _ _ _ r h => by simp [compasslaw01_SafeWides.j2] at h⟩
  | k + 1 => by
    obtain ⟨ih0, ih1, ih2⟩ := compasslaw01_SafeWides.mono_l k
    refine ⟨?_, ?_, ?_⟩
    · intro y0 y1 y2 y3 y4 y5
      unfold compasslaw01_SafeWides.j0
      repeat' first
      | (with_reducible exact ih0 _ _ _ _ _ _)
      | (with_reducible exact ih1 _ _ _ _ _ _)
      | (with_reducible exact ih2 _ _ _ _ _)
      | (with_reducible exact compasslaw01_wide.mono _ _ _)
      | (with_reducible exact compassref01_Compare.mono _ _ _ _ _)
      | (with_reducible exact compassref01_Fits.mono _ _ _)
      | (with_reducible exact compassref01_Narrow.mono _ _ _)
      | (with_reducible exact compassref01_Of.mono _ _)
      | (with_reducible exact compassref01_Plus.mono _ _ _ _ _)
      | (with_reducible exact compassref01_Times.mono _ _ _ _ _)
      | (with_reducible exact safeint_Compare.mono _ _ _ _ _)
      | (with_reducible exact LeO.refl _)
      | (with_reducible exact LeO.none _)
      | (with_reducible refine LeO.ite ?_ ?_)
      | (with_reducible refine LeO.bind ?_ (fun _ => ?_))
      | exact ih0 _ _ _ _ _ _
      | exact ih1 _ _ _ _ _ _
      | exact ih2 _ _ _ _ _
      | exact compasslaw01_wide.mono _ _ _
      | exact compassref01_Compare.mono _ _ _ _ _
      | exact compassref01_Fits.mono _ _ _
      | exact compassref01_Narrow.mono _ _ _
      | exact compassref01_Of.mono _ _
      | exact compassref01_Plus.mono _ _ _ _ _
      | exact compassref01_Times.mono _ _ _ _ _
      | exact safeint_Compare.mono _ _ _ _ _
      | exact LeO.none _
      | refine LeO.ite ?_ ?_
      | refine LeO.bind ?_ (fun _ => ?_)
    · intro y0 y1 y2 y3 y4 y5
      unfold compasslaw01_SafeWides.j1
      repeat' first
      | (with_reducible exact ih0 _ _ _ _ _ _)
      | (with_reducible exact ih1 _ _ _ _ _ _)
      | (with_reducible exact ih2 _ _ _ _ _)
      | (with_reducible exact compasslaw01_wide.mono _ _ _)
      | (with_reducible exact compassref01_Compare.mono _ _ _ _ _)
      | (with_reducible exact compassref01_Fits.mono _ _ _)
      | (with_reducible exact compassref01_Narrow.mono _ _ _)
      | (with_reducible exact compassref01_Of.mono _ _)
      | (with_reducible exact compassref01_Plus.mono _ _ _ _ _)
      | (with_reducible exact compassref01_Times.mono _ _ _ _ _)
      | (with_reducible exact safeint_Compare.mono _ _ _ _ _)
      | (with_reducible exact LeO.refl _)
      | (with_reducible exact LeO.none _)
      | (with_reducible refine LeO.ite ?_ ?_)
      | (with_reducible refine LeO.bind ?_ (fun _ => ?_))
      | exact ih0 _ _ _ _ _ _
      | exact ih1 _ _ _ _ _ _
      | exact ih2 _ _ _ _ _
      | exact compasslaw01_wide.mono _ _ _
      | exact compassref01_Compare.mono _ _ _ _ _
      | exact compassref01_Fits.mono _ _ _
      | exact compassref01_Narrow.mono _ _ _
      | exact compassref01_Of.mono _ _
      | exact compassref01_Plus.mono _ _ _ _ _
      | exact compassref01_Times.mono _ _ _ _ _
      | exact safeint_Compare.mono _ _ _ _ _
      | exact LeO.none _
      | refine LeO.ite ?_ ?_
      | refine LeO.bind ?_ (fun _ => ?_)
    · intro y0 y1 y2 y3 y4
      unfold compasslaw01_SafeWides.j2
      repeat' first
      | (with_reducible exact ih0 _ _ _ _ _ _)
      | (with_reducible exact ih1 _ _ _ _ _ _)
      | (with_reducible exact ih2 _ _ _ _ _)
      | (with_reducible exact compasslaw01_wide.mono _ _ _)
      | (with_reducible exact compassref01_Compare.mono _ _ _ _ _)
      | (with_reducible exact compassref01_Fits.mono _ _ _)
      | (with_reducible exact compassref01_Narrow.mono _ _ _)
      | (with_reducible exact compassref01_Of.mono _ _)
      | (with_reducible exact compassref01_Plus.mono _ _ _ _ _)
      | (with_reducible exact compassref01_Times.mono _ _ _ _ _)
      | (with_reducible exact safeint_Compare.mono _ _ _ _ _)
      | (with_reducible exact LeO.refl _)
      | (with_reducible exact LeO.none _)
      | (with_reducible refine LeO.ite ?_ ?_)
      | (with_reducible refine LeO.bind ?_ (fun _ => ?_))
      | exact ih0 _ _ _ _ _ _
      | exact ih1 _ _ _ _ _ _
      | exact ih2 _ _ _ _ _
      | exact compasslaw01_wide.mono _ _ _
      | exact compassref01_Compare.mono _ _ _ _ _
      | exact compassref01_Fits.mono _ _ _
      | exact compassref01_Narrow.mono _ _ _
      | exact compassref01_Of.mono _ _
      | exact compassref01_Plus.mono _ _ _ _ _
      | exact compassref01_Times.mono _ _ _ _ _
      | exact safeint_Compare.mono _ _ _ _ _
      | exact LeO.none _
      | refine LeO.ite ?_ ?_
      | refine LeO.bind ?_ (fun _ => ?_)
theorem compasslaw01_SafeWides.mono : ∀ a0 a1 a2 a3 a4 k, LeO (compasslaw01_SafeWides.f k a0 a1 a2 a3 a4) (compasslaw01_SafeWides.f (k + 1) a0 a1 a2 a3 a4) := by
  intro a0 a1 a2 a3 a4 k
  obtain ⟨ih0, ih1, ih2⟩ := compasslaw01_SafeWides.mono_l k
  unfold compasslaw01_SafeWides.f
  repeat' first
      | (with_reducible exact ih0 _ _ _ _ _ _)
      | (with_reducible exact ih1 _ _ _ _ _ _)
      | (with_reducible exact ih2 _ _ _ _ _)
      | (with_reducible exact compasslaw01_wide.mono _ _ _)
      | (with_reducible exact compassref01_Compare.mono _ _ _ _ _)
      | (with_reducible exact compassref01_Fits.mono _ _ _)
      | (with_reducible exact compassref01_Narrow.mono _ _ _)
      | (with_reducible exact compassref01_Of.mono _ _)
      | (with_reducible exact compassref01_Plus.mono _ _ _ _ _)
      | (with_reducible exact compassref01_Times.mono _ _ _ _ _)
      | (with_reducible exact safeint_Compare.mono _ _ _ _ _)
      | (with_reducible exact LeO.refl _)
      | (with_reducible exact LeO.none _)
      | (with_reducible refine LeO.ite ?_ ?_)
      | (with_reducible refine LeO.bind ?_ (fun _ => ?_))
      | exact ih0 _ _ _ _ _ _
      | exact ih1 _ _ _ _ _ _
      | exact ih2 _ _ _ _ _
      | exact compasslaw01_wide.mono _ _ _
      | exact compassref01_Compare.mono _ _ _ _ _
      | exact compassref01_Fits.mono _ _ _
      | exact compassref01_Narrow.mono _ _ _
      | exact compassref01_Of.mono _ _
      | exact compassref01_Plus.mono _ _ _ _ _
      | exact compassref01_Times.mono _ _ _ _ _
      | exact safeint_Compare.mono _ _ _ _ _
      | exact LeO.none _
      | refine LeO.ite ?_ ?_
      | refine LeO.bind ?_ (fun _ => ?_)
def compasslaw01_SafeWides.T4 : Bool × List (List Nat × List Nat) := (true, [([], []), ([0], [0]), ([], []), ([2, 1], [2]), ([], []), ([4], [4]), ([5, 3], [5]), ([3, 6, 6], [3, 6]), ([1, 7, 7], [1, 7]), ([8], [8])])
def compasslaw01_SafeWides.B4 : List Nat := [0, 1, 0, 7, 0, 16, 63, 127, 255, 511]
theorem compasslaw01_SafeWides.tab4 : rtab .any (opsOf Try.f7 4) = compasslaw01_SafeWides.T4 := by kernel_rfl
theorem compasslaw01_SafeWides.bits4 : waitsOk compasslaw01_SafeWides.T4.2 compasslaw01_SafeWides.B4 = true := by kernel_rfl
def compasslaw01_SafeWides.T6 : Bool × List (List Nat × List Nat) := (true, [([], []), ([], []), ([0, 1], [0, 1]), ([], []), ([3, 2], [3]), ([], []), ([5, 4], [5]), ([4, 6, 6], [4, 6]), ([2, 7], [2, 7]), ([8, 7], [8]), ([9], [9]), ([9], [9]), ([10, 11, 9, 9], [9, 10, 11]), ([12, 9], [9, 12]), ([9, 13], [9, 13])])
def compasslaw01_SafeWides.B6 : List Nat := [0, 0, 3, 0, 15, 0, 63, 127, 255, 511, 1023, 1023, 4095, 8191, 16383]
theorem compasslaw01_SafeWides.tab6 : rtab .any (opsOf Try.f7 6) = compasslaw01_SafeWides.T6 := by kernel_rfl
theorem compasslaw01_SafeWides.bits6 : waitsOk compasslaw01_SafeWides.T6.2 compasslaw01_SafeWides.B6 = true := by kernel_rfl
def compasslaw01_SafeWides.T16 : Bool × List (List Nat × List Nat) := (true, [([], []), ([0], [0]), ([1], [1]), ([2], [2]), ([3, 2, 2], [2, 3]), ([2], [2]), ([4, 5, 4, 2], [2, 4, 5]), ([6, 2], [2, 6]), ([2, 7], [2, 7]), ([8, 6, 0, 1, 2, 3, 4, 5, 6, 7, 8], [8])])
def compasslaw01_SafeWides.B16 : List Nat := [0, 1, 3, 7, 15, 7, 63, 127, 255, 511]
theorem compasslaw01_SafeWides.tab16 : rtab .any (opsOf Try.f7 16) = compasslaw01_SafeWides.T16 := by kernel_rfl
theorem compasslaw01_SafeWides.bits16 : waitsOk compasslaw01_SafeWides.T16.2 compasslaw01_SafeWides.B16 = true := by kernel_rfl

end Go.Proofs.Ytofcjoccnbegdaa.Q
