-- PRINTED by print.py (a twelfth state) out of the translation. Not trusted: Lean checks it.
import Derived.Test.YtdkhaibibpekoaaDoorQ0
import Derived.Test.YtdkhaibibpekoaaDoorQ14
namespace Go.Proofs.YtdkhaibibpekoaaDoor.Q
open Go.RowKit Go.Proofs.YtdkhaibibpekoaaDoorW.PrintWords Go.Proofs.YtdkhaibibpekoaaDoorW.PrintLast Go.Proofs.YtdkhaibibpekoaaDoorW.PrintMore
attribute [local go_sem] max2_int min2_int max_two min_two max_three min_three max_four min_four   -- for this text's walks alone
set_option linter.unusedVariables false
set_option linter.unusedSimpArgs false

/-! ### compassref02_Near: function 31 -/
mutual
def compassref02_Near.j0 : Nat → Int → Int → Bool → Int → Bool → Option (Int)
  | 0, _, _, _, _, _ => none
  | k + 1, x1, x2, x3, x9, x18 => if x18 = true then (compassref02_Near.j1 k x1 x2 x3 9223372036854775808) else (compassref02_Near.j1 k x1 x2 x3 x9)
def compassref02_Near.j1 : Nat → Int → Int → Bool → Int → Option (Int)
  | 0, _, _, _, _ => none
  | k + 1, x1, x2, x3, x9 => if x1 = 0 then (compassref02_Near.j2 k x1 x2 x3 x9 true) else (compassref02_Near.j2 k x1 x2 x3 x9 (decide (x2 < (-1300))))
def compassref02_Near.j2 : Nat → Int → Int → Bool → Int → Bool → Option (Int)
  | 0, _, _, _, _, _ => none
  | k + 1, x1, x2, x3, x9, x24 => if x24 = true then (some x9) else (if x2 > 1100 then (some (IntKind.u64.wrap (x9 + 9218868437227405312))) else ((compassref02_length.f k x1).bind fun t255 => (if (wrap64 ((-1074) - x2)) > (wrap64 (t255 - 53)) then (compassref02_Near.j3 k x1 x2 x3 x9 (wrap64 ((-1074) - x2))) else (compassref02_Near.j3 k x1 x2 x3 x9 (wrap64 (t255 - 53))))))
def compassref02_Near.j3 : Nat → Int → Int → Bool → Int → Int → Option (Int)
  | 0, _, _, _, _, _ => none
  | k + 1, x1, x2, x3, x9, x10 => compassref02_Near.l0 k x1 x2 x3 x9 x10
def compassref02_Near.l0 : Nat → Int → Int → Bool → Int → Int → Option (Int)
  | 0, _, _, _, _, _ => none
  | k + 1, x1, x2, x3, x9, x10 => if x10 < 0 then (compassref02_Near.l0 k (IntKind.u64.wrap (x1 * 2)) (wrap64 (x2 - 1)) x3 x9 (wrap64 (x10 + 1))) else (compassref02_Near.l1 k x1 x2 x3 x9 x10 false 0)
def compassref02_Near.l1 : Nat → Int → Int → Bool → Int → Int → Bool → Int → Option (Int)
  | 0, _, _, _, _, _, _, _ => none
  | k + 1, x1, x2, x3, x9, x10, x11, x12 => if x12 < x10 then (if x11 = true then (compassref02_Near.l1 k (IntKind.u64.wrap (Int.tdiv x1 2)) (wrap64 (x2 + 1)) true x9 x10 ((Int.tmod x1 2) == 1) (wrap64 (x12 + 1))) else (compassref02_Near.l1 k (IntKind.u64.wrap (Int.tdiv x1 2)) (wrap64 (x2 + 1)) x3 x9 x10 ((Int.tmod x1 2) == 1) (wrap64 (x12 + 1)))) else (if x11 = true then (if x3 = true then (compassref02_Near.j6 k x1 x2 x9 true) else (compassref02_Near.j6 k x1 x2 x9 ((Int.tmod x1 2) == 1))) else (compassref02_Near.j6 k x1 x2 x9 false))
def compassref02_Near.j6 : Nat → Int → Int → Int → Bool → Option (Int)
  | 0, _, _, _, _ => none
  | k + 1, x1, x2, x9, x68 => if x68 = true then (compassref02_Near.j7 k (IntKind.u64.wrap (x1 + 1)) x2 x9) else (compassref02_Near.j7 k x1 x2 x9)
def compassref02_Near.j7 : Nat → Int → Int → Int → Option (Int)
  | 0, _, _, _ => none
  | k + 1, x1, x2, x9 => if x1 = 9007199254740992 then (compassref02_Near.j8 k (IntKind.u64.wrap (Int.tdiv x1 2)) (wrap64 (x2 + 1)) x9) else (compassref02_Near.j8 k x1 x2 x9)
def compassref02_Near.j8 : Nat → Int → Int → Int → Option (Int)
  | 0, _, _, _ => none
  | k + 1, x1, x2, x9 => if x1 < 4503599627370496 then (some (IntKind.u64.wrap (x9 + x1))) else (if (IntKind.u64.wrap (wrap64 (x2 + 1075))) ≥ 2047 then (some (IntKind.u64.wrap (x9 + 9218868437227405312))) else (some (IntKind.u64.wrap ((IntKind.u64.wrap (x9 + (IntKind.u64.wrap ((IntKind.u64.wrap (wrap64 (x2 + 1075))) * 4503599627370496)))) + (IntKind.u64.wrap (x1 - 4503599627370496))))))
end
def compassref02_Near.f (k : Nat) (a0 : Bool) (a1 : Int) (a2 : Int) (a3 : Bool) : Option (Int) := if a0 = true then (compassref02_Near.j0 k a1 a2 a3 0 (decide (a1 > 0))) else (compassref02_Near.j0 k a1 a2 a3 0 false)
theorem compassref02_Near.mono_l : ∀ k, (∀ y0 y1 y2 y3 y4, LeO (compassref02_Near.j0 k y0 y1 y2 y3 y4) (compassref02_Near.j0 (k + 1) y0 y1 y2 y3 y4)) ∧ (∀ y0 y1 y2 y3, LeO (compassref02_Near.j1 k y0 y1 y2 y3) (compassref02_Near.j1 (k + 1) y0 y1 y2 y3)) ∧ (∀ y0 y1 y2 y3 y4, LeO (compassref02_Near.j2 k y0 y1 y2 y3 y4) (compassref02_Near.j2 (k + 1) y0 y1 y2 y3 y4)) ∧ (∀ y0 y1 y2 y3 y4, LeO (compassref02_Near.j3 k y0 y1 y2 y3 y4) (compassref02_Near.j3 (k + 1) y0 y1 y2 y3 y4)) ∧ (∀ y0 y1 y2 y3 y4, LeO (compassref02_Near.l0 k y0 y1 y2 y3 y4) (compassref02_Near.l0 (k + 1) y0 y1 y2 y3 y4)) ∧ (∀ y0 y1 y2 y3 y4 y5 y6, LeO (compassref02_Near.l1 k y0 y1 y2 y3 y4 y5 y6) (compassref02_Near.l1 (k + 1) y0 y1 y2 y3 y4 y5 y6)) ∧ (∀ y0 y1 y2 y3, LeO (compassref02_Near.j6 k y0 y1 y2 y3) (compassref02_Near.j6 (k + 1) y0 y1 y2 y3)) ∧ (∀ y0 y1 y2, LeO (compassref02_Near.j7 k y0 y1 y2) (compassref02_Near.j7 (k + 1) y0 y1 y2)) ∧ (∀ y0 y1 y2, LeO (compassref02_Near.j8 k y0 y1 y2) (compassref02_Near.j8 (k + 1) y0 y1 y2))
  | 0 => ⟨fun _ _ _ _ _ r h => by simp [compassref02_Near.j0] at h, fun _ _ _ _ r h => by simp [compassref02_Near.j1] at h, fun _ _ _ _ _ r h => by simp [compassref02_Near.j2] at h, fun _ _ _ _ _ r h => by simp [compassref02_Near.j3] at h, fun _ _ _ _ _ r h => by simp [compassref02_Near.l0] at h, fun _ _ _ _ _ _ _ r h => by simp [compassref02_Near.l1] at h, fun _ _ _ _ r h => by simp [compassref02_Near.j6] at h, fun _ _ _ r h => by simp [compassref02_Near.j7] at h, fun _ _ _ r h => by simp [compassref02_Near.j8] at h⟩
  | k + 1 => by
    obtain ⟨ih0, ih1, ih2, ih3, ih4, ih5, ih6, ih7, ih8⟩ := compassref02_Near.mono_l k
    refine ⟨?_, ?_, ?_, ?_, ?_, ?_, ?_, ?_, ?_⟩
    · intro y0 y1 y2 y3 y4
      unfold compassref02_Near.j0
      repeat' first
      | (with_reducible exact ih0 _ _ _ _ _)
      | (with_reducible exact ih1 _ _ _ _)
      | (with_reducible exact ih2 _ _ _ _ _)
      | (with_reducible exact ih3 _ _ _ _ _)
      | (with_reducible exact ih4 _ _ _ _ _)
      | (with_reducible exact ih5 _ _ _ _ _ _ _)
      | (with_reducible exact ih6 _ _ _ _)
      | (with_reducible exact ih7 _ _ _)
      | (with_reducible exact ih8 _ _ _)
      | (with_reducible exact compassref02_length.mono _ _)
      | (with_reducible exact LeO.refl _)
      | (with_reducible exact LeO.none _)
      | (with_reducible refine LeO.ite ?_ ?_)
      | (with_reducible refine LeO.bind ?_ (fun _ => ?_))
      | exact ih0 _ _ _ _ _
      | exact ih1 _ _ _ _
      | exact ih2 _ _ _ _ _
      | exact ih3 _ _ _ _ _
      | exact ih4 _ _ _ _ _
      | exact ih5 _ _ _ _ _ _ _
      | exact ih6 _ _ _ _
      | exact ih7 _ _ _
      | exact ih8 _ _ _
      | exact compassref02_length.mono _ _
      | exact LeO.none _
      | refine LeO.ite ?_ ?_
      | refine LeO.bind ?_ (fun _ => ?_)
    · intro y0 y1 y2 y3
      unfold compassref02_Near.j1
      repeat' first
      | (with_reducible exact ih0 _ _ _ _ _)
      | (with_reducible exact ih1 _ _ _ _)
      | (with_reducible exact ih2 _ _ _ _ _)
      | (with_reducible exact ih3 _ _ _ _ _)
      | (with_reducible exact ih4 _ _ _ _ _)
      | (with_reducible exact ih5 _ _ _ _ _ _ _)
      | (with_reducible exact ih6 _ _ _ _)
      | (with_reducible exact ih7 _ _ _)
      | (with_reducible exact ih8 _ _ _)
      | (with_reducible exact compassref02_length.mono _ _)
      | (with_reducible exact LeO.refl _)
      | (with_reducible exact LeO.none _)
      | (with_reducible refine LeO.ite ?_ ?_)
      | (with_reducible refine LeO.bind ?_ (fun _ => ?_))
      | exact ih0 _ _ _ _ _
      | exact ih1 _ _ _ _
      | exact ih2 _ _ _ _ _
      | exact ih3 _ _ _ _ _
      | exact ih4 _ _ _ _ _
      | exact ih5 _ _ _ _ _ _ _
      | exact ih6 _ _ _ _
      | exact ih7 _ _ _
      | exact ih8 _ _ _
      | exact compassref02_length.mono _ _
      | exact LeO.none _
      | refine LeO.ite ?_ ?_
      | refine LeO.bind ?_ (fun _ => ?_)
    · intro y0 y1 y2 y3 y4
      unfold compassref02_Near.j2
      repeat' first
      | (with_reducible exact ih0 _ _ _ _ _)
      | (with_reducible exact ih1 _ _ _ _)
      | (with_reducible exact ih2 _ _ _ _ _)
      | (with_reducible exact ih3 _ _ _ _ _)
      | (with_reducible exact ih4 _ _ _ _ _)
      | (with_reducible exact ih5 _ _ _ _ _ _ _)
      | (with_reducible exact ih6 _ _ _ _)
      | (with_reducible exact ih7 _ _ _)
      | (with_reducible exact ih8 _ _ _)
      | (with_reducible exact compassref02_length.mono _ _)
      | (with_reducible exact LeO.refl _)
      | (with_reducible exact LeO.none _)
      | (with_reducible refine LeO.ite ?_ ?_)
      | (with_reducible refine LeO.bind ?_ (fun _ => ?_))
      | exact ih0 _ _ _ _ _
      | exact ih1 _ _ _ _
      | exact ih2 _ _ _ _ _
      | exact ih3 _ _ _ _ _
      | exact ih4 _ _ _ _ _
      | exact ih5 _ _ _ _ _ _ _
      | exact ih6 _ _ _ _
      | exact ih7 _ _ _
      | exact ih8 _ _ _
      | exact compassref02_length.mono _ _
      | exact LeO.none _
      | refine LeO.ite ?_ ?_
      | refine LeO.bind ?_ (fun _ => ?_)
    · intro y0 y1 y2 y3 y4
      unfold compassref02_Near.j3
      repeat' first
      | (with_reducible exact ih0 _ _ _ _ _)
      | (with_reducible exact ih1 _ _ _ _)
      | (with_reducible exact ih2 _ _ _ _ _)
      | (with_reducible exact ih3 _ _ _ _ _)
      | (with_reducible exact ih4 _ _ _ _ _)
      | (with_reducible exact ih5 _ _ _ _ _ _ _)
      | (with_reducible exact ih6 _ _ _ _)
      | (with_reducible exact ih7 _ _ _)
      | (with_reducible exact ih8 _ _ _)
      | (with_reducible exact compassref02_length.mono _ _)
      | (with_reducible exact LeO.refl _)
      | (with_reducible exact LeO.none _)
      | (with_reducible refine LeO.ite ?_ ?_)
      | (with_reducible refine LeO.bind ?_ (fun _ => ?_))
      | exact ih0 _ _ _ _ _
      | exact ih1 _ _ _ _
      | exact ih2 _ _ _ _ _
      | exact ih3 _ _ _ _ _
      | exact ih4 _ _ _ _ _
      | exact ih5 _ _ _ _ _ _ _
      | exact ih6 _ _ _ _
      | exact ih7 _ _ _
      | exact ih8 _ _ _
      | exact compassref02_length.mono _ _
      | exact LeO.none _
      | refine LeO.ite ?_ ?_
      | refine LeO.bind ?_ (fun _ => ?_)
    · intro y0 y1 y2 y3 y4
      unfold compassref02_Near.l0
      repeat' first
      | (with_reducible exact ih0 _ _ _ _ _)
      | (with_reducible exact ih1 _ _ _ _)
      | (with_reducible exact ih2 _ _ _ _ _)
      | (with_reducible exact ih3 _ _ _ _ _)
      | (with_reducible exact ih4 _ _ _ _ _)
      | (with_reducible exact ih5 _ _ _ _ _ _ _)
      | (with_reducible exact ih6 _ _ _ _)
      | (with_reducible exact ih7 _ _ _)
      | (with_reducible exact ih8 _ _ _)
      | (with_reducible exact compassref02_length.mono _ _)
      | (with_reducible exact LeO.refl _)
      | (with_reducible exact LeO.none _)
      | (with_reducible refine LeO.ite ?_ ?_)
      | (with_reducible refine LeO.bind ?_ (fun _ => ?_))
      | exact ih0 _ _ _ _ _
      | exact ih1 _ _ _ _
      | exact ih2 _ _ _ _ _
      | exact ih3 _ _ _ _ _
      | exact ih4 _ _ _ _ _
      | exact ih5 _ _ _ _ _ _ _
      | exact ih6 _ _ _ _
      | exact ih7 _ _ _
      | exact ih8 _ _ _
      | exact compassref02_length.mono _ _
      | exact LeO.none _
      | refine LeO.ite ?_ ?_
      | refine LeO.bind ?_ (fun _ => ?_)
    · intro y0 y1 y2 y3 y4 y5 y6
      unfold compassref02_Near.l1
      repeat' first
      | (with_reducible exact ih0 _ _ _ _ _)
      | (with_reducible exact ih1 _ _ _ _)
      | (with_reducible exact ih2 _ _ _ _ _)
      | (with_reducible exact ih3 _ _ _ _ _)
      | (with_reducible exact ih4 _ _ _ _ _)
      | (with_reducible exact ih5 _ _ _ _ _ _ _)
      | (with_reducible exact ih6 _ _ _ _)
      | (with_reducible exact ih7 _ _ _)
      | (with_reducible exact ih8 _ _ _)
      | (with_reducible exact compassref02_length.mono _ _)
      | (with_reducible exact LeO.refl _)
      | (with_reducible exact LeO.none _)
      | (with_reducible refine LeO.ite ?_ ?_)
      | (with_reducible refine LeO.bind ?_ (fun _ => ?_))
      | exact ih0 _ _ _ _ _
      | exact ih1 _ _ _ _
      | exact ih2 _ _ _ _ _
      | exact ih3 _ _ _ _ _
      | exact ih4 _ _ _ _ _
      | exact ih5 _ _ _ _ _ _ _
      | exact ih6 _ _ _ _
      | exact ih7 _ _ _
      | exact ih8 _ _ _
      | exact compassref02_length.mono _ _
      | exact LeO.none _
      | refine LeO.ite ?_ ?_
      | refine LeO.bind ?_ (fun _ => ?_)
    · intro y0 y1 y2 y3
      unfold compassref02_Near.j6
      repeat' first
      | (with_reducible exact ih0 _ _ _ _ _)
      | (with_reducible exact ih1 _ _ _ _)
      | (with_reducible exact ih2 _ _ _ _ _)
      | (with_reducible exact ih3 _ _ _ _ _)
      | (with_reducible exact ih4 _ _ _ _ _)
      | (with_reducible exact ih5 _ _ _ _ _ _ _)
      | (with_reducible exact ih6 _ _ _ _)
      | (with_reducible exact ih7 _ _ _)
      | (with_reducible exact ih8 _ _ _)
      | (with_reducible exact compassref02_length.mono _ _)
      | (with_reducible exact LeO.refl _)
      | (with_reducible exact LeO.none _)
      | (with_reducible refine LeO.ite ?_ ?_)
      | (with_reducible refine LeO.bind ?_ (fun _ => ?_))
      | exact ih0 _ _ _ _ _
      | exact ih1 _ _ _ _
      | exact ih2 _ _ _ _ _
      | exact ih3 _ _ _ _ _
      | exact ih4 _ _ _ _ _
      | exact ih5 _ _ _ _ _ _ _
      | exact ih6 _ _ _ _
      | exact ih7 _ _ _
      | exact ih8 _ _ _
      | exact compassref02_length.mono _ _
      | exact LeO.none _
      | refine LeO.ite ?_ ?_
      | refine LeO.bind ?_ (fun _ => ?_)
    · intro y0 y1 y2
      unfold compassref02_Near.j7
      repeat' first
      | (with_reducible exact ih0 _ _ _ _ _)
      | (with_reducible exact ih1 _ _ _ _)
      | (with_reducible exact ih2 _ _ _ _ _)
      | (with_reducible exact ih3 _ _ _ _ _)
      | (with_reducible exact ih4 _ _ _ _ _)
      | (with_reducible exact ih5 _ _ _ _ _ _ _)
      | (with_reducible exact ih6 _ _ _ _)
      | (with_reducible exact ih7 _ _ _)
      | (with_reducible exact ih8 _ _ _)
      | (with_reducible exact compassref02_length.mono _ _)
      | (with_reducible exact LeO.refl _)
      | (with_reducible exact LeO.none _)
      | (with_reducible refine LeO.ite ?_ ?_)
      | (with_reducible refine LeO.bind ?_ (fun _ => ?_))
      | exact ih0 _ _ _ _ _
      | exact ih1 _ _ _ _
      | exact ih2 _ _ _ _ _
      | exact ih3 _ _ _ _ _
      | exact ih4 _ _ _ _ _
      | exact ih5 _ _ _ _ _ _ _
      | exact ih6 _ _ _ _
      | exact ih7 _ _ _
      | exact ih8 _ _ _
      | exact compassref02_length.mono _ _
      | exact LeO.none _
      | refine LeO.ite ?_ ?_
      | refine LeO.bind ?_ (fun _ => ?_)
    · intro y0 y1 y2
      unfold compassref02_Near.j8
      repeat' first
      | (with_reducible exact ih0 _ _ _ _ _)
      | (with_reducible exact ih1 _ _ _ _)
      | (with_reducible exact ih2 _ _ _ _ _)
      | (with_reducible exact ih3 _ _ _ _ _)
      | (with_reducible exact ih4 _ _ _ _ _)
      | (with_reducible exact ih5 _ _ _ _ _ _ _)
      | (with_reducible exact ih6 _ _ _ _)
      | (with_reducible exact ih7 _ _ _)
      | (with_reducible exact ih8 _ _ _)
      | (with_reducible exact compassref02_length.mono _ _)
      | (with_reducible exact LeO.refl _)
      | (with_reducible exact LeO.none _)
      | (with_reducible refine LeO.ite ?_ ?_)
      | (with_reducible refine LeO.bind ?_ (fun _ => ?_))
      | exact ih0 _ _ _ _ _
      | exact ih1 _ _ _ _
      | exact ih2 _ _ _ _ _
      | exact ih3 _ _ _ _ _
      | exact ih4 _ _ _ _ _
      | exact ih5 _ _ _ _ _ _ _
      | exact ih6 _ _ _ _
      | exact ih7 _ _ _
      | exact ih8 _ _ _
      | exact compassref02_length.mono _ _
      | exact LeO.none _
      | refine LeO.ite ?_ ?_
      | refine LeO.bind ?_ (fun _ => ?_)
theorem compassref02_Near.mono : ∀ a0 a1 a2 a3 k, LeO (compassref02_Near.f k a0 a1 a2 a3) (compassref02_Near.f (k + 1) a0 a1 a2 a3) := by
  intro a0 a1 a2 a3 k
  obtain ⟨ih0, ih1, ih2, ih3, ih4, ih5, ih6, ih7, ih8⟩ := compassref02_Near.mono_l k
  unfold compassref02_Near.f
  repeat' first
      | (with_reducible exact ih0 _ _ _ _ _)
      | (with_reducible exact ih1 _ _ _ _)
      | (with_reducible exact ih2 _ _ _ _ _)
      | (with_reducible exact ih3 _ _ _ _ _)
      | (with_reducible exact ih4 _ _ _ _ _)
      | (with_reducible exact ih5 _ _ _ _ _ _ _)
      | (with_reducible exact ih6 _ _ _ _)
      | (with_reducible exact ih7 _ _ _)
      | (with_reducible exact ih8 _ _ _)
      | (with_reducible exact compassref02_length.mono _ _)
      | (with_reducible exact LeO.refl _)
      | (with_reducible exact LeO.none _)
      | (with_reducible refine LeO.ite ?_ ?_)
      | (with_reducible refine LeO.bind ?_ (fun _ => ?_))
      | exact ih0 _ _ _ _ _
      | exact ih1 _ _ _ _
      | exact ih2 _ _ _ _ _
      | exact ih3 _ _ _ _ _
      | exact ih4 _ _ _ _ _
      | exact ih5 _ _ _ _ _ _ _
      | exact ih6 _ _ _ _
      | exact ih7 _ _ _
      | exact ih8 _ _ _
      | exact compassref02_length.mono _ _
      | exact LeO.none _
      | refine LeO.ite ?_ ?_
      | refine LeO.bind ?_ (fun _ => ?_)
set_option maxHeartbeats 8000000 in
set_option maxRecDepth 100000 in
theorem compassref02_Near.calls (k : Nat) (a0 : Bool) (a1 : Int) (a2 : Int) (a3 : Bool) (r : Int) (w : World) (h : compassref02_Near.f k a0 a1 a2 a3 = some r) :
    Calls Tryd.prog 31 #[.bool a0, .int .u64 a1, .int .i64 a2, .bool a3] w fun e w' => e = .returned (.int .u64 r) ∧ Drawn0 w w' := by
  have H : (if a0 = true then (compassref02_Near.j0 k a1 a2 a3 0 (decide (a1 > 0))) else (compassref02_Near.j0 k a1 a2 a3 0 false)) = some r := h
  clear h
  have HC5 := Aside0.mk H
  clear H
  go_enter Tryd.func31, Tryd.ntmps31
  go_upto_region 2 with (fail)
  go_cut [18] (fun v18 wc => ∃ (kq : Nat) (x18_4 : Bool), v18 = .bool x18_4 ∧ Aside0 (compassref02_Near.j0 kq a1 a2 a3 0 x18_4 = some r) ∧ Aside0 (kq ≤ k) ∧ Drawn0 w wc)
  case first =>
    have H := HC5.out
    clear HC5
    by_cases c6 : a0 = true
    · subst c6
      have H1 : (compassref02_Near.j0 k a1 a2 a3 0 (decide (a1 > 0))) = some r := by rw [if_pos rfl] at H; exact H
      clear H
      have H := H1
      clear H1
      have H' := Aside0.mk H
      clear H
      go_wp2
      go_meet
      case rel => exact ⟨_, (decide (a1 > 0)), (by first | rfl | (simp; done) | (simp [*]; done)), H', ⟨by first | omega | exact Nat.le_refl _⟩, by repeat (first | exact Drawn0.refl _ | apply Drawn0.step)⟩
    · replace c6 := Bool.eq_false_iff.mpr c6
      subst c6
      have H1 : (compassref02_Near.j0 k a1 a2 a3 0 false) = some r := by rw [if_neg (show ¬ (false = true) by decide)] at H; exact H
      clear H
      have H := H1
      clear H1
      have H' := Aside0.mk H
      clear H
      go_wp2
      go_meet
      case rel => exact ⟨_, (false), (by first | rfl | (simp; done) | (simp [*]; done)), H', ⟨by first | omega | exact Nat.le_refl _⟩, by repeat (first | exact Drawn0.refl _ | apply Drawn0.step)⟩
  case rest =>
    clear HC5
    try clear p2
    try clear c3
    try clear c6
    obtain ⟨kq, x18_4, rfl, HA, HJ4, ⟨mc4, rfl⟩⟩ := hcut
    cases kq with
    | zero => exact absurd HA.out (by simp [compassref02_Near.j0])
    | succ kj4 =>
      have H := HA.out
      clear HA
      simp only [compassref02_Near.j0] at H
      have HC7 := Aside0.mk H
      clear H
      go_upto_if 18 with (fail)
      go_cut [9] (fun v9 wc => ∃ (kq : Nat) (x9_6 : Int), v9 = .int .u64 x9_6 ∧ Aside0 (compassref02_Near.j1 kq a1 a2 a3 x9_6 = some r) ∧ Aside0 (kq ≤ kj4) ∧ Drawn0 w wc)
      case first =>
        have H := HC7.out
        clear HC7
        by_cases c8 : x18_4 = true
        · subst c8
          have H1 : (compassref02_Near.j1 kj4 a1 a2 a3 9223372036854775808) = some r := by rw [if_pos rfl] at H; exact H
          clear H
          have H := H1
          clear H1
          have H' := Aside0.mk H
          clear H
          go_wp2
          go_meet
          case rel => exact ⟨_, (9223372036854775808), (by first | rfl | (simp; done) | (simp [*]; done)), H', ⟨by have := HJ4.out; first | omega | exact Nat.le_refl _⟩, by repeat (first | exact Drawn0.refl _ | apply Drawn0.step)⟩
        · replace c8 := Bool.eq_false_iff.mpr c8
          subst c8
          have H1 : (compassref02_Near.j1 kj4 a1 a2 a3 0) = some r := by rw [if_neg (show ¬ (false = true) by decide)] at H; exact H
          clear H
          have H := H1
          clear H1
          have H' := Aside0.mk H
          clear H
          go_wp2
          go_meet
          case rel => exact ⟨_, (0), (by first | rfl | (simp; done) | (simp [*]; done)), H', ⟨by have := HJ4.out; first | omega | exact Nat.le_refl _⟩, by repeat (first | exact Drawn0.refl _ | apply Drawn0.step)⟩
      case rest =>
        clear HC7
        try clear p2
        try clear c3
        try clear c4
        try clear c6
        try clear c8
        try clear p2
        obtain ⟨kq, x9_6, rfl, HA, HJ6, ⟨mc6, rfl⟩⟩ := hcut
        cases kq with
        | zero => exact absurd HA.out (by simp [compassref02_Near.j1])
        | succ kj6 =>
          have H := HA.out
          clear HA
          simp only [compassref02_Near.j1] at H
          have HC9 := Aside0.mk H
          clear H
          go_upto_region 4 with (fail)
          go_cut [24] (fun v24 wc => ∃ (kq : Nat) (x24_8 : Bool), v24 = .bool x24_8 ∧ Aside0 (compassref02_Near.j2 kq a1 a2 a3 x9_6 x24_8 = some r) ∧ Aside0 (kq ≤ kj6) ∧ Drawn0 w wc)
          case first =>
            have H := HC9.out
            clear HC9
            by_cases c10 : a1 = 0
            · rw [if_pos c10] at H
              have c10b0 : (a1 == 0) = true := beq_iff_eq.mpr c10
              have c10b1 : (a1 != 0) = false := bne_eq_false_iff_eq.mpr c10
              clear c10
              (first | rw [c10b0] | (simp only [i64_w, i32_w]; rw [c10b0]) | skip)
              have H' := Aside0.mk H
              clear H
              go_wp2
              go_meet
              case rel => exact ⟨_, (true), (by first | rfl | (simp; done) | (simp [*]; done)), H', ⟨by have := HJ4.out; have := HJ6.out; first | omega | exact Nat.le_refl _⟩, by repeat (first | exact Drawn0.refl _ | apply Drawn0.step)⟩
            · rw [if_neg c10] at H
              have c10b0 : (a1 == 0) = false := beq_eq_false_iff_ne.mpr c10
              have c10b1 : (a1 != 0) = true := bne_iff_ne.mpr c10
              (first | rw [c10b0] | (simp only [i64_w, i32_w]; rw [c10b0]) | skip)
              have H' := Aside0.mk H
              clear H
              go_wp2
              go_meet
              case rel => exact ⟨_, (decide (a2 < (-1300))), (by first | rfl | (simp; done) | (simp [*]; done)), H', ⟨by have := HJ4.out; have := HJ6.out; first | omega | exact Nat.le_refl _⟩, by repeat (first | exact Drawn0.refl _ | apply Drawn0.step)⟩
          case rest =>
            clear HC9
            try clear c1
            try clear p2
            try clear c3
            try clear c4
            try clear c6
            try clear c8
            try clear c10
            try clear c10b0
            try clear c10b1
            try clear p2
            obtain ⟨kq, x24_8, rfl, HA, HJ8, ⟨mc8, rfl⟩⟩ := hcut
            cases kq with
            | zero => exact absurd HA.out (by simp [compassref02_Near.j2])
            | succ kj8 =>
              have H := HA.out
              clear HA
              simp only [compassref02_Near.j2] at H
              by_cases c11 : x24_8 = true
              · subst c11
                have H1 : (some x9_6) = some r := by rw [if_pos rfl] at H; exact H
                clear H
                have H := H1
                clear H1
                obtain rfl := Option.some.inj H
                go_wp2
                go_ret
                exact ⟨by first | rfl | (simp; done) | (simp [*]; done), by repeat (first | exact Drawn0.refl _ | apply Drawn0.step)⟩
              · replace c11 := Bool.eq_false_iff.mpr c11
                subst c11
                have H1 : (if a2 > 1100 then (some (IntKind.u64.wrap (x9_6 + 9218868437227405312))) else ((compassref02_length.f kj8 a1).bind fun t255 => (if (wrap64 ((-1074) - a2)) > (wrap64 (t255 - 53)) then (compassref02_Near.j3 kj8 a1 a2 a3 x9_6 (wrap64 ((-1074) - a2))) else (compassref02_Near.j3 kj8 a1 a2 a3 x9_6 (wrap64 (t255 - 53)))))) = some r := by rw [if_neg (show ¬ (false = true) by decide)] at H; exact H
                clear H
                have H := H1
                clear H1
                by_cases c12 : a2 > 1100
                · rw [if_pos c12] at H
                  have c12b0 : decide (1100 < a2) = true := decide_eq_true c12
                  clear c12
                  obtain rfl := Option.some.inj H
                  go_wp2
                  go_ret
                  exact ⟨by first | rfl | (simp; done) | (simp [*]; done), by repeat (first | exact Drawn0.refl _ | apply Drawn0.step)⟩
                · rw [if_neg c12] at H
                  have c12b0 : decide (1100 < a2) = false := decide_eq_false c12
                  clear c12
                  replace H := Option.bind_eq_some_iff.mp H
                  obtain ⟨t255, A130, H⟩ := H
                  replace H : (if (wrap64 ((-1074) - a2)) > (wrap64 (t255 - 53)) then (compassref02_Near.j3 kj8 a1 a2 a3 x9_6 (wrap64 ((-1074) - a2))) else (compassref02_Near.j3 kj8 a1 a2 a3 x9_6 (wrap64 (t255 - 53)))) = some r := H
                  have A13 := Aside0.mk A130
                  clear A130
                  have HC14 := Aside0.mk H
                  clear H
                  go_upto_if 36 with (first | ((with_reducible refine gate_callee (f := 39) rfl ?_); refine goesL_ (some 31) rfl rfl Tryd.func39 (by kernel_rfl) rfl #[.int .u64 a1] rfl (by (try simp only [List.map_toArray, List.map_cons, List.map_nil]); first | done | rfl | (simp only [List.length_drop, List.length_take]; rfl)) ?_; (with_reducible refine (compassref02_length.calls kj8 a1 t255 _ A13.out).mono ?_); rintro e w' ⟨rfl, ⟨nd, rfl⟩⟩; refine ⟨_, rfl, ?_⟩))
                  (try simp only [Act.put, List.setIfInBounds_toArray, List.set_cons_zero, List.set_cons_succ])
                  go_cut [10] (fun v10 wc => ∃ (kq : Nat) (x10_13 : Int), v10 = .int .i64 x10_13 ∧ Aside0 (compassref02_Near.j3 kq a1 a2 a3 x9_6 x10_13 = some r) ∧ Aside0 (kq ≤ kj8) ∧ Drawn0 w wc)
                  case first =>
                    have H := HC14.out
                    clear HC14
                    by_cases c15 : (wrap64 ((-1074) - a2)) > (wrap64 (t255 - 53))
                    · rw [if_pos c15] at H
                      have c15b0 : decide ((wrap64 (t255 - 53)) < (wrap64 ((-1074) - a2))) = true := decide_eq_true c15
                      clear c15
                      (first | rw [c15b0] | (simp only [i64_w, i32_w]; rw [c15b0]) | skip)
                      have H' := Aside0.mk H
                      clear H
                      go_wp2
                      go_meet
                      case rel => exact ⟨_, (wrap64 ((-1074) - a2)), (by first | rfl | (simp; done) | (simp [*]; done)), H', ⟨by have := HJ4.out; have := HJ6.out; have := HJ8.out; first | omega | exact Nat.le_refl _⟩, by repeat (first | exact Drawn0.refl _ | apply Drawn0.step)⟩
                    · rw [if_neg c15] at H
                      have c15b0 : decide ((wrap64 (t255 - 53)) < (wrap64 ((-1074) - a2))) = false := decide_eq_false c15
                      clear c15
                      (first | rw [c15b0] | (simp only [i64_w, i32_w]; rw [c15b0]) | skip)
                      have H' := Aside0.mk H
                      clear H
                      go_wp2
                      go_meet
                      case rel => exact ⟨_, (wrap64 (t255 - 53)), (by first | rfl | (simp; done) | (simp [*]; done)), H', ⟨by have := HJ4.out; have := HJ6.out; have := HJ8.out; first | omega | exact Nat.le_refl _⟩, by repeat (first | exact Drawn0.refl _ | apply Drawn0.step)⟩
                  case rest =>
                    clear HC14
                    try clear c1
                    try clear p2
                    try clear c3
                    try clear c4
                    try clear c6
                    try clear p6
                    try clear c8
                    try clear c10
                    try clear c10b0
                    try clear c10b1
                    try clear c11
                    try clear c12
                    try clear c12b0
                    try clear c15
                    try clear c15b0
                    try clear p2
                    obtain ⟨kq, x10_13, rfl, HA, HJ13, ⟨mc13, rfl⟩⟩ := hcut
                    cases kq with
                    | zero => exact absurd HA.out (by simp [compassref02_Near.j3])
                    | succ kj13 =>
                      have H := HA.out
                      clear HA
                      simp only [compassref02_Near.j3] at H
                      have H' := Aside0.mk H
                      clear H
                      go_wp2
                      go_loopg [1, 2, 10] kj13 (fun kq v1 v2 v10 w' => ∃ (x1_5 : Int) (x2_5 : Int) (x10_5 : Int), v1 = .int .u64 x1_5 ∧ v2 = .int .i64 x2_5 ∧ v10 = .int .i64 x10_5 ∧ Aside0 (compassref02_Near.l0 kq x1_5 x2_5 a3 x9_6 x10_5 = some r) ∧ Aside0 (kq ≤ kj13) ∧ Drawn0 w w')
                      case atStart => exact ⟨(a1), (a2), (x10_13), (by first | rfl | (simp; done) | (simp [*]; done)), (by first | rfl | (simp; done) | (simp [*]; done)), (by first | rfl | (simp; done) | (simp [*]; done)), H', ⟨Nat.le_refl _⟩, by repeat (first | exact Drawn0.refl _ | apply Drawn0.step)⟩
                      case round =>
                        clear H'
                        try clear c1
                        try clear p2
                        try clear c3
                        try clear c4
                        try clear c6
                        try clear p6
                        try clear c8
                        try clear c10
                        try clear c10b0
                        try clear c10b1
                        try clear c11
                        try clear c12
                        try clear c12b0
                        try clear c13
                        try clear c15
                        try clear c15b0
                        try clear p2
                        try clear p6
                        obtain ⟨x1_5, x2_5, x10_5, rfl, rfl, rfl, HA, HK5, ⟨m5, rfl⟩⟩ := hrel
                        cases gk with
                        | zero => exact absurd HA.out (by simp [compassref02_Near.l0])
                        | succ k5 =>
                          have H := HA.out
                          clear HA
                          simp only [compassref02_Near.l0] at H
                          by_cases c16 : x10_5 < 0
                          · rw [if_pos c16] at H
                            have c16b0 : decide (x10_5 < 0) = true := decide_eq_true c16
                            clear c16
                            have H' := Aside0.mk H
                            clear H
                            go_wp2
                            go_roundg k5
                            case measure => have := HJ4.out; have := HJ6.out; have := HJ8.out; have := HJ13.out; have := HK5.out; omega
                            case rel => exact ⟨(IntKind.u64.wrap (x1_5 * 2)), (wrap64 (x2_5 - 1)), (wrap64 (x10_5 + 1)), (by first | rfl | (simp; done) | (simp [*]; done)), (by first | rfl | (simp; done) | (simp [*]; done)), (by first | rfl | (simp; done) | (simp [*]; done)), H', ⟨by have := HJ4.out; have := HJ6.out; have := HJ8.out; have := HJ13.out; have := HK5.out; omega⟩, by repeat (first | exact Drawn0.refl _ | apply Drawn0.step)⟩
                          · rw [if_neg c16] at H
                            have c16b0 : decide (x10_5 < 0) = false := decide_eq_false c16
                            clear c16
                            have H' := Aside0.mk H
                            clear H
                            go_wp2
                            go_loopg [1, 2, 3, 11, 12] k5 (fun kq v1 v2 v3 v11 v12 w' => ∃ (x1_6 : Int) (x2_6 : Int) (x3_6 : Bool) (x11_6 : Bool) (x12_6 : Int), v1 = .int .u64 x1_6 ∧ v2 = .int .i64 x2_6 ∧ v3 = .bool x3_6 ∧ v11 = .bool x11_6 ∧ v12 = .int .i64 x12_6 ∧ Aside0 (compassref02_Near.l1 kq x1_6 x2_6 x3_6 x9_6 x10_5 x11_6 x12_6 = some r) ∧ Aside0 (kq ≤ k5) ∧ Drawn0 w w')
                            case atStart => exact ⟨(x1_5), (x2_5), (a3), (false), (0), (by first | rfl | (simp; done) | (simp [*]; done)), (by first | rfl | (simp; done) | (simp [*]; done)), (by first | rfl | (simp; done) | (simp [*]; done)), (by first | rfl | (simp; done) | (simp [*]; done)), (by first | rfl | (simp; done) | (simp [*]; done)), H', ⟨Nat.le_refl _⟩, by repeat (first | exact Drawn0.refl _ | apply Drawn0.step)⟩
                            case round =>
                              clear H'
                              try clear c1
                              try clear p2
                              try clear c3
                              try clear c4
                              try clear c6
                              try clear p6
                              try clear c8
                              try clear c10
                              try clear c10b0
                              try clear c10b1
                              try clear c11
                              try clear c12
                              try clear c12b0
                              try clear c13
                              try clear c15
                              try clear c15b0
                              try clear c16
                              try clear c16b0
                              try clear p2
                              try clear p6
                              obtain ⟨x1_6, x2_6, x3_6, x11_6, x12_6, rfl, rfl, rfl, rfl, rfl, HA, HK6, ⟨m6, rfl⟩⟩ := hrel
                              cases gk with
                              | zero => exact absurd HA.out (by simp [compassref02_Near.l1])
                              | succ k6 =>
                                have H := HA.out
                                clear HA
                                simp only [compassref02_Near.l1] at H
                                by_cases c17 : x12_6 < x10_5
                                · rw [if_pos c17] at H
                                  have c17b0 : decide (x12_6 < x10_5) = true := decide_eq_true c17
                                  clear c17
                                  by_cases c18 : x11_6 = true
                                  · subst c18
                                    have H1 : (compassref02_Near.l1 k6 (IntKind.u64.wrap (Int.tdiv x1_6 2)) (wrap64 (x2_6 + 1)) true x9_6 x10_5 ((Int.tmod x1_6 2) == 1) (wrap64 (x12_6 + 1))) = some r := by rw [if_pos rfl] at H; exact H
                                    clear H
                                    have H := H1
                                    clear H1
                                    have H' := Aside0.mk H
                                    clear H
                                    go_wp2
                                    go_roundg k6
                                    case measure => have := HJ4.out; have := HJ6.out; have := HJ8.out; have := HJ13.out; have := HK5.out; have := HK6.out; omega
                                    case rel => exact ⟨(IntKind.u64.wrap (Int.tdiv x1_6 2)), (wrap64 (x2_6 + 1)), (true), (((Int.tmod x1_6 2) == 1)), (wrap64 (x12_6 + 1)), (by first | rfl | (simp; done) | (simp [*]; done)), (by first | rfl | (simp; done) | (simp [*]; done)), (by first | rfl | (simp; done) | (simp [*]; done)), (by first | rfl | (simp; done) | (simp [*]; done)), (by first | rfl | (simp; done) | (simp [*]; done)), H', ⟨by have := HJ4.out; have := HJ6.out; have := HJ8.out; have := HJ13.out; have := HK5.out; have := HK6.out; omega⟩, by repeat (first | exact Drawn0.refl _ | apply Drawn0.step)⟩
                                  · replace c18 := Bool.eq_false_iff.mpr c18
                                    subst c18
                                    have H1 : (compassref02_Near.l1 k6 (IntKind.u64.wrap (Int.tdiv x1_6 2)) (wrap64 (x2_6 + 1)) x3_6 x9_6 x10_5 ((Int.tmod x1_6 2) == 1) (wrap64 (x12_6 + 1))) = some r := by rw [if_neg (show ¬ (false = true) by decide)] at H; exact H
                                    clear H
                                    have H := H1
                                    clear H1
                                    have H' := Aside0.mk H
                                    clear H
                                    go_wp2
                                    go_roundg k6
                                    case measure => have := HJ4.out; have := HJ6.out; have := HJ8.out; have := HJ13.out; have := HK5.out; have := HK6.out; omega
                                    case rel => exact ⟨(IntKind.u64.wrap (Int.tdiv x1_6 2)), (wrap64 (x2_6 + 1)), (x3_6), (((Int.tmod x1_6 2) == 1)), (wrap64 (x12_6 + 1)), (by first | rfl | (simp; done) | (simp [*]; done)), (by first | rfl | (simp; done) | (simp [*]; done)), (by first | rfl | (simp; done) | (simp [*]; done)), (by first | rfl | (simp; done) | (simp [*]; done)), (by first | rfl | (simp; done) | (simp [*]; done)), H', ⟨by have := HJ4.out; have := HJ6.out; have := HJ8.out; have := HJ13.out; have := HK5.out; have := HK6.out; omega⟩, by repeat (first | exact Drawn0.refl _ | apply Drawn0.step)⟩
                                · rw [if_neg c17] at H
                                  have c17b0 : decide (x12_6 < x10_5) = false := decide_eq_false c17
                                  clear c17
                                  have HC19 := Aside0.mk H
                                  clear H
                                  go_upto_region 24 with (fail)
                                  go_cut [68] (fun v68 wc => ∃ (kq : Nat) (x68_18 : Bool), v68 = .bool x68_18 ∧ Aside0 (compassref02_Near.j6 kq x1_6 x2_6 x9_6 x68_18 = some r) ∧ Aside0 (kq ≤ k6) ∧ Drawn0 w wc)
                                  case first =>
                                    have H := HC19.out
                                    clear HC19
                                    by_cases c20 : x11_6 = true
                                    · subst c20
                                      have H1 : (if x3_6 = true then (compassref02_Near.j6 k6 x1_6 x2_6 x9_6 true) else (compassref02_Near.j6 k6 x1_6 x2_6 x9_6 ((Int.tmod x1_6 2) == 1))) = some r := by rw [if_pos rfl] at H; exact H
                                      clear H
                                      have H := H1
                                      clear H1
                                      by_cases c21 : x3_6 = true
                                      · subst c21
                                        have H1 : (compassref02_Near.j6 k6 x1_6 x2_6 x9_6 true) = some r := by rw [if_pos rfl] at H; exact H
                                        clear H
                                        have H := H1
                                        clear H1
                                        have H' := Aside0.mk H
                                        clear H
                                        go_wp2
                                        go_meet
                                        case rel => exact ⟨_, (true), (by first | rfl | (simp; done) | (simp [*]; done)), H', ⟨by have := HJ4.out; have := HJ6.out; have := HJ8.out; have := HJ13.out; have := HK5.out; have := HK6.out; first | omega | exact Nat.le_refl _⟩, by repeat (first | exact Drawn0.refl _ | apply Drawn0.step)⟩
                                      · replace c21 := Bool.eq_false_iff.mpr c21
                                        subst c21
                                        have H1 : (compassref02_Near.j6 k6 x1_6 x2_6 x9_6 ((Int.tmod x1_6 2) == 1)) = some r := by rw [if_neg (show ¬ (false = true) by decide)] at H; exact H
                                        clear H
                                        have H := H1
                                        clear H1
                                        have H' := Aside0.mk H
                                        clear H
                                        go_wp2
                                        go_meet
                                        case rel => exact ⟨_, (((Int.tmod x1_6 2) == 1)), (by first | rfl | (simp; done) | (simp [*]; done)), H', ⟨by have := HJ4.out; have := HJ6.out; have := HJ8.out; have := HJ13.out; have := HK5.out; have := HK6.out; first | omega | exact Nat.le_refl _⟩, by repeat (first | exact Drawn0.refl _ | apply Drawn0.step)⟩
                                    · replace c20 := Bool.eq_false_iff.mpr c20
                                      subst c20
                                      have H1 : (compassref02_Near.j6 k6 x1_6 x2_6 x9_6 false) = some r := by rw [if_neg (show ¬ (false = true) by decide)] at H; exact H
                                      clear H
                                      have H := H1
                                      clear H1
                                      have H' := Aside0.mk H
                                      clear H
                                      go_wp2
                                      go_meet
                                      case rel => exact ⟨_, (false), (by first | rfl | (simp; done) | (simp [*]; done)), H', ⟨by have := HJ4.out; have := HJ6.out; have := HJ8.out; have := HJ13.out; have := HK5.out; have := HK6.out; first | omega | exact Nat.le_refl _⟩, by repeat (first | exact Drawn0.refl _ | apply Drawn0.step)⟩
                                  case rest =>
                                    clear HC19
                                    try clear c1
                                    try clear c2
                                    try clear p2
                                    try clear c3
                                    try clear c4
                                    try clear c6
                                    try clear p6
                                    try clear c8
                                    try clear c10
                                    try clear c10b0
                                    try clear c10b1
                                    try clear c11
                                    try clear c12
                                    try clear c12b0
                                    try clear c13
                                    try clear c15
                                    try clear c15b0
                                    try clear c16
                                    try clear c16b0
                                    try clear c17
                                    try clear c17b0
                                    try clear c18
                                    try clear c20
                                    try clear c21
                                    try clear p2
                                    try clear p6
                                    obtain ⟨kq, x68_18, rfl, HA, HJ18, ⟨mc18, rfl⟩⟩ := hcut
                                    cases kq with
                                    | zero => exact absurd HA.out (by simp [compassref02_Near.j6])
                                    | succ kj18 =>
                                      have H := HA.out
                                      clear HA
                                      simp only [compassref02_Near.j6] at H
                                      have HC22 := Aside0.mk H
                                      clear H
                                      go_upto_if 68 with (fail)
                                      go_cut [1] (fun v1 wc => ∃ (kq : Nat) (x1_21 : Int), v1 = .int .u64 x1_21 ∧ Aside0 (compassref02_Near.j7 kq x1_21 x2_6 x9_6 = some r) ∧ Aside0 (kq ≤ kj18) ∧ Drawn0 w wc)
                                      case first =>
                                        have H := HC22.out
                                        clear HC22
                                        by_cases c23 : x68_18 = true
                                        · subst c23
                                          have H1 : (compassref02_Near.j7 kj18 (IntKind.u64.wrap (x1_6 + 1)) x2_6 x9_6) = some r := by rw [if_pos rfl] at H; exact H
                                          clear H
                                          have H := H1
                                          clear H1
                                          have H' := Aside0.mk H
                                          clear H
                                          go_wp2
                                          go_meet
                                          case rel => exact ⟨_, (IntKind.u64.wrap (x1_6 + 1)), (by first | rfl | (simp; done) | (simp [*]; done)), H', ⟨by have := HJ4.out; have := HJ6.out; have := HJ8.out; have := HJ13.out; have := HK5.out; have := HK6.out; have := HJ18.out; first | omega | exact Nat.le_refl _⟩, by repeat (first | exact Drawn0.refl _ | apply Drawn0.step)⟩
                                        · replace c23 := Bool.eq_false_iff.mpr c23
                                          subst c23
                                          have H1 : (compassref02_Near.j7 kj18 x1_6 x2_6 x9_6) = some r := by rw [if_neg (show ¬ (false = true) by decide)] at H; exact H
                                          clear H
                                          have H := H1
                                          clear H1
                                          have H' := Aside0.mk H
                                          clear H
                                          go_wp2
                                          go_meet
                                          case rel => exact ⟨_, (x1_6), (by first | rfl | (simp; done) | (simp [*]; done)), H', ⟨by have := HJ4.out; have := HJ6.out; have := HJ8.out; have := HJ13.out; have := HK5.out; have := HK6.out; have := HJ18.out; first | omega | exact Nat.le_refl _⟩, by repeat (first | exact Drawn0.refl _ | apply Drawn0.step)⟩
                                      case rest =>
                                        clear HC22
                                        try clear c1
                                        try clear c2
                                        try clear p2
                                        try clear c3
                                        try clear c4
                                        try clear c6
                                        try clear p6
                                        try clear c8
                                        try clear c10
                                        try clear c10b0
                                        try clear c10b1
                                        try clear c11
                                        try clear c12
                                        try clear c12b0
                                        try clear c13
                                        try clear c15
                                        try clear c15b0
                                        try clear c16
                                        try clear c16b0
                                        try clear c17
                                        try clear c17b0
                                        try clear c18
                                        try clear c20
                                        try clear c21
                                        try clear c23
                                        try clear p2
                                        try clear p6
                                        obtain ⟨kq, x1_21, rfl, HA, HJ21, ⟨mc21, rfl⟩⟩ := hcut
                                        cases kq with
                                        | zero => exact absurd HA.out (by simp [compassref02_Near.j7])
                                        | succ kj21 =>
                                          have H := HA.out
                                          clear HA
                                          simp only [compassref02_Near.j7] at H
                                          have HC24 := Aside0.mk H
                                          clear H
                                          go_upto_if 72 with (fail)
                                          go_cut [1, 2] (fun v1 v2 wc => ∃ (kq : Nat) (x1_23 : Int) (x2_23 : Int), v1 = .int .u64 x1_23 ∧ v2 = .int .i64 x2_23 ∧ Aside0 (compassref02_Near.j8 kq x1_23 x2_23 x9_6 = some r) ∧ Aside0 (kq ≤ kj21) ∧ Drawn0 w wc)
                                          case first =>
                                            have H := HC24.out
                                            clear HC24
                                            by_cases c25 : x1_21 = 9007199254740992
                                            · rw [if_pos c25] at H
                                              have c25b0 : (x1_21 == 9007199254740992) = true := beq_iff_eq.mpr c25
                                              have c25b1 : (x1_21 != 9007199254740992) = false := bne_eq_false_iff_eq.mpr c25
                                              clear c25
                                              (first | rw [c25b0] | (simp only [i64_w, i32_w]; rw [c25b0]) | skip)
                                              have H' := Aside0.mk H
                                              clear H
                                              go_wp2
                                              go_meet
                                              case rel => exact ⟨_, (IntKind.u64.wrap (Int.tdiv x1_21 2)), (wrap64 (x2_6 + 1)), (by first | rfl | (simp; done) | (simp [*]; done)), (by first | rfl | (simp; done) | (simp [*]; done)), H', ⟨by have := HJ4.out; have := HJ6.out; have := HJ8.out; have := HJ13.out; have := HK5.out; have := HK6.out; have := HJ18.out; have := HJ21.out; first | omega | exact Nat.le_refl _⟩, by repeat (first | exact Drawn0.refl _ | apply Drawn0.step)⟩
                                            · rw [if_neg c25] at H
                                              have c25b0 : (x1_21 == 9007199254740992) = false := beq_eq_false_iff_ne.mpr c25
                                              have c25b1 : (x1_21 != 9007199254740992) = true := bne_iff_ne.mpr c25
                                              (first | rw [c25b0] | (simp only [i64_w, i32_w]; rw [c25b0]) | skip)
                                              have H' := Aside0.mk H
                                              clear H
                                              go_wp2
                                              go_meet
                                              case rel => exact ⟨_, (x1_21), (x2_6), (by first | rfl | (simp; done) | (simp [*]; done)), (by first | rfl | (simp; done) | (simp [*]; done)), H', ⟨by have := HJ4.out; have := HJ6.out; have := HJ8.out; have := HJ13.out; have := HK5.out; have := HK6.out; have := HJ18.out; have := HJ21.out; first | omega | exact Nat.le_refl _⟩, by repeat (first | exact Drawn0.refl _ | apply Drawn0.step)⟩
                                          case rest =>
                                            clear HC24
                                            try clear c1
                                            try clear c2
                                            try clear p2
                                            try clear c3
                                            try clear c4
                                            try clear c6
                                            try clear p6
                                            try clear c8
                                            try clear c10
                                            try clear c10b0
                                            try clear c10b1
                                            try clear c11
                                            try clear c12
                                            try clear c12b0
                                            try clear c13
                                            try clear c15
                                            try clear c15b0
                                            try clear c16
                                            try clear c16b0
                                            try clear c17
                                            try clear c17b0
                                            try clear c18
                                            try clear c20
                                            try clear c21
                                            try clear c23
                                            try clear c25
                                            try clear c25b0
                                            try clear c25b1
                                            try clear p2
                                            try clear p6
                                            obtain ⟨kq, x1_23, x2_23, rfl, rfl, HA, HJ23, ⟨mc23, rfl⟩⟩ := hcut
                                            cases kq with
                                            | zero => exact absurd HA.out (by simp [compassref02_Near.j8])
                                            | succ kj23 =>
                                              have H := HA.out
                                              clear HA
                                              simp only [compassref02_Near.j8] at H
                                              by_cases c26 : x1_23 < 4503599627370496
                                              · rw [if_pos c26] at H
                                                have c26b0 : decide (x1_23 < 4503599627370496) = true := decide_eq_true c26
                                                clear c26
                                                obtain rfl := Option.some.inj H
                                                go_wp2
                                                go_ret
                                                exact ⟨by first | rfl | (simp; done) | (simp [*]; done), by repeat (first | exact Drawn0.refl _ | apply Drawn0.step)⟩
                                              · rw [if_neg c26] at H
                                                have c26b0 : decide (x1_23 < 4503599627370496) = false := decide_eq_false c26
                                                clear c26
                                                by_cases c27 : (IntKind.u64.wrap (wrap64 (x2_23 + 1075))) ≥ 2047
                                                · rw [if_pos c27] at H
                                                  have c27b0 : decide (2047 ≤ (IntKind.u64.wrap (wrap64 (x2_23 + 1075)))) = true := decide_eq_true c27
                                                  clear c27
                                                  obtain rfl := Option.some.inj H
                                                  go_wp2
                                                  go_ret
                                                  exact ⟨by first | rfl | (simp; done) | (simp [*]; done), by repeat (first | exact Drawn0.refl _ | apply Drawn0.step)⟩
                                                · rw [if_neg c27] at H
                                                  have c27b0 : decide (2047 ≤ (IntKind.u64.wrap (wrap64 (x2_23 + 1075)))) = false := decide_eq_false c27
                                                  clear c27
                                                  obtain rfl := Option.some.inj H
                                                  go_wp2
                                                  go_ret
                                                  exact ⟨by first | rfl | (simp; done) | (simp [*]; done), by repeat (first | exact Drawn0.refl _ | apply Drawn0.step)⟩

end Go.Proofs.YtdkhaibibpekoaaDoor.Q
